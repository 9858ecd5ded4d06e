/-
  The walks: the functions compute what the plain ones say. Condition: the plain function has a value.
-/
import Derived.Test.YtncjhljkjgejlaaK3
import Derived.Test.YtncjhljkjgejlaaD4
namespace Go.LS
open Go.Proofs
set_option linter.all false
set_option linter.unusedSimpArgs false
set_option linter.unusedVariables false
set_option maxRecDepth 20000

theorem ok_ratio_Compare (a : api_Ratio) (b : api_Ratio) (r_ : Int) (H0 : ratio_Compare a b = some r_) : CallOK Try.prog 38 [.agg [.p (pi a.Num), .p (pi a.Den)], .agg [.p (pi b.Num), .p (pi b.Den)]] [] [.one (.p (pi r_))] [] := by
  refine callOK (n := 50) (rs := [.tmp 4]) (nb := 0) (V := []) Try.func38 rfl (by kernel_rfl) rfl rfl rfl rfl (Nat.le_of_ble_eq_true rfl) (by decide) ?_
  unfold ratio_Compare at H0
  refine lok_rt E0 (⟨50, mkS [(2, .x (.one (.ptr 102 0))), (3, .x (.one (.ptr 103 0)))], mkH [(102, .var [.p (pi a.Num), .p (pi a.Den)]), (103, .var [.p (pi b.Num), .p (pi b.Den)])]⟩) ?_
  refine lok_seq ?_
  replace H0 := bind_some H0
  obtain ⟨y, h_0, H0⟩ := H0
  replace H0 := req_some H0
  obtain ⟨q_9, H0⟩ := H0
  refine lok_rt (Env.of E0 [⟨some 8, 23, [.agg [.p (pi a.Num), .p (pi a.Den)]], [], [.one (.p (.val (.bool y)))], [], True, fun _ => ok_ratio_Valid a y h_0, []⟩,
      ⟨some 12, 23, [.agg [.p (pi b.Num), .p (pi b.Den)]], [], [.one (.p (.val (.bool ((ratio_Valid b).getD default))))], [], (ratio_Valid b).isSome = true, fun h => ok_ratio_Valid b _ (isSome_get h), []⟩]) (⟨50, mkS [(2, .x (.one (.ptr 102 0))), (3, .x (.one (.ptr 103 0))), (14, .x (.one (.p (.val (.bool ((!y) || (!((ratio_Valid b).getD default))))))))], mkH [(102, .var [.p (pi a.Num), .p (pi a.Den)]), (103, .var [.p (pi b.Num), .p (pi b.Den)])]⟩) ?_
  refine lok_c ((!y) || (!((ratio_Valid b).getD default))) ?_ ?_
  · intro b_8
    replace H0 := cpos H0 b_8
    refine lok_rt E0 (⟨50, mkS [(4, .x (.one (.p (pi (0 : Int)))))], mkH []⟩) ?_
    refine lok_ret ?_
    obtain rfl := Option.some.inj H0
    try simp only [thenL, blockL]
    exact fin_au _ (.inr rfl) [] (⟨50, mkS [(4, .x (.one (.p (pi (0 : Int)))))], mkH []⟩) rfl rfl imp_au
  · intro b_8
    replace H0 := cneg H0 b_8
    refine lok_skip ?_
    try simp only [thenL, blockL, ↓reduceIte, reduceCtorEq]
    replace H0 := bind_some H0
    obtain ⟨y1, h_1, H0⟩ := H0
    replace H0 := bind_some H0
    obtain ⟨y2, h_2, H0⟩ := H0
    refine lok_et (Env.of E0 [⟨some 20, 73, [.one (.p (pi a.Num)), .one (.p (.val (.int .u64 (IntKind.u64.wrap b.Den))))], [], [.agg [.p (.val (.bool y1.neg)), .p (.val (.int .u64 y1.abs.hi)), .p (.val (.int .u64 y1.abs.lo))]], [], True, fun _ => ok_ratio_signedProduct a.Num (IntKind.u64.wrap b.Den) y1 h_1, []⟩,
      ⟨some 26, 73, [.one (.p (pi b.Num)), .one (.p (.val (.int .u64 (IntKind.u64.wrap a.Den))))], [], [.agg [.p (.val (.bool y2.neg)), .p (.val (.int .u64 y2.abs.hi)), .p (.val (.int .u64 y2.abs.lo))]], [], True, fun _ => ok_ratio_signedProduct b.Num (IntKind.u64.wrap a.Den) y2 h_2, []⟩]) 50 [⟨[(2, .x (.one (.ptr 102 0)))], [], [(15, .x (.one (.ptr 102 0)))], [], none⟩,
      ⟨[(15, .x (.one (.ptr 102 0)))], [(102, some (.var [.p (pi a.Num), .p (pi a.Den)]))], [(16, .x (.one (.p (pi a.Num))))], [], none⟩,
      ⟨[(3, .x (.one (.ptr 103 0)))], [], [(17, .x (.one (.ptr 103 1)))], [], none⟩,
      ⟨[(17, .x (.one (.ptr 103 1)))], [(103, some (.var [.p (pi b.Num), .p (pi b.Den)]))], [(18, .x (.one (.p (pi b.Den))))], [], none⟩,
      ⟨[(18, .x (.one (.p (pi b.Den))))], [], [(19, .x (.one (.p (.val (.int .u64 (IntKind.u64.wrap b.Den))))))], [], none⟩,
      ⟨[(16, .x (.one (.p (pi a.Num)))), (19, .x (.one (.p (.val (.int .u64 (IntKind.u64.wrap b.Den))))))], [], [(20, .x (.agg [.p (.val (.bool y1.neg)), .p (.val (.int .u64 y1.abs.hi)), .p (.val (.int .u64 y1.abs.lo))]))], [], none⟩,
      ⟨[(3, .x (.one (.ptr 103 0)))], [], [(21, .x (.one (.ptr 103 0)))], [], none⟩,
      ⟨[(21, .x (.one (.ptr 103 0)))], [(103, some (.var [.p (pi b.Num), .p (pi b.Den)]))], [(22, .x (.one (.p (pi b.Num))))], [], none⟩,
      ⟨[(2, .x (.one (.ptr 102 0)))], [], [(23, .x (.one (.ptr 102 1)))], [], none⟩,
      ⟨[(23, .x (.one (.ptr 102 1)))], [(102, some (.var [.p (pi a.Num), .p (pi a.Den)]))], [(24, .x (.one (.p (pi a.Den))))], [], none⟩,
      ⟨[(24, .x (.one (.p (pi a.Den))))], [], [(25, .x (.one (.p (.val (.int .u64 (IntKind.u64.wrap a.Den))))))], [], none⟩,
      ⟨[(22, .x (.one (.p (pi b.Num)))), (25, .x (.one (.p (.val (.int .u64 (IntKind.u64.wrap a.Den))))))], [], [(26, .x (.agg [.p (.val (.bool y2.neg)), .p (.val (.int .u64 y2.abs.hi)), .p (.val (.int .u64 y2.abs.lo))]))], [], none⟩,
      ⟨[], [(105, none)], [(5, .x (.one (.ptr 105 0)))], [(105, some (.var [.p (.val (.bool false)), .p (.val (.int .u64 (0 : Int))), .p (.val (.int .u64 (0 : Int)))]))], some 105⟩,
      ⟨[], [(106, none)], [(6, .x (.one (.ptr 106 0)))], [(106, some (.var [.p (.val (.bool false)), .p (.val (.int .u64 (0 : Int))), .p (.val (.int .u64 (0 : Int)))]))], some 106⟩] (⟨50, mkS [(5, .x (.one (.ptr 105 0))), (6, .x (.one (.ptr 106 0)))], mkH [(105, .var [.p (.val (.bool y1.neg)), .p (.val (.int .u64 y1.abs.hi)), .p (.val (.int .u64 y1.abs.lo))]), (106, .var [.p (.val (.bool y2.neg)), .p (.val (.int .u64 y2.abs.hi)), .p (.val (.int .u64 y2.abs.lo))])]⟩) (by kernel_rfl) (by kernel_rfl) (by kernel_rfl) rfl rfl rfl ?_
    refine lok_seq ?_
    refine lok_block ?_
    refine lok_rt E0 (⟨50, mkS [(5, .x (.one (.ptr 105 0))), (6, .x (.one (.ptr 106 0))), (27, .x (.one (.p (.val (.bool (y1.neg && y2.neg))))))], mkH [(105, .var [.p (.val (.bool y1.neg)), .p (.val (.int .u64 y1.abs.hi)), .p (.val (.int .u64 y1.abs.lo))]), (106, .var [.p (.val (.bool y2.neg)), .p (.val (.int .u64 y2.abs.hi)), .p (.val (.int .u64 y2.abs.lo))])]⟩) ?_
    refine lok_c (y1.neg && y2.neg) ?_ ?_
    · intro b_7
      replace H0 := cpos H0 b_7
      replace H0 := bind_some H0
      obtain ⟨y3, h_3, H0⟩ := H0
      refine lok_rt (Env.of E0 [⟨some 38, 74, [.agg [.p (.val (.int .u64 y2.abs.hi)), .p (.val (.int .u64 y2.abs.lo))], .agg [.p (.val (.int .u64 y1.abs.hi)), .p (.val (.int .u64 y1.abs.lo))]], [], [.one (.p (pi y3))], [], True, fun _ => ok_ratio_wide_compare y2.abs y1.abs y3 h_3, []⟩]) (⟨50, mkS [(4, .x (.one (.p (pi y3))))], mkH []⟩) ?_
      refine lok_ret ?_
      obtain rfl := Option.some.inj H0
      try simp only [thenL, blockL]
      exact fin_au _ (.inr rfl) [] (⟨50, mkS [(4, .x (.one (.p (pi y3))))], mkH []⟩) rfl rfl imp_au
    · intro b_7
      replace H0 := cneg H0 b_7
      refine lok_rt E0 (⟨50, mkS [(5, .x (.one (.ptr 105 0))), (6, .x (.one (.ptr 106 0))), (39, .x (.one (.p (.val (.bool y1.neg)))))], mkH [(105, .var [.p (.val (.bool y1.neg)), .p (.val (.int .u64 y1.abs.hi)), .p (.val (.int .u64 y1.abs.lo))]), (106, .var [.p (.val (.bool y2.neg)), .p (.val (.int .u64 y2.abs.hi)), .p (.val (.int .u64 y2.abs.lo))])]⟩) ?_
      refine lok_c y1.neg ?_ ?_
      · intro b_6
        replace H0 := cpos H0 b_6
        refine lok_rt E0 (⟨50, mkS [(4, .x (.one (.p (pi (-1 : Int)))))], mkH []⟩) ?_
        refine lok_ret ?_
        obtain rfl := Option.some.inj H0
        try simp only [thenL, blockL]
        exact fin_au _ (.inr rfl) [] (⟨50, mkS [(4, .x (.one (.p (pi (-1 : Int)))))], mkH []⟩) rfl rfl imp_au
      · intro b_6
        replace H0 := cneg H0 b_6
        refine lok_rt E0 (⟨50, mkS [(5, .x (.one (.ptr 105 0))), (6, .x (.one (.ptr 106 0))), (42, .x (.one (.p (.val (.bool y2.neg)))))], mkH [(105, .var [.p (.val (.bool y1.neg)), .p (.val (.int .u64 y1.abs.hi)), .p (.val (.int .u64 y1.abs.lo))]), (106, .var [.p (.val (.bool y2.neg)), .p (.val (.int .u64 y2.abs.hi)), .p (.val (.int .u64 y2.abs.lo))])]⟩) ?_
        refine lok_c y2.neg ?_ ?_
        · intro b_5
          replace H0 := cpos H0 b_5
          refine lok_rt E0 (⟨50, mkS [(4, .x (.one (.p (pi (1 : Int)))))], mkH []⟩) ?_
          refine lok_ret ?_
          obtain rfl := Option.some.inj H0
          try simp only [thenL, blockL]
          exact fin_au _ (.inr rfl) [] (⟨50, mkS [(4, .x (.one (.p (pi (1 : Int)))))], mkH []⟩) rfl rfl imp_au
        · intro b_5
          replace H0 := cneg H0 b_5
          refine lok_skip ?_
          try simp only [thenL, blockL, ↓reduceIte, reduceCtorEq]
          replace H0 := bind_some H0
          obtain ⟨y4, h_4, H0⟩ := H0
          refine lok_rt (Env.of E0 [⟨some 49, 74, [.agg [.p (.val (.int .u64 y1.abs.hi)), .p (.val (.int .u64 y1.abs.lo))], .agg [.p (.val (.int .u64 y2.abs.hi)), .p (.val (.int .u64 y2.abs.lo))]], [], [.one (.p (pi y4))], [], True, fun _ => ok_ratio_wide_compare y1.abs y2.abs y4 h_4, []⟩]) (⟨50, mkS [(4, .x (.one (.p (pi y4))))], mkH []⟩) ?_
          refine lok_ret ?_
          obtain rfl := Option.some.inj H0
          try simp only [thenL, blockL]
          exact fin_au _ (.inr rfl) [] (⟨50, mkS [(4, .x (.one (.p (pi y4))))], mkH []⟩) rfl rfl imp_au
theorem ok_bits_Add64 (x y carry : Int) (r_ : Int × Int) (H0 : bits_Add64 x y carry = some r_) : CallOK Try.prog 99 [.int .u64 x, .int .u64 y, .int .u64 carry] [] [.int .u64 r_.1, .int .u64 r_.2] [] :=
  okAdd64 Try.func99 (by kernel_rfl) (by kernel_rfl) (by kernel_rfl) (by kernel_rfl) _ _ _ r_ H0
theorem ok_ref01_Plus (a : ref01_Wide) (b : ref01_Wide) (r_ : ref01_Wide) (H0 : ref01_Plus a b = some r_) : CallOK Try.prog 87 [.agg [.p (.val (.int .u64 a.Hi)), .p (.val (.int .u64 a.Lo))], .agg [.p (.val (.int .u64 b.Hi)), .p (.val (.int .u64 b.Lo))]] [] [.agg [.p (.val (.int .u64 r_.Hi)), .p (.val (.int .u64 r_.Lo))]] [] := by
  refine callOK (n := 29) (rs := [.cell 4 63]) (nb := 0) (V := []) Try.func87 rfl (by kernel_rfl) rfl rfl rfl rfl (Nat.le_of_ble_eq_true rfl) (by decide) ?_
  unfold ref01_Plus at H0
  refine lok_rt E0 (⟨29, mkS [(2, .x (.one (.ptr 102 0))), (3, .x (.one (.ptr 103 0))), (4, .x (.one (.ptr 104 0)))], mkH [(102, .var [.p (.val (.int .u64 a.Hi)), .p (.val (.int .u64 a.Lo))]), (103, .var [.p (.val (.int .u64 b.Hi)), .p (.val (.int .u64 b.Lo))]), (104, .var [.p (.val (.int .u64 (0 : Int))), .p (.val (.int .u64 (0 : Int)))])]⟩) ?_
  replace H0 := bind_some H0
  obtain ⟨⟨y, y1⟩, h_0, H0⟩ := H0
  try dsimp only at H0
  refine lok_rt (Env.of E0 [⟨some 14, 99, [.one (.p (.val (.int .u64 a.Lo))), .one (.p (.val (.int .u64 b.Lo))), .one (.p (.val (.int .u64 (0 : Int))))], [], [.one (.p (.val (.int .u64 y))), .one (.p (.val (.int .u64 y1)))], [], True, fun _ => ok_bits_Add64 a.Lo b.Lo (0 : Int) (y, y1) h_0, []⟩]) (⟨29, mkS [(2, .x (.one (.ptr 102 0))), (3, .x (.one (.ptr 103 0))), (4, .x (.one (.ptr 104 0))), (5, .x (.one (.p (.val (.int .u64 y))))), (6, .x (.one (.p (.val (.int .u64 y1)))))], mkH [(102, .var [.p (.val (.int .u64 a.Hi)), .p (.val (.int .u64 a.Lo))]), (103, .var [.p (.val (.int .u64 b.Hi)), .p (.val (.int .u64 b.Lo))]), (104, .var [.p (.val (.int .u64 (0 : Int))), .p (.val (.int .u64 (0 : Int)))])]⟩) ?_
  replace H0 := bind_some H0
  obtain ⟨⟨y2, y3⟩, h_1, H0⟩ := H0
  try dsimp only at H0
  refine lok_rt (Env.of E0 [⟨some 23, 99, [.one (.p (.val (.int .u64 a.Hi))), .one (.p (.val (.int .u64 b.Hi))), .one (.p (.val (.int .u64 y1)))], [], [.one (.p (.val (.int .u64 y2))), .one (.p (.val (.int .u64 y3)))], [], True, fun _ => ok_bits_Add64 a.Hi b.Hi y1 (y2, y3) h_1, []⟩]) (⟨29, mkS [(4, .x (.one (.ptr 104 0))), (5, .x (.one (.p (.val (.int .u64 y))))), (7, .x (.one (.p (.val (.int .u64 y2)))))], mkH [(104, .var [.p (.val (.int .u64 (0 : Int))), .p (.val (.int .u64 (0 : Int)))])]⟩) ?_
  refine lok_rt E0 (⟨29, mkS [(4, .x (.one (.ptr 104 0)))], mkH [(104, .var [.p (.val (.int .u64 y2)), .p (.val (.int .u64 y))])]⟩) ?_
  refine lok_ret ?_
  obtain rfl := Option.some.inj H0
  try simp only [thenL, blockL]
  exact fin_au _ (.inr rfl) [] (⟨29, mkS [(4, .x (.one (.ptr 104 0)))], mkH [(104, .var [.p (.val (.int .u64 y2)), .p (.val (.int .u64 y))])]⟩) rfl rfl imp_au
theorem ok_ref01_total (x : Bool) (a : ref01_Wide) (y : Bool) (b : ref01_Wide) (r_ : Bool × ref01_Wide) (H0 : ref01_total x a y b = some r_) : CallOK Try.prog 75 [.one (.p (.val (.bool x))), .agg [.p (.val (.int .u64 a.Hi)), .p (.val (.int .u64 a.Lo))], .one (.p (.val (.bool y))), .agg [.p (.val (.int .u64 b.Hi)), .p (.val (.int .u64 b.Lo))]] [] [.one (.p (.val (.bool r_.1))), .agg [.p (.val (.int .u64 r_.2.Hi)), .p (.val (.int .u64 r_.2.Lo))]] [] := by
  refine callOK (n := 29) (rs := [.tmp 8, .cell 9 63]) (nb := 0) (V := []) Try.func75 rfl (by kernel_rfl) rfl rfl rfl rfl (Nat.le_of_ble_eq_true rfl) (by decide) ?_
  unfold ref01_total at H0
  refine lok_rt E0 (⟨29, mkS [(0, .x (.one (.p (.val (.bool x))))), (2, .x (.one (.p (.val (.bool y))))), (5, .x (.one (.ptr 105 0))), (7, .x (.one (.ptr 107 0))), (9, .x (.one (.ptr 109 0)))], mkH [(105, .var [.p (.val (.int .u64 a.Hi)), .p (.val (.int .u64 a.Lo))]), (107, .var [.p (.val (.int .u64 b.Hi)), .p (.val (.int .u64 b.Lo))]), (109, .var [.p (.val (.int .u64 (0 : Int))), .p (.val (.int .u64 (0 : Int)))])]⟩) ?_
  refine lok_seq ?_
  refine lok_rt E0 (⟨29, mkS [(0, .x (.one (.p (.val (.bool x))))), (2, .x (.one (.p (.val (.bool y))))), (5, .x (.one (.ptr 105 0))), (7, .x (.one (.ptr 107 0))), (9, .x (.one (.ptr 109 0))), (12, .x (.one (.p (.val (.bool (x == y))))))], mkH [(105, .var [.p (.val (.int .u64 a.Hi)), .p (.val (.int .u64 a.Lo))]), (107, .var [.p (.val (.int .u64 b.Hi)), .p (.val (.int .u64 b.Lo))]), (109, .var [.p (.val (.int .u64 (0 : Int))), .p (.val (.int .u64 (0 : Int)))])]⟩) ?_
  refine lok_c (x == y) ?_ ?_
  · intro b_5
    replace H0 := cpos H0 b_5
    replace H0 := bind_some H0
    obtain ⟨y1, h_0, H0⟩ := H0
    refine lok_rt (Env.of E0 [⟨some 16, 87, [.agg [.p (.val (.int .u64 a.Hi)), .p (.val (.int .u64 a.Lo))], .agg [.p (.val (.int .u64 b.Hi)), .p (.val (.int .u64 b.Lo))]], [], [.agg [.p (.val (.int .u64 y1.Hi)), .p (.val (.int .u64 y1.Lo))]], [], True, fun _ => ok_ref01_Plus a b y1 h_0, []⟩]) (⟨29, mkS [(8, .x (.one (.p (.val (.bool x))))), (9, .x (.one (.ptr 109 0)))], mkH [(109, .var [.p (.val (.int .u64 y1.Hi)), .p (.val (.int .u64 y1.Lo))])]⟩) ?_
    refine lok_ret ?_
    obtain rfl := Option.some.inj H0
    try simp only [thenL, blockL]
    exact fin_au _ (.inr rfl) [] (⟨29, mkS [(8, .x (.one (.p (.val (.bool x))))), (9, .x (.one (.ptr 109 0)))], mkH [(109, .var [.p (.val (.int .u64 y1.Hi)), .p (.val (.int .u64 y1.Lo))])]⟩) rfl rfl imp_au
  · intro b_5
    replace H0 := cneg H0 b_5
    refine lok_skip ?_
    try simp only [thenL, blockL, ↓reduceIte, reduceCtorEq]
    refine lok_seq ?_
    replace H0 := bind_some H0
    obtain ⟨y2, h_1, H0⟩ := H0
    refine lok_rt (Env.of E0 [⟨some 19, 88, [.agg [.p (.val (.int .u64 a.Hi)), .p (.val (.int .u64 a.Lo))], .agg [.p (.val (.int .u64 b.Hi)), .p (.val (.int .u64 b.Lo))]], [], [.one (.p (pi y2))], [], True, fun _ => ok_ref01_Order a b y2 h_1, []⟩]) (⟨29, mkS [(0, .x (.one (.p (.val (.bool x))))), (2, .x (.one (.p (.val (.bool y))))), (5, .x (.one (.ptr 105 0))), (7, .x (.one (.ptr 107 0))), (9, .x (.one (.ptr 109 0))), (20, .x (.one (.p (.val (.bool (decide ((0 : Int) ≤ y2)))))))], mkH [(105, .var [.p (.val (.int .u64 a.Hi)), .p (.val (.int .u64 a.Lo))]), (107, .var [.p (.val (.int .u64 b.Hi)), .p (.val (.int .u64 b.Lo))]), (109, .var [.p (.val (.int .u64 (0 : Int))), .p (.val (.int .u64 (0 : Int)))])]⟩) ?_
    refine lok_c (decide ((0 : Int) ≤ y2)) ?_ ?_
    · intro b_4
      replace H0 := cpos H0 b_4
      replace H0 := bind_some H0
      obtain ⟨y3, h_2, H0⟩ := H0
      refine lok_rt (Env.of E0 [⟨some 24, 89, [.agg [.p (.val (.int .u64 a.Hi)), .p (.val (.int .u64 a.Lo))], .agg [.p (.val (.int .u64 b.Hi)), .p (.val (.int .u64 b.Lo))]], [], [.agg [.p (.val (.int .u64 y3.Hi)), .p (.val (.int .u64 y3.Lo))]], [], True, fun _ => ok_ref01_Minus a b y3 h_2, []⟩]) (⟨29, mkS [(8, .x (.one (.p (.val (.bool x))))), (9, .x (.one (.ptr 109 0)))], mkH [(109, .var [.p (.val (.int .u64 y3.Hi)), .p (.val (.int .u64 y3.Lo))])]⟩) ?_
      refine lok_ret ?_
      obtain rfl := Option.some.inj H0
      try simp only [thenL, blockL]
      exact fin_au _ (.inr rfl) [] (⟨29, mkS [(8, .x (.one (.p (.val (.bool x))))), (9, .x (.one (.ptr 109 0)))], mkH [(109, .var [.p (.val (.int .u64 y3.Hi)), .p (.val (.int .u64 y3.Lo))])]⟩) rfl rfl imp_au
    · intro b_4
      replace H0 := cneg H0 b_4
      refine lok_skip ?_
      try simp only [thenL, blockL, ↓reduceIte, reduceCtorEq]
      replace H0 := bind_some H0
      obtain ⟨y4, h_3, H0⟩ := H0
      refine lok_rt (Env.of E0 [⟨some 28, 89, [.agg [.p (.val (.int .u64 b.Hi)), .p (.val (.int .u64 b.Lo))], .agg [.p (.val (.int .u64 a.Hi)), .p (.val (.int .u64 a.Lo))]], [], [.agg [.p (.val (.int .u64 y4.Hi)), .p (.val (.int .u64 y4.Lo))]], [], True, fun _ => ok_ref01_Minus b a y4 h_3, []⟩]) (⟨29, mkS [(8, .x (.one (.p (.val (.bool y))))), (9, .x (.one (.ptr 109 0)))], mkH [(109, .var [.p (.val (.int .u64 y4.Hi)), .p (.val (.int .u64 y4.Lo))])]⟩) ?_
      refine lok_ret ?_
      obtain rfl := Option.some.inj H0
      try simp only [thenL, blockL]
      exact fin_au _ (.inr rfl) [] (⟨29, mkS [(8, .x (.one (.p (.val (.bool y))))), (9, .x (.one (.ptr 109 0)))], mkH [(109, .var [.p (.val (.int .u64 y4.Hi)), .p (.val (.int .u64 y4.Lo))])]⟩) rfl rfl imp_au
theorem ok_ref01_Compare (a : api_Ratio) (b : api_Ratio) (r_ : Int) (H0 : ref01_Compare a b = some r_) : CallOK Try.prog 39 [.agg [.p (pi a.Num), .p (pi a.Den)], .agg [.p (pi b.Num), .p (pi b.Den)]] [] [.one (.p (pi r_))] [] := by
  refine callOK (n := 43) (rs := [.tmp 4]) (nb := 0) (V := []) Try.func39 rfl (by kernel_rfl) rfl rfl rfl rfl (Nat.le_of_ble_eq_true rfl) (by decide) ?_
  unfold ref01_Compare at H0
  refine lok_rt E0 (⟨43, mkS [(2, .x (.one (.ptr 102 0))), (3, .x (.one (.ptr 103 0)))], mkH [(102, .var [.p (pi a.Num), .p (pi a.Den)]), (103, .var [.p (pi b.Num), .p (pi b.Den)])]⟩) ?_
  refine lok_seq ?_
  replace H0 := bind_some H0
  obtain ⟨y, h_0, H0⟩ := H0
  replace H0 := req_some H0
  obtain ⟨q_11, H0⟩ := H0
  refine lok_rt (Env.of E0 [⟨some 8, 24, [.agg [.p (pi a.Num), .p (pi a.Den)]], [], [.one (.p (.val (.bool y)))], [], True, fun _ => ok_ref01_Valid a y h_0, []⟩,
      ⟨some 12, 24, [.agg [.p (pi b.Num), .p (pi b.Den)]], [], [.one (.p (.val (.bool ((ref01_Valid b).getD default))))], [], (ref01_Valid b).isSome = true, fun h => ok_ref01_Valid b _ (isSome_get h), []⟩]) (⟨43, mkS [(2, .x (.one (.ptr 102 0))), (3, .x (.one (.ptr 103 0))), (14, .x (.one (.p (.val (.bool ((!y) || (!((ref01_Valid b).getD default))))))))], mkH [(102, .var [.p (pi a.Num), .p (pi a.Den)]), (103, .var [.p (pi b.Num), .p (pi b.Den)])]⟩) ?_
  refine lok_c ((!y) || (!((ref01_Valid b).getD default))) ?_ ?_
  · intro b_10
    replace H0 := cpos H0 b_10
    refine lok_rt E0 (⟨43, mkS [(4, .x (.one (.p (pi (0 : Int)))))], mkH []⟩) ?_
    refine lok_ret ?_
    obtain rfl := Option.some.inj H0
    try simp only [thenL, blockL]
    exact fin_au _ (.inr rfl) [] (⟨43, mkS [(4, .x (.one (.p (pi (0 : Int)))))], mkH []⟩) rfl rfl imp_au
  · intro b_10
    replace H0 := cneg H0 b_10
    refine lok_skip ?_
    try simp only [thenL, blockL, ↓reduceIte, reduceCtorEq]
    replace H0 := bind_some H0
    obtain ⟨y1, h_1, H0⟩ := H0
    replace H0 := bind_some H0
    obtain ⟨y2, h_2, H0⟩ := H0
    replace H0 := bind_some H0
    obtain ⟨y3, h_3, H0⟩ := H0
    replace H0 := bind_some H0
    obtain ⟨y4, h_4, H0⟩ := H0
    replace H0 := bind_some H0
    obtain ⟨y5, h_5, H0⟩ := H0
    replace H0 := bind_some H0
    obtain ⟨y6, h_6, H0⟩ := H0
    replace H0 := bind_some H0
    obtain ⟨⟨y7, y8⟩, h_7, H0⟩ := H0
    try dsimp only at H0
    refine lok_et (Env.of E0 [⟨some 21, 59, [.one (.p (pi a.Num))], [], [.one (.p (.val (.int .u64 y1)))], [], True, fun _ => ok_ref01_Size a.Num y1 h_1, []⟩,
      ⟨some 24, 59, [.one (.p (pi b.Den))], [], [.one (.p (.val (.int .u64 y2)))], [], True, fun _ => ok_ref01_Size b.Den y2 h_2, []⟩,
      ⟨some 25, 72, [.one (.p (.val (.int .u64 y1))), .one (.p (.val (.int .u64 y2)))], [], [.agg [.p (.val (.int .u64 y3.Hi)), .p (.val (.int .u64 y3.Lo))]], [], True, fun _ => ok_ref01_Product y1 y2 y3 h_3, []⟩,
      ⟨some 31, 59, [.one (.p (pi b.Num))], [], [.one (.p (.val (.int .u64 y4)))], [], True, fun _ => ok_ref01_Size b.Num y4 h_4, []⟩,
      ⟨some 34, 59, [.one (.p (pi a.Den))], [], [.one (.p (.val (.int .u64 y5)))], [], True, fun _ => ok_ref01_Size a.Den y5 h_5, []⟩,
      ⟨some 35, 72, [.one (.p (.val (.int .u64 y4))), .one (.p (.val (.int .u64 y5)))], [], [.agg [.p (.val (.int .u64 y6.Hi)), .p (.val (.int .u64 y6.Lo))]], [], True, fun _ => ok_ref01_Product y4 y5 y6 h_6, []⟩,
      ⟨some 36, 75, [.one (.p (.val (.bool (decide (a.Num < (0 : Int)))))), .agg [.p (.val (.int .u64 y3.Hi)), .p (.val (.int .u64 y3.Lo))], .one (.p (.val (.bool (decide ((0 : Int) < b.Num))))), .agg [.p (.val (.int .u64 y6.Hi)), .p (.val (.int .u64 y6.Lo))]], [], [.one (.p (.val (.bool y7))), .agg [.p (.val (.int .u64 y8.Hi)), .p (.val (.int .u64 y8.Lo))]], [], True, fun _ => ok_ref01_total (decide (a.Num < (0 : Int))) y3 (decide ((0 : Int) < b.Num)) y6 (y7, y8) h_7, []⟩]) 43 [⟨[(2, .x (.one (.ptr 102 0)))], [], [(16, .x (.one (.ptr 102 0)))], [], none⟩,
      ⟨[(16, .x (.one (.ptr 102 0)))], [(102, some (.var [.p (pi a.Num), .p (pi a.Den)]))], [(17, .x (.one (.p (pi a.Num))))], [], none⟩,
      ⟨[(17, .x (.one (.p (pi a.Num))))], [], [(18, .x (.one (.p (.val (.bool (decide (a.Num < (0 : Int))))))))], [], none⟩,
      ⟨[(2, .x (.one (.ptr 102 0)))], [], [(19, .x (.one (.ptr 102 0)))], [], none⟩,
      ⟨[(19, .x (.one (.ptr 102 0)))], [(102, some (.var [.p (pi a.Num), .p (pi a.Den)]))], [(20, .x (.one (.p (pi a.Num))))], [], none⟩,
      ⟨[(20, .x (.one (.p (pi a.Num))))], [], [(21, .x (.one (.p (.val (.int .u64 y1)))))], [], none⟩,
      ⟨[(3, .x (.one (.ptr 103 0)))], [], [(22, .x (.one (.ptr 103 1)))], [], none⟩,
      ⟨[(22, .x (.one (.ptr 103 1)))], [(103, some (.var [.p (pi b.Num), .p (pi b.Den)]))], [(23, .x (.one (.p (pi b.Den))))], [], none⟩,
      ⟨[(23, .x (.one (.p (pi b.Den))))], [], [(24, .x (.one (.p (.val (.int .u64 y2)))))], [], none⟩,
      ⟨[(21, .x (.one (.p (.val (.int .u64 y1))))), (24, .x (.one (.p (.val (.int .u64 y2)))))], [], [(25, .x (.agg [.p (.val (.int .u64 y3.Hi)), .p (.val (.int .u64 y3.Lo))]))], [], none⟩,
      ⟨[(3, .x (.one (.ptr 103 0)))], [], [(26, .x (.one (.ptr 103 0)))], [], none⟩,
      ⟨[(26, .x (.one (.ptr 103 0)))], [(103, some (.var [.p (pi b.Num), .p (pi b.Den)]))], [(27, .x (.one (.p (pi b.Num))))], [], none⟩,
      ⟨[(27, .x (.one (.p (pi b.Num))))], [], [(28, .x (.one (.p (.val (.bool (decide ((0 : Int) < b.Num)))))))], [], none⟩,
      ⟨[(3, .x (.one (.ptr 103 0)))], [], [(29, .x (.one (.ptr 103 0)))], [], none⟩,
      ⟨[(29, .x (.one (.ptr 103 0)))], [(103, some (.var [.p (pi b.Num), .p (pi b.Den)]))], [(30, .x (.one (.p (pi b.Num))))], [], none⟩,
      ⟨[(30, .x (.one (.p (pi b.Num))))], [], [(31, .x (.one (.p (.val (.int .u64 y4)))))], [], none⟩,
      ⟨[(2, .x (.one (.ptr 102 0)))], [], [(32, .x (.one (.ptr 102 1)))], [], none⟩,
      ⟨[(32, .x (.one (.ptr 102 1)))], [(102, some (.var [.p (pi a.Num), .p (pi a.Den)]))], [(33, .x (.one (.p (pi a.Den))))], [], none⟩,
      ⟨[(33, .x (.one (.p (pi a.Den))))], [], [(34, .x (.one (.p (.val (.int .u64 y5)))))], [], none⟩,
      ⟨[(31, .x (.one (.p (.val (.int .u64 y4))))), (34, .x (.one (.p (.val (.int .u64 y5)))))], [], [(35, .x (.agg [.p (.val (.int .u64 y6.Hi)), .p (.val (.int .u64 y6.Lo))]))], [], none⟩,
      ⟨[(18, .x (.one (.p (.val (.bool (decide (a.Num < (0 : Int)))))))), (25, .x (.agg [.p (.val (.int .u64 y3.Hi)), .p (.val (.int .u64 y3.Lo))])), (28, .x (.one (.p (.val (.bool (decide ((0 : Int) < b.Num))))))), (35, .x (.agg [.p (.val (.int .u64 y6.Hi)), .p (.val (.int .u64 y6.Lo))]))], [], [(36, .tup [.one (.p (.val (.bool y7))), .agg [.p (.val (.int .u64 y8.Hi)), .p (.val (.int .u64 y8.Lo))]])], [], none⟩,
      ⟨[(36, .tup [.one (.p (.val (.bool y7))), .agg [.p (.val (.int .u64 y8.Hi)), .p (.val (.int .u64 y8.Lo))]])], [], [(15, .tup [.one (.p (.val (.bool y7))), .agg [.p (.val (.int .u64 y8.Hi)), .p (.val (.int .u64 y8.Lo))]])], [], none⟩,
      ⟨[(15, .tup [.one (.p (.val (.bool y7))), .agg [.p (.val (.int .u64 y8.Hi)), .p (.val (.int .u64 y8.Lo))]])], [], [(37, .x (.one (.p (.val (.bool y7)))))], [], none⟩,
      ⟨[(15, .tup [.one (.p (.val (.bool y7))), .agg [.p (.val (.int .u64 y8.Hi)), .p (.val (.int .u64 y8.Lo))]])], [], [(38, .x (.agg [.p (.val (.int .u64 y8.Hi)), .p (.val (.int .u64 y8.Lo))]))], [], none⟩,
      ⟨[], [(106, none)], [(6, .x (.one (.ptr 106 0)))], [(106, some (.var [.p (.val (.int .u64 (0 : Int))), .p (.val (.int .u64 (0 : Int)))]))], some 106⟩,
      ⟨[(37, .x (.one (.p (.val (.bool y7)))))], [], [(5, .x (.one (.p (.val (.bool y7)))))], [], none⟩] (⟨43, mkS [(5, .x (.one (.p (.val (.bool y7))))), (6, .x (.one (.ptr 106 0)))], mkH [(106, .var [.p (.val (.int .u64 y8.Hi)), .p (.val (.int .u64 y8.Lo))])]⟩) (by kernel_rfl) (by kernel_rfl) (by kernel_rfl) rfl rfl rfl ?_
    refine lok_seq ?_
    refine lok_rt E0 (⟨43, mkS [(5, .x (.one (.p (.val (.bool y7))))), (41, .x (.one (.p (.val (.bool ((y8.Hi == (0 : Int)) && (y8.Lo == (0 : Int))))))))], mkH []⟩) ?_
    refine lok_c ((y8.Hi == (0 : Int)) && (y8.Lo == (0 : Int))) ?_ ?_
    · intro b_9
      replace H0 := cpos H0 b_9
      refine lok_rt E0 (⟨43, mkS [(4, .x (.one (.p (pi (0 : Int)))))], mkH []⟩) ?_
      refine lok_ret ?_
      obtain rfl := Option.some.inj H0
      try simp only [thenL, blockL]
      exact fin_au _ (.inr rfl) [] (⟨43, mkS [(4, .x (.one (.p (pi (0 : Int)))))], mkH []⟩) rfl rfl imp_au
    · intro b_9
      replace H0 := cneg H0 b_9
      refine lok_skip ?_
      try simp only [thenL, blockL, ↓reduceIte, reduceCtorEq]
      refine lok_seq ?_
      refine lok_rt E0 (⟨43, mkS [(42, .x (.one (.p (.val (.bool y7)))))], mkH []⟩) ?_
      refine lok_c y7 ?_ ?_
      · intro b_8
        replace H0 := cpos H0 b_8
        refine lok_rt E0 (⟨43, mkS [(4, .x (.one (.p (pi (-1 : Int)))))], mkH []⟩) ?_
        refine lok_ret ?_
        obtain rfl := Option.some.inj H0
        try simp only [thenL, blockL]
        exact fin_au _ (.inr rfl) [] (⟨43, mkS [(4, .x (.one (.p (pi (-1 : Int)))))], mkH []⟩) rfl rfl imp_au
      · intro b_8
        replace H0 := cneg H0 b_8
        refine lok_skip ?_
        try simp only [thenL, blockL, ↓reduceIte, reduceCtorEq]
        refine lok_rt E0 (⟨43, mkS [(4, .x (.one (.p (pi (1 : Int)))))], mkH []⟩) ?_
        refine lok_ret ?_
        obtain rfl := Option.some.inj H0
        try simp only [thenL, blockL]
        exact fin_au _ (.inr rfl) [] (⟨43, mkS [(4, .x (.one (.p (pi (1 : Int)))))], mkH []⟩) rfl rfl imp_au
theorem ok_ratio_Less (a : api_Ratio) (b : api_Ratio) (r_ : Bool) (H0 : ratio_Less a b = some r_) : CallOK Try.prog 40 [.agg [.p (pi a.Num), .p (pi a.Den)], .agg [.p (pi b.Num), .p (pi b.Den)]] [] [.one (.p (.val (.bool r_)))] [] := by
  refine callOK (n := 9) (rs := [.tmp 4]) (nb := 0) (V := []) Try.func40 rfl (by kernel_rfl) rfl rfl rfl rfl (Nat.le_of_ble_eq_true rfl) (by decide) ?_
  unfold ratio_Less at H0
  refine lok_rt E0 (⟨9, mkS [(2, .x (.one (.ptr 102 0))), (3, .x (.one (.ptr 103 0)))], mkH [(102, .var [.p (pi a.Num), .p (pi a.Den)]), (103, .var [.p (pi b.Num), .p (pi b.Den)])]⟩) ?_
  replace H0 := bind_some H0
  obtain ⟨y, h_0, H0⟩ := H0
  refine lok_rt (Env.of E0 [⟨some 7, 38, [.agg [.p (pi a.Num), .p (pi a.Den)], .agg [.p (pi b.Num), .p (pi b.Den)]], [], [.one (.p (pi y))], [], True, fun _ => ok_ratio_Compare a b y h_0, []⟩]) (⟨9, mkS [(4, .x (.one (.p (.val (.bool (y == (-1 : Int)))))))], mkH []⟩) ?_
  refine lok_ret ?_
  obtain rfl := Option.some.inj H0
  try simp only [thenL, blockL]
  exact fin_au _ (.inr rfl) [] (⟨9, mkS [(4, .x (.one (.p (.val (.bool (y == (-1 : Int)))))))], mkH []⟩) rfl rfl imp_au
theorem ok_ref01_Less (a : api_Ratio) (b : api_Ratio) (r_ : Bool) (H0 : ref01_Less a b = some r_) : CallOK Try.prog 41 [.agg [.p (pi a.Num), .p (pi a.Den)], .agg [.p (pi b.Num), .p (pi b.Den)]] [] [.one (.p (.val (.bool r_)))] [] := by
  refine callOK (n := 9) (rs := [.tmp 4]) (nb := 0) (V := []) Try.func41 rfl (by kernel_rfl) rfl rfl rfl rfl (Nat.le_of_ble_eq_true rfl) (by decide) ?_
  unfold ref01_Less at H0
  refine lok_rt E0 (⟨9, mkS [(2, .x (.one (.ptr 102 0))), (3, .x (.one (.ptr 103 0)))], mkH [(102, .var [.p (pi a.Num), .p (pi a.Den)]), (103, .var [.p (pi b.Num), .p (pi b.Den)])]⟩) ?_
  replace H0 := bind_some H0
  obtain ⟨y, h_0, H0⟩ := H0
  refine lok_rt (Env.of E0 [⟨some 7, 39, [.agg [.p (pi a.Num), .p (pi a.Den)], .agg [.p (pi b.Num), .p (pi b.Den)]], [], [.one (.p (pi y))], [], True, fun _ => ok_ref01_Compare a b y h_0, []⟩]) (⟨9, mkS [(4, .x (.one (.p (.val (.bool (decide (y < (0 : Int))))))))], mkH []⟩) ?_
  refine lok_ret ?_
  obtain rfl := Option.some.inj H0
  try simp only [thenL, blockL]
  exact fin_au _ (.inr rfl) [] (⟨9, mkS [(4, .x (.one (.p (.val (.bool (decide (y < (0 : Int))))))))], mkH []⟩) rfl rfl imp_au
theorem ok_law01_RatioCompares (a : Int) (b : Int) (c : Int) (d : Int) (r_ : Bool) (H0 : law01_RatioCompares a b c d = some r_) : CallOK Try.prog 9 [.one (.p (pi a)), .one (.p (pi b)), .one (.p (pi c)), .one (.p (pi d))] [] [.one (.p (.val (.bool r_)))] [] := by
  refine callOK (n := 36) (rs := [.tmp 8]) (nb := 0) (V := []) Try.func9 rfl (by kernel_rfl) rfl rfl rfl rfl (Nat.le_of_ble_eq_true rfl) (by decide) ?_
  unfold law01_RatioCompares at H0
  refine lok_rt E0 (⟨36, mkS [(0, .x (.one (.p (pi a)))), (1, .x (.one (.p (pi b)))), (2, .x (.one (.p (pi c)))), (3, .x (.one (.p (pi d))))], mkH []⟩) ?_
  refine lok_rt E0 (⟨36, mkS [(9, .x (.one (.ptr 109 0))), (10, .x (.one (.ptr 110 0)))], mkH [(109, .var [.p (pi a), .p (pi b)]), (110, .var [.p (pi c), .p (pi d)])]⟩) ?_
  replace H0 := bind_some H0
  obtain ⟨y, h_0, H0⟩ := H0
  replace H0 := bind_some H0
  obtain ⟨y1, h_1, H0⟩ := H0
  replace H0 := req_some H0
  obtain ⟨⟨q_2, q_3, q_4⟩, H0⟩ := H0
  refine lok_dt (Env.of E0 [⟨some 19, 38, [.agg [.p (pi a), .p (pi b)], .agg [.p (pi c), .p (pi d)]], [], [.one (.p (pi y))], [], True, fun _ => ok_ratio_Compare (api_Ratio.mk a b) (api_Ratio.mk c d) y h_0, []⟩,
      ⟨some 22, 39, [.agg [.p (pi a), .p (pi b)], .agg [.p (pi c), .p (pi d)]], [], [.one (.p (pi y1))], [], True, fun _ => ok_ref01_Compare (api_Ratio.mk a b) (api_Ratio.mk c d) y1 h_1, []⟩,
      ⟨some 27, 40, [.agg [.p (pi a), .p (pi b)], .agg [.p (pi c), .p (pi d)]], [], [.one (.p (.val (.bool ((ratio_Less (api_Ratio.mk a b) (api_Ratio.mk c d)).getD default))))], [], (ratio_Less (api_Ratio.mk a b) (api_Ratio.mk c d)).isSome = true, fun h => ok_ratio_Less (api_Ratio.mk a b) (api_Ratio.mk c d) _ (isSome_get h), []⟩,
      ⟨some 30, 41, [.agg [.p (pi a), .p (pi b)], .agg [.p (pi c), .p (pi d)]], [], [.one (.p (.val (.bool ((ref01_Less (api_Ratio.mk a b) (api_Ratio.mk c d)).getD default))))], [], (ref01_Less (api_Ratio.mk a b) (api_Ratio.mk c d)).isSome = true, fun h => ok_ref01_Less (api_Ratio.mk a b) (api_Ratio.mk c d) _ (isSome_get h), []⟩,
      ⟨some 34, 17, [], [], [.one (.p (.val (.bool ((law01_awake).getD default))))], [], (law01_awake).isSome = true, fun h => ok_law01_awake _ (isSome_get h), []⟩]) 13 (⟨36, mkS [(8, .x (.one (.p (.val (.bool (((y == y1) && (((ratio_Less (api_Ratio.mk a b) (api_Ratio.mk c d)).getD default) == ((ref01_Less (api_Ratio.mk a b) (api_Ratio.mk c d)).getD default))) && ((law01_awake).getD default)))))))], mkH []⟩) (by kernel_rfl) (by kernel_rfl) ?_
  refine lok_ret ?_
  obtain rfl := Option.some.inj H0
  try simp only [thenL, blockL]
  exact fin_au _ (.inr rfl) [] (⟨36, mkS [(8, .x (.one (.p (.val (.bool (((y == y1) && (((ratio_Less (api_Ratio.mk a b) (api_Ratio.mk c d)).getD default) == ((ref01_Less (api_Ratio.mk a b) (api_Ratio.mk c d)).getD default))) && ((law01_awake).getD default)))))))], mkH []⟩) rfl rfl imp_au
theorem ok_ratio_wide_plus (a : ratio_wide) (b : ratio_wide) (r_ : ratio_wide) (H0 : ratio_wide_plus a b = some r_) : CallOK Try.prog 90 [.agg [.p (.val (.int .u64 a.hi)), .p (.val (.int .u64 a.lo))], .agg [.p (.val (.int .u64 b.hi)), .p (.val (.int .u64 b.lo))]] [] [.agg [.p (.val (.int .u64 r_.hi)), .p (.val (.int .u64 r_.lo))]] [] := by
  refine callOK (n := 29) (rs := [.cell 4 58]) (nb := 0) (V := []) Try.func90 rfl (by kernel_rfl) rfl rfl rfl rfl (Nat.le_of_ble_eq_true rfl) (by decide) ?_
  unfold ratio_wide_plus at H0
  refine lok_rt E0 (⟨29, mkS [(2, .x (.one (.ptr 102 0))), (3, .x (.one (.ptr 103 0))), (4, .x (.one (.ptr 104 0)))], mkH [(102, .var [.p (.val (.int .u64 a.hi)), .p (.val (.int .u64 a.lo))]), (103, .var [.p (.val (.int .u64 b.hi)), .p (.val (.int .u64 b.lo))]), (104, .var [.p (.val (.int .u64 (0 : Int))), .p (.val (.int .u64 (0 : Int)))])]⟩) ?_
  replace H0 := bind_some H0
  obtain ⟨⟨y, y1⟩, h_0, H0⟩ := H0
  try dsimp only at H0
  refine lok_rt (Env.of E0 [⟨some 14, 99, [.one (.p (.val (.int .u64 a.lo))), .one (.p (.val (.int .u64 b.lo))), .one (.p (.val (.int .u64 (0 : Int))))], [], [.one (.p (.val (.int .u64 y))), .one (.p (.val (.int .u64 y1)))], [], True, fun _ => ok_bits_Add64 a.lo b.lo (0 : Int) (y, y1) h_0, []⟩]) (⟨29, mkS [(2, .x (.one (.ptr 102 0))), (3, .x (.one (.ptr 103 0))), (4, .x (.one (.ptr 104 0))), (5, .x (.one (.p (.val (.int .u64 y))))), (6, .x (.one (.p (.val (.int .u64 y1)))))], mkH [(102, .var [.p (.val (.int .u64 a.hi)), .p (.val (.int .u64 a.lo))]), (103, .var [.p (.val (.int .u64 b.hi)), .p (.val (.int .u64 b.lo))]), (104, .var [.p (.val (.int .u64 (0 : Int))), .p (.val (.int .u64 (0 : Int)))])]⟩) ?_
  replace H0 := bind_some H0
  obtain ⟨⟨y2, y3⟩, h_1, H0⟩ := H0
  try dsimp only at H0
  refine lok_rt (Env.of E0 [⟨some 23, 99, [.one (.p (.val (.int .u64 a.hi))), .one (.p (.val (.int .u64 b.hi))), .one (.p (.val (.int .u64 y1)))], [], [.one (.p (.val (.int .u64 y2))), .one (.p (.val (.int .u64 y3)))], [], True, fun _ => ok_bits_Add64 a.hi b.hi y1 (y2, y3) h_1, []⟩]) (⟨29, mkS [(4, .x (.one (.ptr 104 0))), (5, .x (.one (.p (.val (.int .u64 y))))), (7, .x (.one (.p (.val (.int .u64 y2)))))], mkH [(104, .var [.p (.val (.int .u64 (0 : Int))), .p (.val (.int .u64 (0 : Int)))])]⟩) ?_
  refine lok_rt E0 (⟨29, mkS [(4, .x (.one (.ptr 104 0)))], mkH [(104, .var [.p (.val (.int .u64 y2)), .p (.val (.int .u64 y))])]⟩) ?_
  refine lok_ret ?_
  obtain rfl := Option.some.inj H0
  try simp only [thenL, blockL]
  exact fin_au _ (.inr rfl) [] (⟨29, mkS [(4, .x (.one (.ptr 104 0)))], mkH [(104, .var [.p (.val (.int .u64 y2)), .p (.val (.int .u64 y))])]⟩) rfl rfl imp_au
theorem ok_ratio_wide_minus (a : ratio_wide) (b : ratio_wide) (r_ : ratio_wide) (H0 : ratio_wide_minus a b = some r_) : CallOK Try.prog 91 [.agg [.p (.val (.int .u64 a.hi)), .p (.val (.int .u64 a.lo))], .agg [.p (.val (.int .u64 b.hi)), .p (.val (.int .u64 b.lo))]] [] [.agg [.p (.val (.int .u64 r_.hi)), .p (.val (.int .u64 r_.lo))]] [] := by
  refine callOK (n := 29) (rs := [.cell 4 58]) (nb := 0) (V := []) Try.func91 rfl (by kernel_rfl) rfl rfl rfl rfl (Nat.le_of_ble_eq_true rfl) (by decide) ?_
  unfold ratio_wide_minus at H0
  refine lok_rt E0 (⟨29, mkS [(2, .x (.one (.ptr 102 0))), (3, .x (.one (.ptr 103 0))), (4, .x (.one (.ptr 104 0)))], mkH [(102, .var [.p (.val (.int .u64 a.hi)), .p (.val (.int .u64 a.lo))]), (103, .var [.p (.val (.int .u64 b.hi)), .p (.val (.int .u64 b.lo))]), (104, .var [.p (.val (.int .u64 (0 : Int))), .p (.val (.int .u64 (0 : Int)))])]⟩) ?_
  replace H0 := bind_some H0
  obtain ⟨⟨y, y1⟩, h_0, H0⟩ := H0
  try dsimp only at H0
  refine lok_rt (Env.of E0 [⟨some 14, 100, [.one (.p (.val (.int .u64 a.lo))), .one (.p (.val (.int .u64 b.lo))), .one (.p (.val (.int .u64 (0 : Int))))], [], [.one (.p (.val (.int .u64 y))), .one (.p (.val (.int .u64 y1)))], [], True, fun _ => ok_bits_Sub64 a.lo b.lo (0 : Int) (y, y1) h_0, []⟩]) (⟨29, mkS [(2, .x (.one (.ptr 102 0))), (3, .x (.one (.ptr 103 0))), (4, .x (.one (.ptr 104 0))), (5, .x (.one (.p (.val (.int .u64 y))))), (6, .x (.one (.p (.val (.int .u64 y1)))))], mkH [(102, .var [.p (.val (.int .u64 a.hi)), .p (.val (.int .u64 a.lo))]), (103, .var [.p (.val (.int .u64 b.hi)), .p (.val (.int .u64 b.lo))]), (104, .var [.p (.val (.int .u64 (0 : Int))), .p (.val (.int .u64 (0 : Int)))])]⟩) ?_
  replace H0 := bind_some H0
  obtain ⟨⟨y2, y3⟩, h_1, H0⟩ := H0
  try dsimp only at H0
  refine lok_rt (Env.of E0 [⟨some 23, 100, [.one (.p (.val (.int .u64 a.hi))), .one (.p (.val (.int .u64 b.hi))), .one (.p (.val (.int .u64 y1)))], [], [.one (.p (.val (.int .u64 y2))), .one (.p (.val (.int .u64 y3)))], [], True, fun _ => ok_bits_Sub64 a.hi b.hi y1 (y2, y3) h_1, []⟩]) (⟨29, mkS [(4, .x (.one (.ptr 104 0))), (5, .x (.one (.p (.val (.int .u64 y))))), (7, .x (.one (.p (.val (.int .u64 y2)))))], mkH [(104, .var [.p (.val (.int .u64 (0 : Int))), .p (.val (.int .u64 (0 : Int)))])]⟩) ?_
  refine lok_rt E0 (⟨29, mkS [(4, .x (.one (.ptr 104 0)))], mkH [(104, .var [.p (.val (.int .u64 y2)), .p (.val (.int .u64 y))])]⟩) ?_
  refine lok_ret ?_
  obtain rfl := Option.some.inj H0
  try simp only [thenL, blockL]
  exact fin_au _ (.inr rfl) [] (⟨29, mkS [(4, .x (.one (.ptr 104 0)))], mkH [(104, .var [.p (.val (.int .u64 y2)), .p (.val (.int .u64 y))])]⟩) rfl rfl imp_au
theorem ok_ratio_signed_plus (a : ratio_signed) (b : ratio_signed) (r_ : ratio_signed) (H0 : ratio_signed_plus a b = some r_) : CallOK Try.prog 76 [.agg [.p (.val (.bool a.neg)), .p (.val (.int .u64 a.abs.hi)), .p (.val (.int .u64 a.abs.lo))], .agg [.p (.val (.bool b.neg)), .p (.val (.int .u64 b.abs.hi)), .p (.val (.int .u64 b.abs.lo))]] [] [.agg [.p (.val (.bool r_.neg)), .p (.val (.int .u64 r_.abs.hi)), .p (.val (.int .u64 r_.abs.lo))]] [] := by
  refine callOK (n := 40) (rs := [.cell 4 60]) (nb := 0) (V := []) Try.func76 rfl (by kernel_rfl) rfl rfl rfl rfl (Nat.le_of_ble_eq_true rfl) (by decide) ?_
  unfold ratio_signed_plus at H0
  refine lok_rt E0 (⟨40, mkS [(2, .x (.one (.ptr 102 0))), (3, .x (.one (.ptr 103 0))), (4, .x (.one (.ptr 104 0)))], mkH [(102, .var [.p (.val (.bool a.neg)), .p (.val (.int .u64 a.abs.hi)), .p (.val (.int .u64 a.abs.lo))]), (103, .var [.p (.val (.bool b.neg)), .p (.val (.int .u64 b.abs.hi)), .p (.val (.int .u64 b.abs.lo))]), (104, .var [.p (.val (.bool false)), .p (.val (.int .u64 (0 : Int))), .p (.val (.int .u64 (0 : Int)))])]⟩) ?_
  refine lok_seq ?_
  refine lok_rt E0 (⟨40, mkS [(2, .x (.one (.ptr 102 0))), (3, .x (.one (.ptr 103 0))), (4, .x (.one (.ptr 104 0))), (9, .x (.one (.p (.val (.bool (a.neg == b.neg))))))], mkH [(102, .var [.p (.val (.bool a.neg)), .p (.val (.int .u64 a.abs.hi)), .p (.val (.int .u64 a.abs.lo))]), (103, .var [.p (.val (.bool b.neg)), .p (.val (.int .u64 b.abs.hi)), .p (.val (.int .u64 b.abs.lo))]), (104, .var [.p (.val (.bool false)), .p (.val (.int .u64 (0 : Int))), .p (.val (.int .u64 (0 : Int)))])]⟩) ?_
  refine lok_c (a.neg == b.neg) ?_ ?_
  · intro b_5
    replace H0 := cpos H0 b_5
    replace H0 := bind_some H0
    obtain ⟨y, h_0, H0⟩ := H0
    refine lok_dt (Env.of E0 [⟨some 16, 90, [.agg [.p (.val (.int .u64 a.abs.hi)), .p (.val (.int .u64 a.abs.lo))], .agg [.p (.val (.int .u64 b.abs.hi)), .p (.val (.int .u64 b.abs.lo))]], [], [.agg [.p (.val (.int .u64 y.hi)), .p (.val (.int .u64 y.lo))]], [], True, fun _ => ok_ratio_wide_plus a.abs b.abs y h_0, []⟩]) 7 (⟨40, mkS [(4, .x (.one (.ptr 104 0)))], mkH [(104, .var [.p (.val (.bool a.neg)), .p (.val (.int .u64 y.hi)), .p (.val (.int .u64 y.lo))])]⟩) (by kernel_rfl) (by kernel_rfl) ?_
    refine lok_ret ?_
    obtain rfl := Option.some.inj H0
    try simp only [thenL, blockL]
    exact fin_au _ (.inr rfl) [] (⟨40, mkS [(4, .x (.one (.ptr 104 0)))], mkH [(104, .var [.p (.val (.bool a.neg)), .p (.val (.int .u64 y.hi)), .p (.val (.int .u64 y.lo))])]⟩) rfl rfl imp_au
  · intro b_5
    replace H0 := cneg H0 b_5
    refine lok_skip ?_
    try simp only [thenL, blockL, ↓reduceIte, reduceCtorEq]
    refine lok_seq ?_
    replace H0 := bind_some H0
    obtain ⟨y1, h_1, H0⟩ := H0
    refine lok_rt (Env.of E0 [⟨some 22, 74, [.agg [.p (.val (.int .u64 a.abs.hi)), .p (.val (.int .u64 a.abs.lo))], .agg [.p (.val (.int .u64 b.abs.hi)), .p (.val (.int .u64 b.abs.lo))]], [], [.one (.p (pi y1))], [], True, fun _ => ok_ratio_wide_compare a.abs b.abs y1 h_1, []⟩]) (⟨40, mkS [(2, .x (.one (.ptr 102 0))), (3, .x (.one (.ptr 103 0))), (4, .x (.one (.ptr 104 0))), (23, .x (.one (.p (.val (.bool (decide ((0 : Int) ≤ y1)))))))], mkH [(102, .var [.p (.val (.bool a.neg)), .p (.val (.int .u64 a.abs.hi)), .p (.val (.int .u64 a.abs.lo))]), (103, .var [.p (.val (.bool b.neg)), .p (.val (.int .u64 b.abs.hi)), .p (.val (.int .u64 b.abs.lo))]), (104, .var [.p (.val (.bool false)), .p (.val (.int .u64 (0 : Int))), .p (.val (.int .u64 (0 : Int)))])]⟩) ?_
    refine lok_c (decide ((0 : Int) ≤ y1)) ?_ ?_
    · intro b_4
      replace H0 := cpos H0 b_4
      replace H0 := bind_some H0
      obtain ⟨y2, h_2, H0⟩ := H0
      refine lok_dt (Env.of E0 [⟨some 30, 91, [.agg [.p (.val (.int .u64 a.abs.hi)), .p (.val (.int .u64 a.abs.lo))], .agg [.p (.val (.int .u64 b.abs.hi)), .p (.val (.int .u64 b.abs.lo))]], [], [.agg [.p (.val (.int .u64 y2.hi)), .p (.val (.int .u64 y2.lo))]], [], True, fun _ => ok_ratio_wide_minus a.abs b.abs y2 h_2, []⟩]) 7 (⟨40, mkS [(4, .x (.one (.ptr 104 0)))], mkH [(104, .var [.p (.val (.bool a.neg)), .p (.val (.int .u64 y2.hi)), .p (.val (.int .u64 y2.lo))])]⟩) (by kernel_rfl) (by kernel_rfl) ?_
      refine lok_ret ?_
      obtain rfl := Option.some.inj H0
      try simp only [thenL, blockL]
      exact fin_au _ (.inr rfl) [] (⟨40, mkS [(4, .x (.one (.ptr 104 0)))], mkH [(104, .var [.p (.val (.bool a.neg)), .p (.val (.int .u64 y2.hi)), .p (.val (.int .u64 y2.lo))])]⟩) rfl rfl imp_au
    · intro b_4
      replace H0 := cneg H0 b_4
      refine lok_skip ?_
      try simp only [thenL, blockL, ↓reduceIte, reduceCtorEq]
      replace H0 := bind_some H0
      obtain ⟨y3, h_3, H0⟩ := H0
      refine lok_dt (Env.of E0 [⟨some 38, 91, [.agg [.p (.val (.int .u64 b.abs.hi)), .p (.val (.int .u64 b.abs.lo))], .agg [.p (.val (.int .u64 a.abs.hi)), .p (.val (.int .u64 a.abs.lo))]], [], [.agg [.p (.val (.int .u64 y3.hi)), .p (.val (.int .u64 y3.lo))]], [], True, fun _ => ok_ratio_wide_minus b.abs a.abs y3 h_3, []⟩]) 7 (⟨40, mkS [(4, .x (.one (.ptr 104 0)))], mkH [(104, .var [.p (.val (.bool b.neg)), .p (.val (.int .u64 y3.hi)), .p (.val (.int .u64 y3.lo))])]⟩) (by kernel_rfl) (by kernel_rfl) ?_
      refine lok_ret ?_
      obtain rfl := Option.some.inj H0
      try simp only [thenL, blockL]
      exact fin_au _ (.inr rfl) [] (⟨40, mkS [(4, .x (.one (.ptr 104 0)))], mkH [(104, .var [.p (.val (.bool b.neg)), .p (.val (.int .u64 y3.hi)), .p (.val (.int .u64 y3.lo))])]⟩) rfl rfl imp_au
theorem ok_ratio_Add (a : api_Ratio) (b : api_Ratio) (r_ : api_Ratio × Int) (H0 : ratio_Add a b = some r_) : CallOK Try.prog 42 [.agg [.p (pi a.Num), .p (pi a.Den)], .agg [.p (pi b.Num), .p (pi b.Den)]] [] [.agg [.p (pi r_.1.Num), .p (pi r_.1.Den)], .one (.p (pi r_.2))] [] := by
  refine callOK (n := 64) (rs := [.cell 4 35, .tmp 5]) (nb := 0) (V := []) Try.func42 rfl (by kernel_rfl) rfl rfl rfl rfl (Nat.le_of_ble_eq_true rfl) (by decide) ?_
  unfold ratio_Add at H0
  refine lok_rt E0 (⟨64, mkS [(2, .x (.one (.ptr 102 0))), (3, .x (.one (.ptr 103 0))), (4, .x (.one (.ptr 104 0)))], mkH [(102, .var [.p (pi a.Num), .p (pi a.Den)]), (103, .var [.p (pi b.Num), .p (pi b.Den)]), (104, .var [.p (pi (0 : Int)), .p (pi (0 : Int))])]⟩) ?_
  refine lok_seq ?_
  replace H0 := bind_some H0
  obtain ⟨y, h_0, H0⟩ := H0
  replace H0 := req_some H0
  obtain ⟨q_15, H0⟩ := H0
  refine lok_rt (Env.of E0 [⟨some 12, 23, [.agg [.p (pi a.Num), .p (pi a.Den)]], [], [.one (.p (.val (.bool y)))], [], True, fun _ => ok_ratio_Valid a y h_0, []⟩,
      ⟨some 16, 23, [.agg [.p (pi b.Num), .p (pi b.Den)]], [], [.one (.p (.val (.bool ((ratio_Valid b).getD default))))], [], (ratio_Valid b).isSome = true, fun h => ok_ratio_Valid b _ (isSome_get h), []⟩]) (⟨64, mkS [(2, .x (.one (.ptr 102 0))), (3, .x (.one (.ptr 103 0))), (4, .x (.one (.ptr 104 0))), (18, .x (.one (.p (.val (.bool ((!y) || (!((ratio_Valid b).getD default))))))))], mkH [(102, .var [.p (pi a.Num), .p (pi a.Den)]), (103, .var [.p (pi b.Num), .p (pi b.Den)]), (104, .var [.p (pi (0 : Int)), .p (pi (0 : Int))])]⟩) ?_
  refine lok_c ((!y) || (!((ratio_Valid b).getD default))) ?_ ?_
  · intro b_14
    replace H0 := cpos H0 b_14
    refine lok_rt E0 (⟨64, mkS [(4, .x (.one (.ptr 104 0))), (5, .x (.one (.p (pi (1 : Int)))))], mkH [(104, .var [.p (pi (0 : Int)), .p (pi (0 : Int))])]⟩) ?_
    refine lok_ret ?_
    obtain rfl := Option.some.inj H0
    try simp only [thenL, blockL]
    exact fin_au _ (.inr rfl) [] (⟨64, mkS [(4, .x (.one (.ptr 104 0))), (5, .x (.one (.p (pi (1 : Int)))))], mkH [(104, .var [.p (pi (0 : Int)), .p (pi (0 : Int))])]⟩) rfl rfl imp_au
  · intro b_14
    replace H0 := cneg H0 b_14
    refine lok_skip ?_
    try simp only [thenL, blockL, ↓reduceIte, reduceCtorEq]
    refine lok_dt E0 7 (⟨64, mkS [(2, .x (.one (.ptr 102 0))), (3, .x (.one (.ptr 103 0))), (4, .x (.one (.ptr 104 0))), (6, .x (.one (.p (.val (.int .u64 (IntKind.u64.wrap a.Den)))))), (7, .x (.one (.p (.val (.int .u64 (IntKind.u64.wrap b.Den))))))], mkH [(102, .var [.p (pi a.Num), .p (pi a.Den)]), (103, .var [.p (pi b.Num), .p (pi b.Den)]), (104, .var [.p (pi (0 : Int)), .p (pi (0 : Int))])]⟩) (by kernel_rfl) (by kernel_rfl) ?_
    replace H0 := bind_some H0
    obtain ⟨y1, h_1, H0⟩ := H0
    refine lok_rt (Env.of E0 [⟨some 28, 60, [.one (.p (.val (.int .u64 (IntKind.u64.wrap a.Den)))), .one (.p (.val (.int .u64 (IntKind.u64.wrap b.Den))))], [], [.one (.p (.val (.int .u64 y1)))], [], True, fun _ => ok_ratio_gcd (IntKind.u64.wrap a.Den) (IntKind.u64.wrap b.Den) y1 h_1, []⟩]) (⟨64, mkS [(2, .x (.one (.ptr 102 0))), (3, .x (.one (.ptr 103 0))), (4, .x (.one (.ptr 104 0))), (6, .x (.one (.p (.val (.int .u64 (IntKind.u64.wrap a.Den)))))), (7, .x (.one (.p (.val (.int .u64 (IntKind.u64.wrap b.Den)))))), (8, .x (.one (.p (.val (.int .u64 y1)))))], mkH [(102, .var [.p (pi a.Num), .p (pi a.Den)]), (103, .var [.p (pi b.Num), .p (pi b.Den)]), (104, .var [.p (pi (0 : Int)), .p (pi (0 : Int))])]⟩) ?_
    replace H0 := req_some H0
    obtain ⟨q_12, H0⟩ := H0
    replace H0 := bind_some H0
    obtain ⟨y2, h_2, H0⟩ := H0
    replace H0 := req_some H0
    obtain ⟨q_13, H0⟩ := H0
    replace H0 := bind_some H0
    obtain ⟨y3, h_3, H0⟩ := H0
    replace H0 := bind_some H0
    obtain ⟨y4, h_4, H0⟩ := H0
    refine lok_et (Env.of E0 [⟨some 34, 73, [.one (.p (pi a.Num)), .one (.p (.val (.int .u64 (IntKind.u64.wrap (Int.tdiv (IntKind.u64.wrap b.Den) y1)))))], [], [.agg [.p (.val (.bool y2.neg)), .p (.val (.int .u64 y2.abs.hi)), .p (.val (.int .u64 y2.abs.lo))]], [], True, fun _ => ok_ratio_signedProduct a.Num (IntKind.u64.wrap (Int.tdiv (IntKind.u64.wrap b.Den) y1)) y2 h_2, []⟩,
      ⟨some 40, 73, [.one (.p (pi b.Num)), .one (.p (.val (.int .u64 (IntKind.u64.wrap (Int.tdiv (IntKind.u64.wrap a.Den) y1)))))], [], [.agg [.p (.val (.bool y3.neg)), .p (.val (.int .u64 y3.abs.hi)), .p (.val (.int .u64 y3.abs.lo))]], [], True, fun _ => ok_ratio_signedProduct b.Num (IntKind.u64.wrap (Int.tdiv (IntKind.u64.wrap a.Den) y1)) y3 h_3, []⟩,
      ⟨some 41, 76, [.agg [.p (.val (.bool y2.neg)), .p (.val (.int .u64 y2.abs.hi)), .p (.val (.int .u64 y2.abs.lo))], .agg [.p (.val (.bool y3.neg)), .p (.val (.int .u64 y3.abs.hi)), .p (.val (.int .u64 y3.abs.lo))]], [], [.agg [.p (.val (.bool y4.neg)), .p (.val (.int .u64 y4.abs.hi)), .p (.val (.int .u64 y4.abs.lo))]], [], True, fun _ => ok_ratio_signed_plus y2 y3 y4 h_4, []⟩]) 64 [⟨[(2, .x (.one (.ptr 102 0)))], [], [(29, .x (.one (.ptr 102 0)))], [], none⟩,
      ⟨[(29, .x (.one (.ptr 102 0)))], [(102, some (.var [.p (pi a.Num), .p (pi a.Den)]))], [(30, .x (.one (.p (pi a.Num))))], [], none⟩,
      ⟨[(7, .x (.one (.p (.val (.int .u64 (IntKind.u64.wrap b.Den))))))], [], [(31, .x (.one (.p (.val (.int .u64 (IntKind.u64.wrap b.Den))))))], [], none⟩,
      ⟨[(8, .x (.one (.p (.val (.int .u64 y1)))))], [], [(32, .x (.one (.p (.val (.int .u64 y1)))))], [], none⟩,
      ⟨[(31, .x (.one (.p (.val (.int .u64 (IntKind.u64.wrap b.Den)))))), (32, .x (.one (.p (.val (.int .u64 y1)))))], [], [(33, .x (.one (.p (.val (.int .u64 (IntKind.u64.wrap (Int.tdiv (IntKind.u64.wrap b.Den) y1)))))))], [], none⟩,
      ⟨[(30, .x (.one (.p (pi a.Num)))), (33, .x (.one (.p (.val (.int .u64 (IntKind.u64.wrap (Int.tdiv (IntKind.u64.wrap b.Den) y1)))))))], [], [(34, .x (.agg [.p (.val (.bool y2.neg)), .p (.val (.int .u64 y2.abs.hi)), .p (.val (.int .u64 y2.abs.lo))]))], [], none⟩,
      ⟨[(3, .x (.one (.ptr 103 0)))], [], [(35, .x (.one (.ptr 103 0)))], [], none⟩,
      ⟨[(35, .x (.one (.ptr 103 0)))], [(103, some (.var [.p (pi b.Num), .p (pi b.Den)]))], [(36, .x (.one (.p (pi b.Num))))], [], none⟩,
      ⟨[(6, .x (.one (.p (.val (.int .u64 (IntKind.u64.wrap a.Den))))))], [], [(37, .x (.one (.p (.val (.int .u64 (IntKind.u64.wrap a.Den))))))], [], none⟩,
      ⟨[(8, .x (.one (.p (.val (.int .u64 y1)))))], [], [(38, .x (.one (.p (.val (.int .u64 y1)))))], [], none⟩,
      ⟨[(37, .x (.one (.p (.val (.int .u64 (IntKind.u64.wrap a.Den)))))), (38, .x (.one (.p (.val (.int .u64 y1)))))], [], [(39, .x (.one (.p (.val (.int .u64 (IntKind.u64.wrap (Int.tdiv (IntKind.u64.wrap a.Den) y1)))))))], [], none⟩,
      ⟨[(36, .x (.one (.p (pi b.Num)))), (39, .x (.one (.p (.val (.int .u64 (IntKind.u64.wrap (Int.tdiv (IntKind.u64.wrap a.Den) y1)))))))], [], [(40, .x (.agg [.p (.val (.bool y3.neg)), .p (.val (.int .u64 y3.abs.hi)), .p (.val (.int .u64 y3.abs.lo))]))], [], none⟩,
      ⟨[(34, .x (.agg [.p (.val (.bool y2.neg)), .p (.val (.int .u64 y2.abs.hi)), .p (.val (.int .u64 y2.abs.lo))])), (40, .x (.agg [.p (.val (.bool y3.neg)), .p (.val (.int .u64 y3.abs.hi)), .p (.val (.int .u64 y3.abs.lo))]))], [], [(41, .x (.agg [.p (.val (.bool y4.neg)), .p (.val (.int .u64 y4.abs.hi)), .p (.val (.int .u64 y4.abs.lo))]))], [], none⟩,
      ⟨[], [(109, none)], [(9, .x (.one (.ptr 109 0)))], [(109, some (.var [.p (.val (.bool false)), .p (.val (.int .u64 (0 : Int))), .p (.val (.int .u64 (0 : Int)))]))], some 109⟩] (⟨64, mkS [(4, .x (.one (.ptr 104 0))), (6, .x (.one (.p (.val (.int .u64 (IntKind.u64.wrap a.Den)))))), (7, .x (.one (.p (.val (.int .u64 (IntKind.u64.wrap b.Den)))))), (8, .x (.one (.p (.val (.int .u64 y1))))), (9, .x (.one (.ptr 109 0)))], mkH [(104, .var [.p (pi (0 : Int)), .p (pi (0 : Int))]), (109, .var [.p (.val (.bool y4.neg)), .p (.val (.int .u64 y4.abs.hi)), .p (.val (.int .u64 y4.abs.lo))])]⟩) (by kernel_rfl) (by kernel_rfl) (by kernel_rfl) rfl rfl rfl ?_
    replace H0 := bind_some H0
    obtain ⟨y5, h_5, H0⟩ := H0
    replace H0 := bind_some H0
    obtain ⟨y6, h_6, H0⟩ := H0
    refine lok_rt (Env.of E0 [⟨some 45, 77, [.agg [.p (.val (.int .u64 y4.abs.hi)), .p (.val (.int .u64 y4.abs.lo))], .one (.p (.val (.int .u64 y1)))], [], [.one (.p (.val (.int .u64 y5)))], [], True, fun _ => ok_ratio_wide_mod y4.abs y1 y5 h_5, []⟩,
      ⟨some 47, 60, [.one (.p (.val (.int .u64 y5))), .one (.p (.val (.int .u64 y1)))], [], [.one (.p (.val (.int .u64 y6)))], [], True, fun _ => ok_ratio_gcd y5 y1 y6 h_6, []⟩]) (⟨64, mkS [(4, .x (.one (.ptr 104 0))), (6, .x (.one (.p (.val (.int .u64 (IntKind.u64.wrap a.Den)))))), (7, .x (.one (.p (.val (.int .u64 (IntKind.u64.wrap b.Den)))))), (8, .x (.one (.p (.val (.int .u64 y1))))), (9, .x (.one (.ptr 109 0))), (10, .x (.one (.p (.val (.int .u64 y6)))))], mkH [(104, .var [.p (pi (0 : Int)), .p (pi (0 : Int))]), (109, .var [.p (.val (.bool y4.neg)), .p (.val (.int .u64 y4.abs.hi)), .p (.val (.int .u64 y4.abs.lo))])]⟩) ?_
    replace H0 := bind_some H0
    obtain ⟨y7, h_7, H0⟩ := H0
    replace H0 := req_some H0
    obtain ⟨⟨q_10, q_11⟩, H0⟩ := H0
    replace H0 := bind_some H0
    obtain ⟨y8, h_8, H0⟩ := H0
    replace H0 := bind_some H0
    obtain ⟨⟨y9, y10⟩, h_9, H0⟩ := H0
    try dsimp only at H0
    refine lok_dt (Env.of E0 [⟨some 53, 78, [.agg [.p (.val (.int .u64 y4.abs.hi)), .p (.val (.int .u64 y4.abs.lo))], .one (.p (.val (.int .u64 y6)))], [], [.agg [.p (.val (.int .u64 y7.hi)), .p (.val (.int .u64 y7.lo))]], [], True, fun _ => ok_ratio_wide_over y4.abs y6 y7 h_7, []⟩,
      ⟨some 60, 71, [.one (.p (.val (.int .u64 (IntKind.u64.wrap (Int.tdiv (IntKind.u64.wrap a.Den) y1))))), .one (.p (.val (.int .u64 (IntKind.u64.wrap (Int.tdiv (IntKind.u64.wrap b.Den) y6)))))], [], [.agg [.p (.val (.int .u64 y8.hi)), .p (.val (.int .u64 y8.lo))]], [], True, fun _ => ok_ratio_product (IntKind.u64.wrap (Int.tdiv (IntKind.u64.wrap a.Den) y1)) (IntKind.u64.wrap (Int.tdiv (IntKind.u64.wrap b.Den) y6)) y8 h_8, []⟩,
      ⟨some 61, 70, [.one (.p (.val (.bool y4.neg))), .agg [.p (.val (.int .u64 y7.hi)), .p (.val (.int .u64 y7.lo))], .agg [.p (.val (.int .u64 y8.hi)), .p (.val (.int .u64 y8.lo))]], [], [.agg [.p (pi y9.Num), .p (pi y9.Den)], .one (.p (pi y10))], [], True, fun _ => ok_ratio_fitted y4.neg y7 y8 (y9, y10) h_9, []⟩]) 16 (⟨64, mkS [(4, .x (.one (.ptr 104 0))), (5, .x (.one (.p (pi y10))))], mkH [(104, .var [.p (pi y9.Num), .p (pi y9.Den)])]⟩) (by kernel_rfl) (by kernel_rfl) ?_
    refine lok_ret ?_
    obtain rfl := Option.some.inj H0
    try simp only [thenL, blockL]
    exact fin_au _ (.inr rfl) [] (⟨64, mkS [(4, .x (.one (.ptr 104 0))), (5, .x (.one (.p (pi y10))))], mkH [(104, .var [.p (pi y9.Num), .p (pi y9.Den)])]⟩) rfl rfl imp_au
theorem ok_ref01_Add (a : api_Ratio) (b : api_Ratio) (r_ : api_Ratio × Int) (H0 : ref01_Add a b = some r_) : CallOK Try.prog 43 [.agg [.p (pi a.Num), .p (pi a.Den)], .agg [.p (pi b.Num), .p (pi b.Den)]] [] [.agg [.p (pi r_.1.Num), .p (pi r_.1.Den)], .one (.p (pi r_.2))] [] := by
  refine callOK (n := 53) (rs := [.cell 4 35, .tmp 5]) (nb := 0) (V := []) Try.func43 rfl (by kernel_rfl) rfl rfl rfl rfl (Nat.le_of_ble_eq_true rfl) (by decide) ?_
  unfold ref01_Add at H0
  refine lok_rt E0 (⟨53, mkS [(2, .x (.one (.ptr 102 0))), (3, .x (.one (.ptr 103 0))), (4, .x (.one (.ptr 104 0)))], mkH [(102, .var [.p (pi a.Num), .p (pi a.Den)]), (103, .var [.p (pi b.Num), .p (pi b.Den)]), (104, .var [.p (pi (0 : Int)), .p (pi (0 : Int))])]⟩) ?_
  refine lok_seq ?_
  replace H0 := bind_some H0
  obtain ⟨y, h_0, H0⟩ := H0
  replace H0 := req_some H0
  obtain ⟨q_13, H0⟩ := H0
  refine lok_rt (Env.of E0 [⟨some 9, 24, [.agg [.p (pi a.Num), .p (pi a.Den)]], [], [.one (.p (.val (.bool y)))], [], True, fun _ => ok_ref01_Valid a y h_0, []⟩,
      ⟨some 13, 24, [.agg [.p (pi b.Num), .p (pi b.Den)]], [], [.one (.p (.val (.bool ((ref01_Valid b).getD default))))], [], (ref01_Valid b).isSome = true, fun h => ok_ref01_Valid b _ (isSome_get h), []⟩]) (⟨53, mkS [(2, .x (.one (.ptr 102 0))), (3, .x (.one (.ptr 103 0))), (4, .x (.one (.ptr 104 0))), (15, .x (.one (.p (.val (.bool ((!y) || (!((ref01_Valid b).getD default))))))))], mkH [(102, .var [.p (pi a.Num), .p (pi a.Den)]), (103, .var [.p (pi b.Num), .p (pi b.Den)]), (104, .var [.p (pi (0 : Int)), .p (pi (0 : Int))])]⟩) ?_
  refine lok_c ((!y) || (!((ref01_Valid b).getD default))) ?_ ?_
  · intro b_12
    replace H0 := cpos H0 b_12
    refine lok_rt E0 (⟨53, mkS [(4, .x (.one (.ptr 104 0))), (5, .x (.one (.p (pi (1 : Int)))))], mkH [(104, .var [.p (pi (0 : Int)), .p (pi (0 : Int))])]⟩) ?_
    refine lok_ret ?_
    obtain rfl := Option.some.inj H0
    try simp only [thenL, blockL]
    exact fin_au _ (.inr rfl) [] (⟨53, mkS [(4, .x (.one (.ptr 104 0))), (5, .x (.one (.p (pi (1 : Int)))))], mkH [(104, .var [.p (pi (0 : Int)), .p (pi (0 : Int))])]⟩) rfl rfl imp_au
  · intro b_12
    replace H0 := cneg H0 b_12
    refine lok_skip ?_
    try simp only [thenL, blockL, ↓reduceIte, reduceCtorEq]
    replace H0 := bind_some H0
    obtain ⟨y1, h_1, H0⟩ := H0
    replace H0 := bind_some H0
    obtain ⟨y2, h_2, H0⟩ := H0
    replace H0 := bind_some H0
    obtain ⟨y3, h_3, H0⟩ := H0
    replace H0 := bind_some H0
    obtain ⟨y4, h_4, H0⟩ := H0
    replace H0 := bind_some H0
    obtain ⟨y5, h_5, H0⟩ := H0
    replace H0 := bind_some H0
    obtain ⟨y6, h_6, H0⟩ := H0
    replace H0 := bind_some H0
    obtain ⟨⟨y7, y8⟩, h_7, H0⟩ := H0
    try dsimp only at H0
    refine lok_et (Env.of E0 [⟨some 23, 59, [.one (.p (pi a.Num))], [], [.one (.p (.val (.int .u64 y1)))], [], True, fun _ => ok_ref01_Size a.Num y1 h_1, []⟩,
      ⟨some 26, 59, [.one (.p (pi b.Den))], [], [.one (.p (.val (.int .u64 y2)))], [], True, fun _ => ok_ref01_Size b.Den y2 h_2, []⟩,
      ⟨some 27, 72, [.one (.p (.val (.int .u64 y1))), .one (.p (.val (.int .u64 y2)))], [], [.agg [.p (.val (.int .u64 y3.Hi)), .p (.val (.int .u64 y3.Lo))]], [], True, fun _ => ok_ref01_Product y1 y2 y3 h_3, []⟩,
      ⟨some 33, 59, [.one (.p (pi b.Num))], [], [.one (.p (.val (.int .u64 y4)))], [], True, fun _ => ok_ref01_Size b.Num y4 h_4, []⟩,
      ⟨some 36, 59, [.one (.p (pi a.Den))], [], [.one (.p (.val (.int .u64 y5)))], [], True, fun _ => ok_ref01_Size a.Den y5 h_5, []⟩,
      ⟨some 37, 72, [.one (.p (.val (.int .u64 y4))), .one (.p (.val (.int .u64 y5)))], [], [.agg [.p (.val (.int .u64 y6.Hi)), .p (.val (.int .u64 y6.Lo))]], [], True, fun _ => ok_ref01_Product y4 y5 y6 h_6, []⟩,
      ⟨some 38, 75, [.one (.p (.val (.bool (decide (a.Num < (0 : Int)))))), .agg [.p (.val (.int .u64 y3.Hi)), .p (.val (.int .u64 y3.Lo))], .one (.p (.val (.bool (decide (b.Num < (0 : Int)))))), .agg [.p (.val (.int .u64 y6.Hi)), .p (.val (.int .u64 y6.Lo))]], [], [.one (.p (.val (.bool y7))), .agg [.p (.val (.int .u64 y8.Hi)), .p (.val (.int .u64 y8.Lo))]], [], True, fun _ => ok_ref01_total (decide (a.Num < (0 : Int))) y3 (decide (b.Num < (0 : Int))) y6 (y7, y8) h_7, []⟩]) 53 [⟨[(2, .x (.one (.ptr 102 0)))], [], [(18, .x (.one (.ptr 102 0)))], [], none⟩,
      ⟨[(18, .x (.one (.ptr 102 0)))], [(102, some (.var [.p (pi a.Num), .p (pi a.Den)]))], [(19, .x (.one (.p (pi a.Num))))], [], none⟩,
      ⟨[(19, .x (.one (.p (pi a.Num))))], [], [(20, .x (.one (.p (.val (.bool (decide (a.Num < (0 : Int))))))))], [], none⟩,
      ⟨[(2, .x (.one (.ptr 102 0)))], [], [(21, .x (.one (.ptr 102 0)))], [], none⟩,
      ⟨[(21, .x (.one (.ptr 102 0)))], [(102, some (.var [.p (pi a.Num), .p (pi a.Den)]))], [(22, .x (.one (.p (pi a.Num))))], [], none⟩,
      ⟨[(22, .x (.one (.p (pi a.Num))))], [], [(23, .x (.one (.p (.val (.int .u64 y1)))))], [], none⟩,
      ⟨[(3, .x (.one (.ptr 103 0)))], [], [(24, .x (.one (.ptr 103 1)))], [], none⟩,
      ⟨[(24, .x (.one (.ptr 103 1)))], [(103, some (.var [.p (pi b.Num), .p (pi b.Den)]))], [(25, .x (.one (.p (pi b.Den))))], [], none⟩,
      ⟨[(25, .x (.one (.p (pi b.Den))))], [], [(26, .x (.one (.p (.val (.int .u64 y2)))))], [], none⟩,
      ⟨[(23, .x (.one (.p (.val (.int .u64 y1))))), (26, .x (.one (.p (.val (.int .u64 y2)))))], [], [(27, .x (.agg [.p (.val (.int .u64 y3.Hi)), .p (.val (.int .u64 y3.Lo))]))], [], none⟩,
      ⟨[(3, .x (.one (.ptr 103 0)))], [], [(28, .x (.one (.ptr 103 0)))], [], none⟩,
      ⟨[(28, .x (.one (.ptr 103 0)))], [(103, some (.var [.p (pi b.Num), .p (pi b.Den)]))], [(29, .x (.one (.p (pi b.Num))))], [], none⟩,
      ⟨[(29, .x (.one (.p (pi b.Num))))], [], [(30, .x (.one (.p (.val (.bool (decide (b.Num < (0 : Int))))))))], [], none⟩,
      ⟨[(3, .x (.one (.ptr 103 0)))], [], [(31, .x (.one (.ptr 103 0)))], [], none⟩,
      ⟨[(31, .x (.one (.ptr 103 0)))], [(103, some (.var [.p (pi b.Num), .p (pi b.Den)]))], [(32, .x (.one (.p (pi b.Num))))], [], none⟩,
      ⟨[(32, .x (.one (.p (pi b.Num))))], [], [(33, .x (.one (.p (.val (.int .u64 y4)))))], [], none⟩,
      ⟨[(2, .x (.one (.ptr 102 0)))], [], [(34, .x (.one (.ptr 102 1)))], [], none⟩,
      ⟨[(34, .x (.one (.ptr 102 1)))], [(102, some (.var [.p (pi a.Num), .p (pi a.Den)]))], [(35, .x (.one (.p (pi a.Den))))], [], none⟩,
      ⟨[(35, .x (.one (.p (pi a.Den))))], [], [(36, .x (.one (.p (.val (.int .u64 y5)))))], [], none⟩,
      ⟨[(33, .x (.one (.p (.val (.int .u64 y4))))), (36, .x (.one (.p (.val (.int .u64 y5)))))], [], [(37, .x (.agg [.p (.val (.int .u64 y6.Hi)), .p (.val (.int .u64 y6.Lo))]))], [], none⟩,
      ⟨[(20, .x (.one (.p (.val (.bool (decide (a.Num < (0 : Int)))))))), (27, .x (.agg [.p (.val (.int .u64 y3.Hi)), .p (.val (.int .u64 y3.Lo))])), (30, .x (.one (.p (.val (.bool (decide (b.Num < (0 : Int)))))))), (37, .x (.agg [.p (.val (.int .u64 y6.Hi)), .p (.val (.int .u64 y6.Lo))]))], [], [(38, .tup [.one (.p (.val (.bool y7))), .agg [.p (.val (.int .u64 y8.Hi)), .p (.val (.int .u64 y8.Lo))]])], [], none⟩,
      ⟨[(38, .tup [.one (.p (.val (.bool y7))), .agg [.p (.val (.int .u64 y8.Hi)), .p (.val (.int .u64 y8.Lo))]])], [], [(17, .tup [.one (.p (.val (.bool y7))), .agg [.p (.val (.int .u64 y8.Hi)), .p (.val (.int .u64 y8.Lo))]])], [], none⟩,
      ⟨[(17, .tup [.one (.p (.val (.bool y7))), .agg [.p (.val (.int .u64 y8.Hi)), .p (.val (.int .u64 y8.Lo))]])], [], [(39, .x (.one (.p (.val (.bool y7)))))], [], none⟩,
      ⟨[(17, .tup [.one (.p (.val (.bool y7))), .agg [.p (.val (.int .u64 y8.Hi)), .p (.val (.int .u64 y8.Lo))]])], [], [(40, .x (.agg [.p (.val (.int .u64 y8.Hi)), .p (.val (.int .u64 y8.Lo))]))], [], none⟩,
      ⟨[], [(107, none)], [(7, .x (.one (.ptr 107 0)))], [(107, some (.var [.p (.val (.int .u64 (0 : Int))), .p (.val (.int .u64 (0 : Int)))]))], some 107⟩,
      ⟨[(39, .x (.one (.p (.val (.bool y7)))))], [], [(6, .x (.one (.p (.val (.bool y7)))))], [], none⟩] (⟨53, mkS [(2, .x (.one (.ptr 102 0))), (3, .x (.one (.ptr 103 0))), (4, .x (.one (.ptr 104 0))), (6, .x (.one (.p (.val (.bool y7))))), (7, .x (.one (.ptr 107 0)))], mkH [(102, .var [.p (pi a.Num), .p (pi a.Den)]), (103, .var [.p (pi b.Num), .p (pi b.Den)]), (104, .var [.p (pi (0 : Int)), .p (pi (0 : Int))]), (107, .var [.p (.val (.int .u64 y8.Hi)), .p (.val (.int .u64 y8.Lo))])]⟩) (by kernel_rfl) (by kernel_rfl) (by kernel_rfl) rfl rfl rfl ?_
    replace H0 := bind_some H0
    obtain ⟨y9, h_8, H0⟩ := H0
    replace H0 := bind_some H0
    obtain ⟨y10, h_9, H0⟩ := H0
    replace H0 := bind_some H0
    obtain ⟨y11, h_10, H0⟩ := H0
    replace H0 := bind_some H0
    obtain ⟨⟨y12, y13⟩, h_11, H0⟩ := H0
    try dsimp only at H0
    refine lok_dt (Env.of E0 [⟨some 45, 59, [.one (.p (pi a.Den))], [], [.one (.p (.val (.int .u64 y9)))], [], True, fun _ => ok_ref01_Size a.Den y9 h_8, []⟩,
      ⟨some 48, 59, [.one (.p (pi b.Den))], [], [.one (.p (.val (.int .u64 y10)))], [], True, fun _ => ok_ref01_Size b.Den y10 h_9, []⟩,
      ⟨some 49, 72, [.one (.p (.val (.int .u64 y9))), .one (.p (.val (.int .u64 y10)))], [], [.agg [.p (.val (.int .u64 y11.Hi)), .p (.val (.int .u64 y11.Lo))]], [], True, fun _ => ok_ref01_Product y9 y10 y11 h_10, []⟩,
      ⟨some 50, 58, [.one (.p (.val (.bool y7))), .agg [.p (.val (.int .u64 y8.Hi)), .p (.val (.int .u64 y8.Lo))], .agg [.p (.val (.int .u64 y11.Hi)), .p (.val (.int .u64 y11.Lo))]], [], [.agg [.p (pi y12.Num), .p (pi y12.Den)], .one (.p (pi y13))], [], True, fun _ => ok_ref01_Reduce y7 y8 y11 (y12, y13) h_11, []⟩]) 12 (⟨53, mkS [(4, .x (.one (.ptr 104 0))), (5, .x (.one (.p (pi y13))))], mkH [(104, .var [.p (pi y12.Num), .p (pi y12.Den)])]⟩) (by kernel_rfl) (by kernel_rfl) ?_
    refine lok_ret ?_
    obtain rfl := Option.some.inj H0
    try simp only [thenL, blockL]
    exact fin_au _ (.inr rfl) [] (⟨53, mkS [(4, .x (.one (.ptr 104 0))), (5, .x (.one (.p (pi y13))))], mkH [(104, .var [.p (pi y12.Num), .p (pi y12.Den)])]⟩) rfl rfl imp_au
theorem ok_ratio_Sub (a : api_Ratio) (b : api_Ratio) (r_ : api_Ratio × Int) (H0 : ratio_Sub a b = some r_) : CallOK Try.prog 44 [.agg [.p (pi a.Num), .p (pi a.Den)], .agg [.p (pi b.Num), .p (pi b.Den)]] [] [.agg [.p (pi r_.1.Num), .p (pi r_.1.Den)], .one (.p (pi r_.2))] [] := by
  refine callOK (n := 25) (rs := [.cell 4 35, .tmp 5]) (nb := 0) (V := []) Try.func44 rfl (by kernel_rfl) rfl rfl rfl rfl (Nat.le_of_ble_eq_true rfl) (by decide) ?_
  unfold ratio_Sub at H0
  refine lok_rt E0 (⟨25, mkS [(2, .x (.one (.ptr 102 0))), (3, .x (.one (.ptr 103 0))), (4, .x (.one (.ptr 104 0)))], mkH [(102, .var [.p (pi a.Num), .p (pi a.Den)]), (103, .var [.p (pi b.Num), .p (pi b.Den)]), (104, .var [.p (pi (0 : Int)), .p (pi (0 : Int))])]⟩) ?_
  refine lok_seq ?_
  replace H0 := bind_some H0
  obtain ⟨y, h_0, H0⟩ := H0
  replace H0 := req_some H0
  obtain ⟨q_3, H0⟩ := H0
  refine lok_rt (Env.of E0 [⟨some 7, 23, [.agg [.p (pi a.Num), .p (pi a.Den)]], [], [.one (.p (.val (.bool y)))], [], True, fun _ => ok_ratio_Valid a y h_0, []⟩,
      ⟨some 11, 23, [.agg [.p (pi b.Num), .p (pi b.Den)]], [], [.one (.p (.val (.bool ((ratio_Valid b).getD default))))], [], (ratio_Valid b).isSome = true, fun h => ok_ratio_Valid b _ (isSome_get h), []⟩]) (⟨25, mkS [(2, .x (.one (.ptr 102 0))), (3, .x (.one (.ptr 103 0))), (4, .x (.one (.ptr 104 0))), (13, .x (.one (.p (.val (.bool ((!y) || (!((ratio_Valid b).getD default))))))))], mkH [(102, .var [.p (pi a.Num), .p (pi a.Den)]), (103, .var [.p (pi b.Num), .p (pi b.Den)]), (104, .var [.p (pi (0 : Int)), .p (pi (0 : Int))])]⟩) ?_
  refine lok_c ((!y) || (!((ratio_Valid b).getD default))) ?_ ?_
  · intro b_2
    replace H0 := cpos H0 b_2
    refine lok_rt E0 (⟨25, mkS [(4, .x (.one (.ptr 104 0))), (5, .x (.one (.p (pi (1 : Int)))))], mkH [(104, .var [.p (pi (0 : Int)), .p (pi (0 : Int))])]⟩) ?_
    refine lok_ret ?_
    obtain rfl := Option.some.inj H0
    try simp only [thenL, blockL]
    exact fin_au _ (.inr rfl) [] (⟨25, mkS [(4, .x (.one (.ptr 104 0))), (5, .x (.one (.p (pi (1 : Int)))))], mkH [(104, .var [.p (pi (0 : Int)), .p (pi (0 : Int))])]⟩) rfl rfl imp_au
  · intro b_2
    replace H0 := cneg H0 b_2
    refine lok_skip ?_
    try simp only [thenL, blockL, ↓reduceIte, reduceCtorEq]
    replace H0 := bind_some H0
    obtain ⟨⟨y1, y2⟩, h_1, H0⟩ := H0
    try dsimp only at H0
    refine lok_rt (Env.of E0 [⟨some 22, 42, [.agg [.p (pi a.Num), .p (pi a.Den)], .agg [.p (pi (IntKind.i64.wrap (0 - b.Num))), .p (pi b.Den)]], [], [.agg [.p (pi y1.Num), .p (pi y1.Den)], .one (.p (pi y2))], [], True, fun _ => ok_ratio_Add a (api_Ratio.mk (IntKind.i64.wrap (0 - b.Num)) b.Den) (y1, y2) h_1, []⟩]) (⟨25, mkS [(4, .x (.one (.ptr 104 0))), (5, .x (.one (.p (pi y2))))], mkH [(104, .var [.p (pi y1.Num), .p (pi y1.Den)])]⟩) ?_
    refine lok_ret ?_
    obtain rfl := Option.some.inj H0
    try simp only [thenL, blockL]
    exact fin_au _ (.inr rfl) [] (⟨25, mkS [(4, .x (.one (.ptr 104 0))), (5, .x (.one (.p (pi y2))))], mkH [(104, .var [.p (pi y1.Num), .p (pi y1.Den)])]⟩) rfl rfl imp_au
theorem ok_ref01_Sub (a : api_Ratio) (b : api_Ratio) (r_ : api_Ratio × Int) (H0 : ref01_Sub a b = some r_) : CallOK Try.prog 45 [.agg [.p (pi a.Num), .p (pi a.Den)], .agg [.p (pi b.Num), .p (pi b.Den)]] [] [.agg [.p (pi r_.1.Num), .p (pi r_.1.Den)], .one (.p (pi r_.2))] [] := by
  refine callOK (n := 25) (rs := [.cell 4 35, .tmp 5]) (nb := 0) (V := []) Try.func45 rfl (by kernel_rfl) rfl rfl rfl rfl (Nat.le_of_ble_eq_true rfl) (by decide) ?_
  unfold ref01_Sub at H0
  refine lok_rt E0 (⟨25, mkS [(2, .x (.one (.ptr 102 0))), (3, .x (.one (.ptr 103 0))), (4, .x (.one (.ptr 104 0)))], mkH [(102, .var [.p (pi a.Num), .p (pi a.Den)]), (103, .var [.p (pi b.Num), .p (pi b.Den)]), (104, .var [.p (pi (0 : Int)), .p (pi (0 : Int))])]⟩) ?_
  refine lok_seq ?_
  replace H0 := bind_some H0
  obtain ⟨y, h_0, H0⟩ := H0
  replace H0 := req_some H0
  obtain ⟨q_3, H0⟩ := H0
  refine lok_rt (Env.of E0 [⟨some 7, 24, [.agg [.p (pi a.Num), .p (pi a.Den)]], [], [.one (.p (.val (.bool y)))], [], True, fun _ => ok_ref01_Valid a y h_0, []⟩,
      ⟨some 11, 24, [.agg [.p (pi b.Num), .p (pi b.Den)]], [], [.one (.p (.val (.bool ((ref01_Valid b).getD default))))], [], (ref01_Valid b).isSome = true, fun h => ok_ref01_Valid b _ (isSome_get h), []⟩]) (⟨25, mkS [(2, .x (.one (.ptr 102 0))), (3, .x (.one (.ptr 103 0))), (4, .x (.one (.ptr 104 0))), (13, .x (.one (.p (.val (.bool ((!y) || (!((ref01_Valid b).getD default))))))))], mkH [(102, .var [.p (pi a.Num), .p (pi a.Den)]), (103, .var [.p (pi b.Num), .p (pi b.Den)]), (104, .var [.p (pi (0 : Int)), .p (pi (0 : Int))])]⟩) ?_
  refine lok_c ((!y) || (!((ref01_Valid b).getD default))) ?_ ?_
  · intro b_2
    replace H0 := cpos H0 b_2
    refine lok_rt E0 (⟨25, mkS [(4, .x (.one (.ptr 104 0))), (5, .x (.one (.p (pi (1 : Int)))))], mkH [(104, .var [.p (pi (0 : Int)), .p (pi (0 : Int))])]⟩) ?_
    refine lok_ret ?_
    obtain rfl := Option.some.inj H0
    try simp only [thenL, blockL]
    exact fin_au _ (.inr rfl) [] (⟨25, mkS [(4, .x (.one (.ptr 104 0))), (5, .x (.one (.p (pi (1 : Int)))))], mkH [(104, .var [.p (pi (0 : Int)), .p (pi (0 : Int))])]⟩) rfl rfl imp_au
  · intro b_2
    replace H0 := cneg H0 b_2
    refine lok_skip ?_
    try simp only [thenL, blockL, ↓reduceIte, reduceCtorEq]
    replace H0 := bind_some H0
    obtain ⟨⟨y1, y2⟩, h_1, H0⟩ := H0
    try dsimp only at H0
    refine lok_rt (Env.of E0 [⟨some 22, 43, [.agg [.p (pi a.Num), .p (pi a.Den)], .agg [.p (pi (IntKind.i64.wrap (0 - b.Num))), .p (pi b.Den)]], [], [.agg [.p (pi y1.Num), .p (pi y1.Den)], .one (.p (pi y2))], [], True, fun _ => ok_ref01_Add a (api_Ratio.mk (IntKind.i64.wrap (0 - b.Num)) b.Den) (y1, y2) h_1, []⟩]) (⟨25, mkS [(4, .x (.one (.ptr 104 0))), (5, .x (.one (.p (pi y2))))], mkH [(104, .var [.p (pi y1.Num), .p (pi y1.Den)])]⟩) ?_
    refine lok_ret ?_
    obtain rfl := Option.some.inj H0
    try simp only [thenL, blockL]
    exact fin_au _ (.inr rfl) [] (⟨25, mkS [(4, .x (.one (.ptr 104 0))), (5, .x (.one (.p (pi y2))))], mkH [(104, .var [.p (pi y1.Num), .p (pi y1.Den)])]⟩) rfl rfl imp_au
theorem ok_law01_RatioAdds (t : List Int) (r_ : Bool) (H0 : law01_RatioAdds t = some r_) : CallOK Try.prog 10 [.one (.p (.sl 1 (List.map encI t)))] [] [.one (.p (.val (.bool r_)))] [] := by
  refine callOK (n := 65) (rs := [.tmp 2]) (nb := 0) (V := []) Try.func10 rfl (by kernel_rfl) rfl rfl rfl rfl (Nat.le_of_ble_eq_true rfl) (by decide) ?_
  unfold law01_RatioAdds at H0
  refine lok_rt E0 (⟨65, mkS [(0, .x (.one (.p (.sl 1 (List.map encI t)))))], mkH []⟩) ?_
  replace H0 := bind_some H0
  obtain ⟨y, h_0, H0⟩ := H0
  refine lok_rt (Env.of E0 [⟨some 15, 18, [.one (.p (.sl 1 (List.map encI t)))], [], [.one (.ptr 0 0)], [some (.var [.p (.sl 1 (List.map encI y.L)), .p (pi y.At)])], True, fun _ => ok_make_New t y h_0, []⟩]) (⟨65, mkS [(3, .x (.one (.ptr 1015 0)))], mkH [(1015, .var [.p (.sl 1 (List.map encI y.L)), .p (pi y.At)])]⟩) ?_
  replace H0 := bind_some H0
  obtain ⟨⟨y1, y2⟩, h_1, H0⟩ := H0
  try dsimp only at H0
  replace H0 := bind_some H0
  obtain ⟨⟨y3, y4⟩, h_2, H0⟩ := H0
  try dsimp only at H0
  refine lok_rt (Env.of E0 [⟨some 17, 25, [.one (.ptr 0 0)], [.var [.p (.sl 1 (List.map encI y.L)), .p (pi y.At)]], [.agg [.p (pi y1.Num), .p (pi y1.Den)]], [some (.var [.p (.sl 1 (List.map encI y2.L)), .p (pi y2.At)])], True, fun _ => ok_make_Tape_Loose y (y1, y2) h_1, []⟩,
      ⟨some 19, 25, [.one (.ptr 0 0)], [.var [.p (.sl 1 (List.map encI y2.L)), .p (pi y2.At)]], [.agg [.p (pi y3.Num), .p (pi y3.Den)]], [some (.var [.p (.sl 1 (List.map encI y4.L)), .p (pi y4.At)])], True, fun _ => ok_make_Tape_Loose y2 (y3, y4) h_2, []⟩]) (⟨65, mkS [(4, .x (.one (.ptr 104 0))), (5, .x (.one (.ptr 105 0)))], mkH [(104, .var [.p (pi y1.Num), .p (pi y1.Den)]), (105, .var [.p (pi y3.Num), .p (pi y3.Den)])]⟩) ?_
  replace H0 := bind_some H0
  obtain ⟨⟨y5, y6⟩, h_3, H0⟩ := H0
  try dsimp only at H0
  refine lok_rt (Env.of E0 [⟨some 23, 42, [.agg [.p (pi y1.Num), .p (pi y1.Den)], .agg [.p (pi y3.Num), .p (pi y3.Den)]], [], [.agg [.p (pi y5.Num), .p (pi y5.Den)], .one (.p (pi y6))], [], True, fun _ => ok_ratio_Add y1 y3 (y5, y6) h_3, []⟩]) (⟨65, mkS [(4, .x (.one (.ptr 104 0))), (5, .x (.one (.ptr 105 0))), (6, .x (.one (.ptr 106 0))), (7, .x (.one (.p (pi y6))))], mkH [(104, .var [.p (pi y1.Num), .p (pi y1.Den)]), (105, .var [.p (pi y3.Num), .p (pi y3.Den)]), (106, .var [.p (pi y5.Num), .p (pi y5.Den)])]⟩) ?_
  replace H0 := bind_some H0
  obtain ⟨⟨y7, y8⟩, h_4, H0⟩ := H0
  try dsimp only at H0
  refine lok_rt (Env.of E0 [⟨some 29, 43, [.agg [.p (pi y1.Num), .p (pi y1.Den)], .agg [.p (pi y3.Num), .p (pi y3.Den)]], [], [.agg [.p (pi y7.Num), .p (pi y7.Den)], .one (.p (pi y8))], [], True, fun _ => ok_ref01_Add y1 y3 (y7, y8) h_4, []⟩]) (⟨65, mkS [(4, .x (.one (.ptr 104 0))), (5, .x (.one (.ptr 105 0))), (6, .x (.one (.ptr 106 0))), (7, .x (.one (.p (pi y6)))), (8, .x (.one (.ptr 108 0))), (9, .x (.one (.p (pi y8))))], mkH [(104, .var [.p (pi y1.Num), .p (pi y1.Den)]), (105, .var [.p (pi y3.Num), .p (pi y3.Den)]), (106, .var [.p (pi y5.Num), .p (pi y5.Den)]), (108, .var [.p (pi y7.Num), .p (pi y7.Den)])]⟩) ?_
  replace H0 := bind_some H0
  obtain ⟨⟨y9, y10⟩, h_5, H0⟩ := H0
  try dsimp only at H0
  refine lok_rt (Env.of E0 [⟨some 35, 44, [.agg [.p (pi y1.Num), .p (pi y1.Den)], .agg [.p (pi y3.Num), .p (pi y3.Den)]], [], [.agg [.p (pi y9.Num), .p (pi y9.Den)], .one (.p (pi y10))], [], True, fun _ => ok_ratio_Sub y1 y3 (y9, y10) h_5, []⟩]) (⟨65, mkS [(4, .x (.one (.ptr 104 0))), (5, .x (.one (.ptr 105 0))), (6, .x (.one (.ptr 106 0))), (7, .x (.one (.p (pi y6)))), (8, .x (.one (.ptr 108 0))), (9, .x (.one (.p (pi y8)))), (10, .x (.one (.ptr 110 0))), (11, .x (.one (.p (pi y10))))], mkH [(104, .var [.p (pi y1.Num), .p (pi y1.Den)]), (105, .var [.p (pi y3.Num), .p (pi y3.Den)]), (106, .var [.p (pi y5.Num), .p (pi y5.Den)]), (108, .var [.p (pi y7.Num), .p (pi y7.Den)]), (110, .var [.p (pi y9.Num), .p (pi y9.Den)])]⟩) ?_
  replace H0 := bind_some H0
  obtain ⟨⟨y11, y12⟩, h_6, H0⟩ := H0
  try dsimp only at H0
  refine lok_rt (Env.of E0 [⟨some 41, 45, [.agg [.p (pi y1.Num), .p (pi y1.Den)], .agg [.p (pi y3.Num), .p (pi y3.Den)]], [], [.agg [.p (pi y11.Num), .p (pi y11.Den)], .one (.p (pi y12))], [], True, fun _ => ok_ref01_Sub y1 y3 (y11, y12) h_6, []⟩]) (⟨65, mkS [(6, .x (.one (.ptr 106 0))), (7, .x (.one (.p (pi y6)))), (8, .x (.one (.ptr 108 0))), (9, .x (.one (.p (pi y8)))), (10, .x (.one (.ptr 110 0))), (11, .x (.one (.p (pi y10)))), (12, .x (.one (.ptr 112 0))), (13, .x (.one (.p (pi y12))))], mkH [(106, .var [.p (pi y5.Num), .p (pi y5.Den)]), (108, .var [.p (pi y7.Num), .p (pi y7.Den)]), (110, .var [.p (pi y9.Num), .p (pi y9.Den)]), (112, .var [.p (pi y11.Num), .p (pi y11.Den)])]⟩) ?_
  replace H0 := req_some H0
  obtain ⟨q_7, H0⟩ := H0
  refine lok_rt (Env.of E0 [⟨some 63, 17, [], [], [.one (.p (.val (.bool ((law01_awake).getD default))))], [], (law01_awake).isSome = true, fun h => ok_law01_awake _ (isSome_get h), []⟩]) (⟨65, mkS [(2, .x (.one (.p (.val (.bool ((((((y5.Num == y7.Num) && (y5.Den == y7.Den)) && (y6 == y8)) && ((y9.Num == y11.Num) && (y9.Den == y11.Den))) && (y10 == y12)) && ((law01_awake).getD default)))))))], mkH []⟩) ?_
  refine lok_ret ?_
  obtain rfl := Option.some.inj H0
  try simp only [thenL, blockL]
  exact fin_au _ (.inr rfl) [] (⟨65, mkS [(2, .x (.one (.p (.val (.bool ((((((y5.Num == y7.Num) && (y5.Den == y7.Den)) && (y6 == y8)) && ((y9.Num == y11.Num) && (y9.Den == y11.Den))) && (y10 == y12)) && ((law01_awake).getD default)))))))], mkH []⟩) rfl rfl imp_au
theorem ok_make_Tape_Small (t : make_Tape) (r_ : api_Ratio × make_Tape) (H0 : make_Tape_Small t = some r_) : CallOK Try.prog 51 [.one (.ptr 0 0)] [.var [.p (.sl 1 (List.map encI t.L)), .p (pi t.At)]] [.agg [.p (pi r_.1.Num), .p (pi r_.1.Den)]] [some (.var [.p (.sl 1 (List.map encI r_.2.L)), .p (pi r_.2.At)])] := by
  refine callOK (n := 14) (rs := [.cell 2 35]) (nb := 1) (V := [0]) Try.func51 rfl (by kernel_rfl) rfl rfl rfl rfl (Nat.le_of_ble_eq_true rfl) (by decide) ?_
  unfold make_Tape_Small at H0
  refine lok_rt E0 (⟨14, mkS [(0, .x (.one (.ptr 0 0))), (2, .x (.one (.ptr 102 0)))], mkH [(0, .var [.p (.sl 1 (List.map encI t.L)), .p (pi t.At)]), (102, .var [.p (pi (0 : Int)), .p (pi (0 : Int))])]⟩) ?_
  replace H0 := bind_some H0
  obtain ⟨⟨y, y1⟩, h_0, H0⟩ := H0
  try dsimp only at H0
  replace H0 := bind_some H0
  obtain ⟨⟨y2, y3⟩, h_1, H0⟩ := H0
  try dsimp only at H0
  replace H0 := bind_some H0
  obtain ⟨⟨y4, y5⟩, h_2, H0⟩ := H0
  try dsimp only at H0
  refine lok_rt (Env.of E0 [⟨some 7, 55, [.one (.ptr 0 0), .one (.p (pi (-30 : Int))), .one (.p (pi (30 : Int)))], [.var [.p (.sl 1 (List.map encI t.L)), .p (pi t.At)]], [.one (.p (pi y))], [some (.var [.p (.sl 1 (List.map encI y1.L)), .p (pi y1.At)])], True, fun _ => ok_make_Tape_Range t (-30 : Int) (30 : Int) (y, y1) h_0, []⟩,
      ⟨some 9, 55, [.one (.ptr 0 0), .one (.p (pi (1 : Int))), .one (.p (pi (12 : Int)))], [.var [.p (.sl 1 (List.map encI y1.L)), .p (pi y1.At)]], [.one (.p (pi y2))], [some (.var [.p (.sl 1 (List.map encI y3.L)), .p (pi y3.At)])], True, fun _ => ok_make_Tape_Range y1 (1 : Int) (12 : Int) (y2, y3) h_1, []⟩,
      ⟨some 10, 22, [.one (.p (pi y)), .one (.p (pi y2))], [], [.agg [.p (pi y4.Num), .p (pi y4.Den)], .one (.p (pi y5))], [], True, fun _ => ok_ref01_New y y2 (y4, y5) h_2, []⟩]) (⟨14, mkS [(2, .x (.one (.ptr 102 0))), (3, .x (.one (.ptr 103 0)))], mkH [(0, .var [.p (.sl 1 (List.map encI y3.L)), .p (pi y3.At)]), (102, .var [.p (pi (0 : Int)), .p (pi (0 : Int))]), (103, .var [.p (pi y4.Num), .p (pi y4.Den)])]⟩) ?_
  refine lok_rt E0 (⟨14, mkS [(2, .x (.one (.ptr 102 0)))], mkH [(0, .var [.p (.sl 1 (List.map encI y3.L)), .p (pi y3.At)]), (102, .var [.p (pi y4.Num), .p (pi y4.Den)])]⟩) ?_
  refine lok_ret ?_
  obtain rfl := Option.some.inj H0
  try simp only [thenL, blockL]
  exact fin_au _ (.inr rfl) [0] (⟨14, mkS [(2, .x (.one (.ptr 102 0)))], mkH [(0, .var [.p (.sl 1 (List.map encI y3.L)), .p (pi y3.At)]), (102, .var [.p (pi y4.Num), .p (pi y4.Den)])]⟩) rfl rfl imp_au
theorem ok_law01_list (s : make_Tape) (loose : Bool) (r_ : (List api_Ratio) × make_Tape) (H0 : law01_list s loose = some r_) : CallOK Try.prog 46 [.one (.ptr 0 0), .one (.p (.val (.bool loose)))] [.var [.p (.sl 1 (List.map encI s.L)), .p (pi s.At)]] [.one (.p (.sl 2 (List.map enc_api_Ratio r_.1)))] [some (.var [.p (.sl 1 (List.map encI r_.2.L)), .p (pi r_.2.At)])] := by
  refine callOK (n := 37) (rs := [.tmp 4]) (nb := 1) (V := [0]) Try.func46 rfl (by kernel_rfl) rfl rfl rfl rfl (Nat.le_of_ble_eq_true rfl) (by decide) ?_
  unfold law01_list at H0
  refine lok_rt E0 (⟨37, mkS [(0, .x (.one (.ptr 0 0))), (1, .x (.one (.p (.val (.bool loose)))))], mkH [(0, .var [.p (.sl 1 (List.map encI s.L)), .p (pi s.At)])]⟩) ?_
  refine lok_rt E0 (⟨37, mkS [(0, .x (.one (.ptr 0 0))), (1, .x (.one (.p (.val (.bool loose))))), (5, .x (.one (.vw 105)))], mkH [(0, .var [.p (.sl 1 (List.map encI s.L)), .p (pi s.At)]), (105, .arr 2 (List.map enc_api_Ratio ([] : List api_Ratio)))]⟩) ?_
  refine lok_join (fun x_ : (List Int) × Int × (List api_Ratio) => law01_list_j1 x_.1 x_.2.1 x_.2.2 = some r_) (fun x_ => ⟨37, mkS [(5, .x (.one (.vw 105)))], mkH [(0, .var [.p (.sl 1 (List.map encI x_.1)), .p (pi x_.2.1)]), (105, .arr 2 (List.map enc_api_Ratio x_.2.2))]⟩) ?hylaw01_list_j1 ?hxlaw01_list_j1
  case hylaw01_list_j1 =>
    rintro ⟨s1, s2, out⟩ H0
    try dsimp only at H0 ⊢
    unfold law01_list_j1 at H0
    refine lok_rt E0 (⟨37, mkS [(4, .x (.one (.vw 105)))], mkH [(0, .var [.p (.sl 1 (List.map encI s1)), .p (pi s2)]), (105, .arr 2 (List.map enc_api_Ratio out))]⟩) ?_
    refine lok_ret ?_
    obtain rfl := Option.some.inj H0
    try simp only [thenL, blockL]
    exact fin_au _ (.inr rfl) [0] (⟨37, mkS [(4, .x (.one (.p (.sl 2 (List.map enc_api_Ratio out)))))], mkH [(0, .var [.p (.sl 1 (List.map encI s1)), .p (pi s2)])]⟩) rfl rfl (Imp.trans (imp_frz 105 2 (List.map enc_api_Ratio out)) imp_au)
  case hxlaw01_list_j1 =>
    replace H0 := bind_some H0
    obtain ⟨⟨y, y1⟩, h_0, H0⟩ := H0
    try dsimp only at H0
    refine lok_rt (Env.of E0 [⟨some 8, 79, [.one (.ptr 0 0), .one (.p (pi (7 : Int)))], [.var [.p (.sl 1 (List.map encI s.L)), .p (pi s.At)]], [.one (.p (pi y))], [some (.var [.p (.sl 1 (List.map encI y1.L)), .p (pi y1.At)])], True, fun _ => ok_make_Tape_Next s (7 : Int) (y, y1) h_0, []⟩]) (⟨37, mkS [(0, .x (.one (.ptr 0 0))), (1, .x (.one (.p (.val (.bool loose))))), (5, .x (.one (.vw 105))), (6, .x (.one (.p (pi y))))], mkH [(0, .var [.p (.sl 1 (List.map encI y1.L)), .p (pi y1.At)]), (105, .arr 2 (List.map enc_api_Ratio ([] : List api_Ratio)))]⟩) ?_
    refine lok_block ?_
    replace H0 := bind_some H0
    obtain ⟨v_1, hv_1, H0⟩ := H0
    refine lok_iter (fun x_ => ⟨37, mkS [(0, .x (.one (.ptr 0 0))), (1, .x (.one (.p (.val (.bool loose))))), (5, .x (.one (.vw 105))), (6, .x (.one (.p (pi x_.1))))], mkH [(0, .var [.p (.sl 1 (List.map encI x_.2.1)), .p (pi x_.2.2.1)]), (105, .arr 2 (List.map enc_api_Ratio x_.2.2.2))]⟩) hv_1 imp_au ?_
    · rintro ⟨i, s3, s4, out1⟩ o_1 H1 k_1
      unfold law01_list_l3 at H1
      try dsimp only at H1 ⊢
      refine lok_seq ?_
      refine lok_rt E0 (⟨37, mkS [(0, .x (.one (.ptr 0 0))), (1, .x (.one (.p (.val (.bool loose))))), (5, .x (.one (.vw 105))), (6, .x (.one (.p (pi i)))), (10, .x (.one (.p (.val (.bool (decide ((0 : Int) < i)))))))], mkH [(0, .var [.p (.sl 1 (List.map encI s3)), .p (pi s4)]), (105, .arr 2 (List.map enc_api_Ratio out1))]⟩) ?_
      refine lok_c (decide ((0 : Int) < i)) ?_ ?_
      · intro b_22
        replace H1 := cpos H1 b_22
        refine lok_skip ?_
        try simp only [thenL, blockL, ↓reduceIte, reduceCtorEq]
        refine lok_join (fun x_ : (List Int) × Int × (List api_Ratio) => law01_list_j2 i x_.1 x_.2.1 x_.2.2 = some o_1) (fun x_ => ⟨37, mkS [(0, .x (.one (.ptr 0 0))), (1, .x (.one (.p (.val (.bool loose))))), (5, .x (.one (.vw 105))), (6, .x (.one (.p (pi i))))], mkH [(0, .var [.p (.sl 1 (List.map encI x_.1)), .p (pi x_.2.1)]), (105, .arr 2 (List.map enc_api_Ratio x_.2.2))]⟩) ?hylaw01_list_j2 ?hxlaw01_list_j2
        case hylaw01_list_j2 =>
          rintro ⟨s7, s8, out3⟩ H1
          try dsimp only at H1 ⊢
          unfold law01_list_j2 at H1
          refine lok_rl E0 (⟨37, mkS [(0, .x (.one (.ptr 0 0))), (1, .x (.one (.p (.val (.bool loose))))), (5, .x (.one (.vw 105))), (6, .x (.one (.p (pi (IntKind.i64.wrap (i - (1 : Int)))))))], mkH [(0, .var [.p (.sl 1 (List.map encI s7)), .p (pi s8)]), (105, .arr 2 (List.map enc_api_Ratio out3))]⟩) ?_
          try simp only [thenL, blockL, ↓reduceIte, reduceCtorEq]
          exact ⟨((IntKind.i64.wrap (i - (1 : Int))), s7, s8, out3), (Option.some.inj H1).symm, imp_au⟩
        case hxlaw01_list_j2 =>
          refine lok_block ?_
          rcases bcases loose with g_2 | g_2
          · replace H1 := cpos H1 g_2
            replace H1 := bind_some H1
            obtain ⟨⟨y2, y3⟩, h_3, H1⟩ := H1
            try dsimp only at H1
            refine lok_rtg (Env.of E0 [⟨some 16, 62, [.one (.ptr 0 0), .one (.p (pi (6 : Int)))], [.var [.p (.sl 1 (List.map encI s3)), .p (pi s4)]], [.one (.p (.val (.bool y2)))], [some (.var [.p (.sl 1 (List.map encI y3.L)), .p (pi y3.At)])], True, fun _ => ok_make_Tape_One (make_Tape.mk s3 s4) (6 : Int) (y2, y3) h_3, []⟩]) g_2 (⟨37, mkS [(0, .x (.one (.ptr 0 0))), (1, .x (.one (.p (.val (.bool loose))))), (5, .x (.one (.vw 105))), (6, .x (.one (.p (pi i)))), (16, .x (.one (.p (.val (.bool y2))))), (17, .x (.one (.p (.val (.bool y2)))))], mkH [(0, .var [.p (.sl 1 (List.map encI y3.L)), .p (pi y3.At)]), (105, .arr 2 (List.map enc_api_Ratio out1))]⟩) ?_
            refine lok_c y2 ?_ ?_
            · intro b_12
              replace H1 := cpos H1 b_12
              replace H1 := bind_some H1
              obtain ⟨⟨y4, y5⟩, h_4, H1⟩ := H1
              try dsimp only at H1
              replace H1 := req_some H1
              obtain ⟨q_5, H1⟩ := H1
              refine lok_rl (Env.of E0 [⟨some 20, 25, [.one (.ptr 0 0)], [.var [.p (.sl 1 (List.map encI y3.L)), .p (pi y3.At)]], [.agg [.p (pi y4.Num), .p (pi y4.Den)]], [some (.var [.p (.sl 1 (List.map encI y5.L)), .p (pi y5.At)])], True, fun _ => ok_make_Tape_Loose y3 (y4, y5) h_4, []⟩]) (⟨37, mkS [(0, .x (.one (.ptr 0 0))), (1, .x (.one (.p (.val (.bool loose))))), (5, .x (.one (.vw 105))), (6, .x (.one (.p (pi i)))), (16, .x (.one (.p (.val (.bool y2)))))], mkH [(0, .var [.p (.sl 1 (List.map encI y5.L)), .p (pi y5.At)]), (105, .arr 2 (List.map enc_api_Ratio (out1 ++ [y4])))]⟩) ?_
              try simp only [thenL, blockL, ↓reduceIte, reduceCtorEq]
              exact ⟨(y5.L, y5.At, (out1 ++ [y4])), H1, imp_au⟩
            · intro b_12
              replace H1 := cneg H1 b_12
              replace H1 := bind_some H1
              obtain ⟨⟨y6, y7⟩, h_6, H1⟩ := H1
              try dsimp only at H1
              refine lok_rt (Env.of E0 [⟨some 24, 79, [.one (.ptr 0 0), .one (.p (pi (2 : Int)))], [.var [.p (.sl 1 (List.map encI y3.L)), .p (pi y3.At)]], [.one (.p (pi y6))], [some (.var [.p (.sl 1 (List.map encI y7.L)), .p (pi y7.At)])], True, fun _ => ok_make_Tape_Next y3 (2 : Int) (y6, y7) h_6, []⟩]) (⟨37, mkS [(0, .x (.one (.ptr 0 0))), (1, .x (.one (.p (.val (.bool loose))))), (5, .x (.one (.vw 105))), (6, .x (.one (.p (pi i)))), (16, .x (.one (.p (.val (.bool y2))))), (25, .x (.one (.p (.val (.bool (y6 == (0 : Int)))))))], mkH [(0, .var [.p (.sl 1 (List.map encI y7.L)), .p (pi y7.At)]), (105, .arr 2 (List.map enc_api_Ratio out1))]⟩) ?_
              refine lok_c (y6 == (0 : Int)) ?_ ?_
              · intro b_11
                replace H1 := cpos H1 b_11
                replace H1 := bind_some H1
                obtain ⟨⟨y8, y9⟩, h_7, H1⟩ := H1
                try dsimp only at H1
                replace H1 := req_some H1
                obtain ⟨q_8, H1⟩ := H1
                refine lok_rl (Env.of E0 [⟨some 28, 51, [.one (.ptr 0 0)], [.var [.p (.sl 1 (List.map encI y7.L)), .p (pi y7.At)]], [.agg [.p (pi y8.Num), .p (pi y8.Den)]], [some (.var [.p (.sl 1 (List.map encI y9.L)), .p (pi y9.At)])], True, fun _ => ok_make_Tape_Small y7 (y8, y9) h_7, []⟩]) (⟨37, mkS [(0, .x (.one (.ptr 0 0))), (1, .x (.one (.p (.val (.bool loose))))), (5, .x (.one (.vw 105))), (6, .x (.one (.p (pi i)))), (16, .x (.one (.p (.val (.bool y2)))))], mkH [(0, .var [.p (.sl 1 (List.map encI y9.L)), .p (pi y9.At)]), (105, .arr 2 (List.map enc_api_Ratio (out1 ++ [y8])))]⟩) ?_
                try simp only [thenL, blockL, ↓reduceIte, reduceCtorEq]
                exact ⟨(y9.L, y9.At, (out1 ++ [y8])), H1, imp_au⟩
              · intro b_11
                replace H1 := cneg H1 b_11
                replace H1 := bind_some H1
                obtain ⟨⟨y10, y11⟩, h_9, H1⟩ := H1
                try dsimp only at H1
                replace H1 := req_some H1
                obtain ⟨q_10, H1⟩ := H1
                refine lok_rl (Env.of E0 [⟨some 33, 50, [.one (.ptr 0 0)], [.var [.p (.sl 1 (List.map encI y7.L)), .p (pi y7.At)]], [.agg [.p (pi y10.Num), .p (pi y10.Den)]], [some (.var [.p (.sl 1 (List.map encI y11.L)), .p (pi y11.At)])], True, fun _ => ok_make_Tape_Ratio y7 (y10, y11) h_9, []⟩]) (⟨37, mkS [(0, .x (.one (.ptr 0 0))), (1, .x (.one (.p (.val (.bool loose))))), (5, .x (.one (.vw 105))), (6, .x (.one (.p (pi i)))), (16, .x (.one (.p (.val (.bool y2)))))], mkH [(0, .var [.p (.sl 1 (List.map encI y11.L)), .p (pi y11.At)]), (105, .arr 2 (List.map enc_api_Ratio (out1 ++ [y10])))]⟩) ?_
                try simp only [thenL, blockL, ↓reduceIte, reduceCtorEq]
                exact ⟨(y11.L, y11.At, (out1 ++ [y10])), H1, imp_au⟩
          · replace H1 := cneg H1 g_2
            refine lok_rtg E0 g_2 (⟨37, mkS [(0, .x (.one (.ptr 0 0))), (1, .x (.one (.p (.val (.bool loose))))), (5, .x (.one (.vw 105))), (6, .x (.one (.p (pi i)))), (17, .x (.one (.p (.val (.bool false)))))], mkH [(0, .var [.p (.sl 1 (List.map encI s3)), .p (pi s4)]), (105, .arr 2 (List.map enc_api_Ratio out1))]⟩) ?_
            refine lok_c false ?_ ?_
            · intro h; exact absurd h (by decide)
            · intro _
              replace H1 := bind_some H1
              obtain ⟨⟨y14, y15⟩, h_15, H1⟩ := H1
              try dsimp only at H1
              refine lok_rt (Env.of E0 [⟨some 24, 79, [.one (.ptr 0 0), .one (.p (pi (2 : Int)))], [.var [.p (.sl 1 (List.map encI s3)), .p (pi s4)]], [.one (.p (pi y14))], [some (.var [.p (.sl 1 (List.map encI y15.L)), .p (pi y15.At)])], True, fun _ => ok_make_Tape_Next (make_Tape.mk s3 s4) (2 : Int) (y14, y15) h_15, []⟩]) (⟨37, mkS [(0, .x (.one (.ptr 0 0))), (1, .x (.one (.p (.val (.bool loose))))), (5, .x (.one (.vw 105))), (6, .x (.one (.p (pi i)))), (25, .x (.one (.p (.val (.bool (y14 == (0 : Int)))))))], mkH [(0, .var [.p (.sl 1 (List.map encI y15.L)), .p (pi y15.At)]), (105, .arr 2 (List.map enc_api_Ratio out1))]⟩) ?_
              refine lok_c (y14 == (0 : Int)) ?_ ?_
              · intro b_20
                replace H1 := cpos H1 b_20
                replace H1 := bind_some H1
                obtain ⟨⟨y16, y17⟩, h_16, H1⟩ := H1
                try dsimp only at H1
                replace H1 := req_some H1
                obtain ⟨q_17, H1⟩ := H1
                refine lok_rl (Env.of E0 [⟨some 28, 51, [.one (.ptr 0 0)], [.var [.p (.sl 1 (List.map encI y15.L)), .p (pi y15.At)]], [.agg [.p (pi y16.Num), .p (pi y16.Den)]], [some (.var [.p (.sl 1 (List.map encI y17.L)), .p (pi y17.At)])], True, fun _ => ok_make_Tape_Small y15 (y16, y17) h_16, []⟩]) (⟨37, mkS [(0, .x (.one (.ptr 0 0))), (1, .x (.one (.p (.val (.bool loose))))), (5, .x (.one (.vw 105))), (6, .x (.one (.p (pi i))))], mkH [(0, .var [.p (.sl 1 (List.map encI y17.L)), .p (pi y17.At)]), (105, .arr 2 (List.map enc_api_Ratio (out1 ++ [y16])))]⟩) ?_
                try simp only [thenL, blockL, ↓reduceIte, reduceCtorEq]
                exact ⟨(y17.L, y17.At, (out1 ++ [y16])), H1, imp_au⟩
              · intro b_20
                replace H1 := cneg H1 b_20
                replace H1 := bind_some H1
                obtain ⟨⟨y18, y19⟩, h_18, H1⟩ := H1
                try dsimp only at H1
                replace H1 := req_some H1
                obtain ⟨q_19, H1⟩ := H1
                refine lok_rl (Env.of E0 [⟨some 33, 50, [.one (.ptr 0 0)], [.var [.p (.sl 1 (List.map encI y15.L)), .p (pi y15.At)]], [.agg [.p (pi y18.Num), .p (pi y18.Den)]], [some (.var [.p (.sl 1 (List.map encI y19.L)), .p (pi y19.At)])], True, fun _ => ok_make_Tape_Ratio y15 (y18, y19) h_18, []⟩]) (⟨37, mkS [(0, .x (.one (.ptr 0 0))), (1, .x (.one (.p (.val (.bool loose))))), (5, .x (.one (.vw 105))), (6, .x (.one (.p (pi i))))], mkH [(0, .var [.p (.sl 1 (List.map encI y19.L)), .p (pi y19.At)]), (105, .arr 2 (List.map enc_api_Ratio (out1 ++ [y18])))]⟩) ?_
                try simp only [thenL, blockL, ↓reduceIte, reduceCtorEq]
                exact ⟨(y19.L, y19.At, (out1 ++ [y18])), H1, imp_au⟩
      · intro b_22
        replace H1 := cneg H1 b_22
        refine lok_exit ?_
        try simp only [thenL, blockL, ↓reduceIte, reduceCtorEq]
        have e_1 := k_1 _ (Option.some.inj H1).symm
        subst e_1
        try dsimp only at H0
        try simp only [thenL, blockL, ↓reduceIte, reduceCtorEq]
        exact ⟨(s3, s4, out1), H0, imp_au⟩
theorem ok_ratio_Sum (l : List api_Ratio) (r_ : api_Ratio × Int) (H0 : ratio_Sum l = some r_) : CallOK Try.prog 47 [.one (.p (.sl 2 (List.map enc_api_Ratio l)))] [] [.agg [.p (pi r_.1.Num), .p (pi r_.1.Den)], .one (.p (pi r_.2))] [] := by
  refine callOK (n := 79) (rs := [.cell 2 35, .tmp 3]) (nb := 0) (V := []) Try.func47 rfl (by kernel_rfl) rfl rfl rfl rfl (Nat.le_of_ble_eq_true rfl) (by decide) ?_
  unfold ratio_Sum at H0
  refine lok_rt E0 (⟨79, mkS [(0, .x (.one (.p (.sl 2 (List.map enc_api_Ratio l))))), (2, .x (.one (.ptr 102 0)))], mkH [(102, .var [.p (pi (0 : Int)), .p (pi (0 : Int))])]⟩) ?_
  refine lok_seq ?_
  refine lok_rt E0 (⟨79, mkS [(0, .x (.one (.p (.sl 2 (List.map enc_api_Ratio l))))), (2, .x (.one (.ptr 102 0))), (16, .x (.one (.p (.val (.bool (decide ((100 : Int) < (l.length : Int))))))))], mkH [(102, .var [.p (pi (0 : Int)), .p (pi (0 : Int))])]⟩) ?_
  refine lok_c (decide ((100 : Int) < (l.length : Int))) ?_ ?_
  · intro b_19
    replace H0 := cpos H0 b_19
    refine lok_rt E0 (⟨79, mkS [(2, .x (.one (.ptr 102 0))), (3, .x (.one (.p (pi (3 : Int)))))], mkH [(102, .var [.p (pi (0 : Int)), .p (pi (0 : Int))])]⟩) ?_
    refine lok_ret ?_
    obtain rfl := Option.some.inj H0
    try simp only [thenL, blockL]
    exact fin_au _ (.inr rfl) [] (⟨79, mkS [(2, .x (.one (.ptr 102 0))), (3, .x (.one (.p (pi (3 : Int)))))], mkH [(102, .var [.p (pi (0 : Int)), .p (pi (0 : Int))])]⟩) rfl rfl imp_au
  · intro b_19
    replace H0 := cneg H0 b_19
    refine lok_skip ?_
    try simp only [thenL, blockL, ↓reduceIte, reduceCtorEq]
    refine lok_join (fun x_ : Unit => ratio_Sum_j5 l = some r_) (fun x_ => ⟨79, mkS [(0, .x (.one (.p (.sl 2 (List.map enc_api_Ratio l))))), (2, .x (.one (.ptr 102 0)))], mkH [(102, .var [.p (pi (0 : Int)), .p (pi (0 : Int))])]⟩) ?hyratio_Sum_j5 ?hxratio_Sum_j5
    case hyratio_Sum_j5 =>
      rintro _ H0
      try dsimp only at H0 ⊢
      unfold ratio_Sum_j5 at H0
      refine lok_rt E0 (⟨79, mkS [(0, .x (.one (.p (.sl 2 (List.map enc_api_Ratio l))))), (2, .x (.one (.ptr 102 0))), (6, .x (.one (.p (.val (.int .u64 (1 : Int))))))], mkH [(102, .var [.p (pi (0 : Int)), .p (pi (0 : Int))])]⟩) ?_
      refine lok_join (fun x_ : Int => ratio_Sum_j3 l x_ = some r_) (fun x_ => ⟨79, mkS [(0, .x (.one (.p (.sl 2 (List.map enc_api_Ratio l))))), (2, .x (.one (.ptr 102 0))), (6, .x (.one (.p (.val (.int .u64 x_)))))], mkH [(102, .var [.p (pi (0 : Int)), .p (pi (0 : Int))])]⟩) ?hyratio_Sum_j3 ?hxratio_Sum_j3
      case hyratio_Sum_j3 =>
        rintro common H0
        try dsimp only at H0 ⊢
        unfold ratio_Sum_j3 at H0
        refine lok_rt E0 (⟨79, mkS [(0, .x (.one (.p (.sl 2 (List.map enc_api_Ratio l))))), (2, .x (.one (.ptr 102 0))), (6, .x (.one (.p (.val (.int .u64 common))))), (11, .x (.one (.ptr 111 0)))], mkH [(102, .var [.p (pi (0 : Int)), .p (pi (0 : Int))]), (111, .var [.p (.val (.bool false)), .p (.val (.int .u64 (0 : Int))), .p (.val (.int .u64 (0 : Int)))])]⟩) ?_
        refine lok_join (fun x_ : Bool × Int × Int => ratio_Sum_j1 common x_.1 x_.2.1 x_.2.2 = some r_) (fun x_ => ⟨79, mkS [(2, .x (.one (.ptr 102 0))), (6, .x (.one (.p (.val (.int .u64 common))))), (11, .x (.one (.ptr 111 0)))], mkH [(102, .var [.p (pi (0 : Int)), .p (pi (0 : Int))]), (111, .var [.p (.val (.bool x_.1)), .p (.val (.int .u64 x_.2.1)), .p (.val (.int .u64 x_.2.2))])]⟩) ?hyratio_Sum_j1 ?hxratio_Sum_j1
        case hyratio_Sum_j1 =>
          rintro ⟨sum, sum1, sum2⟩ H0
          try dsimp only at H0 ⊢
          unfold ratio_Sum_j1 at H0
          replace H0 := bind_some H0
          obtain ⟨⟨y, y1⟩, h_0, H0⟩ := H0
          try dsimp only at H0
          refine lok_rt (Env.of E0 [⟨some 76, 56, [.agg [.p (.val (.bool sum)), .p (.val (.int .u64 sum1)), .p (.val (.int .u64 sum2))], .one (.p (.val (.int .u64 common)))], [], [.agg [.p (pi y.Num), .p (pi y.Den)], .one (.p (pi y1))], [], True, fun _ => ok_ratio_reduced (ratio_signed.mk sum (ratio_wide.mk sum1 sum2)) common (y, y1) h_0, []⟩]) (⟨79, mkS [(2, .x (.one (.ptr 102 0))), (3, .x (.one (.p (pi y1))))], mkH [(102, .var [.p (pi y.Num), .p (pi y.Den)])]⟩) ?_
          refine lok_ret ?_
          obtain rfl := Option.some.inj H0
          try simp only [thenL, blockL]
          exact fin_au _ (.inr rfl) [] (⟨79, mkS [(2, .x (.one (.ptr 102 0))), (3, .x (.one (.p (pi y1))))], mkH [(102, .var [.p (pi y.Num), .p (pi y.Den)])]⟩) rfl rfl imp_au
        case hxratio_Sum_j1 =>
          refine lok_rt E0 (⟨79, mkS [(2, .x (.one (.ptr 102 0))), (6, .x (.one (.p (.val (.int .u64 common))))), (11, .x (.one (.ptr 111 0))), (57, .x (.one (.p (.sl 2 (List.map enc_api_Ratio l))))), (58, .x (.one (.p (pi (l.length : Int))))), (59, .x (.one (.p (pi (0 : Int)))))], mkH [(102, .var [.p (pi (0 : Int)), .p (pi (0 : Int))]), (111, .var [.p (.val (.bool false)), .p (.val (.int .u64 (0 : Int))), .p (.val (.int .u64 (0 : Int)))])]⟩) ?_
          refine lok_block ?_
          replace H0 := bind_some H0
          obtain ⟨v_1, hv_1, H0⟩ := H0
          refine lok_iter (fun x_ => ⟨79, mkS [(2, .x (.one (.ptr 102 0))), (6, .x (.one (.p (.val (.int .u64 common))))), (11, .x (.one (.ptr 111 0))), (57, .x (.one (.p (.sl 2 (List.map enc_api_Ratio l))))), (58, .x (.one (.p (pi (l.length : Int))))), (59, .x (.one (.p (pi x_.1))))], mkH [(102, .var [.p (pi (0 : Int)), .p (pi (0 : Int))]), (111, .var [.p (.val (.bool x_.2.1)), .p (.val (.int .u64 x_.2.2.1)), .p (.val (.int .u64 x_.2.2.2))])]⟩) hv_1 imp_au ?_
          · rintro ⟨v, sum3, sum4, sum5⟩ o_1 H1 k_1
            unfold ratio_Sum_l2 at H1
            try dsimp only at H1 ⊢
            refine lok_rt E0 (⟨79, mkS [(2, .x (.one (.ptr 102 0))), (6, .x (.one (.p (.val (.int .u64 common))))), (11, .x (.one (.ptr 111 0))), (57, .x (.one (.p (.sl 2 (List.map enc_api_Ratio l))))), (58, .x (.one (.p (pi (l.length : Int))))), (59, .x (.one (.p (pi v)))), (60, .x (.one (.p (.val (.bool (decide (v < (l.length : Int))))))))], mkH [(102, .var [.p (pi (0 : Int)), .p (pi (0 : Int))]), (111, .var [.p (.val (.bool sum3)), .p (.val (.int .u64 sum4)), .p (.val (.int .u64 sum5))])]⟩) ?_
            refine lok_seq ?_
            refine lok_c (decide (v < (l.length : Int))) ?_ ?_
            · intro b_6
              replace H1 := cpos H1 b_6
              refine lok_skip ?_
              try simp only [thenL, blockL, ↓reduceIte, reduceCtorEq]
              refine lok_seq ?_
              refine lok_block ?_
              replace H1 := req_some H1
              obtain ⟨q_5, H1⟩ := H1
              refine lok_rt E0 (⟨79, mkS [(2, .x (.one (.ptr 102 0))), (6, .x (.one (.p (.val (.int .u64 common))))), (11, .x (.one (.ptr 111 0))), (13, .x (.one (.ptr 113 0))), (57, .x (.one (.p (.sl 2 (List.map enc_api_Ratio l))))), (58, .x (.one (.p (pi (l.length : Int))))), (59, .x (.one (.p (pi v))))], mkH [(102, .var [.p (pi (0 : Int)), .p (pi (0 : Int))]), (111, .var [.p (.val (.bool sum3)), .p (.val (.int .u64 sum4)), .p (.val (.int .u64 sum5))]), (113, .var [.p (pi ((ix l v).Num)), .p (pi ((ix l v).Den))])]⟩) ?_
              replace H1 := req_some H1
              obtain ⟨q_4, H1⟩ := H1
              replace H1 := bind_some H1
              obtain ⟨y2, h_2, H1⟩ := H1
              replace H1 := bind_some H1
              obtain ⟨y3, h_3, H1⟩ := H1
              refine lok_dl (Env.of E0 [⟨some 71, 73, [.one (.p (pi ((ix l v).Num))), .one (.p (.val (.int .u64 (IntKind.u64.wrap (Int.tdiv common (IntKind.u64.wrap ((ix l v).Den)))))))], [], [.agg [.p (.val (.bool y2.neg)), .p (.val (.int .u64 y2.abs.hi)), .p (.val (.int .u64 y2.abs.lo))]], [], True, fun _ => ok_ratio_signedProduct ((ix l v).Num) (IntKind.u64.wrap (Int.tdiv common (IntKind.u64.wrap ((ix l v).Den)))) y2 h_2, []⟩,
      ⟨some 72, 76, [.agg [.p (.val (.bool sum3)), .p (.val (.int .u64 sum4)), .p (.val (.int .u64 sum5))], .agg [.p (.val (.bool y2.neg)), .p (.val (.int .u64 y2.abs.hi)), .p (.val (.int .u64 y2.abs.lo))]], [], [.agg [.p (.val (.bool y3.neg)), .p (.val (.int .u64 y3.abs.hi)), .p (.val (.int .u64 y3.abs.lo))]], [], True, fun _ => ok_ratio_signed_plus (ratio_signed.mk sum3 (ratio_wide.mk sum4 sum5)) y2 y3 h_3, []⟩]) 9 (⟨79, mkS [(2, .x (.one (.ptr 102 0))), (6, .x (.one (.p (.val (.int .u64 common))))), (11, .x (.one (.ptr 111 0))), (57, .x (.one (.p (.sl 2 (List.map enc_api_Ratio l))))), (58, .x (.one (.p (pi (l.length : Int))))), (59, .x (.one (.p (pi v))))], mkH [(102, .var [.p (pi (0 : Int)), .p (pi (0 : Int))]), (111, .var [.p (.val (.bool y3.neg)), .p (.val (.int .u64 y3.abs.hi)), .p (.val (.int .u64 y3.abs.lo))])]⟩) (by kernel_rfl) (by kernel_rfl) ?_
              try simp only [thenL, blockL, ↓reduceIte, reduceCtorEq]
              refine lok_rl E0 (⟨79, mkS [(2, .x (.one (.ptr 102 0))), (6, .x (.one (.p (.val (.int .u64 common))))), (11, .x (.one (.ptr 111 0))), (57, .x (.one (.p (.sl 2 (List.map enc_api_Ratio l))))), (58, .x (.one (.p (pi (l.length : Int))))), (59, .x (.one (.p (pi (IntKind.i64.wrap (v + (1 : Int)))))))], mkH [(102, .var [.p (pi (0 : Int)), .p (pi (0 : Int))]), (111, .var [.p (.val (.bool y3.neg)), .p (.val (.int .u64 y3.abs.hi)), .p (.val (.int .u64 y3.abs.lo))])]⟩) ?_
              try simp only [thenL, blockL, ↓reduceIte, reduceCtorEq]
              exact ⟨((IntKind.i64.wrap (v + (1 : Int))), y3.neg, y3.abs.hi, y3.abs.lo), (Option.some.inj H1).symm, imp_au⟩
            · intro b_6
              replace H1 := cneg H1 b_6
              refine lok_exit ?_
              try simp only [thenL, blockL, ↓reduceIte, reduceCtorEq]
              have e_1 := k_1 _ (Option.some.inj H1).symm
              subst e_1
              try dsimp only at H0
              try simp only [thenL, blockL, ↓reduceIte, reduceCtorEq]
              exact ⟨(sum3, sum4, sum5), H0, imp_au⟩
      case hxratio_Sum_j3 =>
        refine lok_rt E0 (⟨79, mkS [(0, .x (.one (.p (.sl 2 (List.map enc_api_Ratio l))))), (2, .x (.one (.ptr 102 0))), (6, .x (.one (.p (.val (.int .u64 (1 : Int)))))), (29, .x (.one (.p (.sl 2 (List.map enc_api_Ratio l))))), (30, .x (.one (.p (pi (l.length : Int))))), (31, .x (.one (.p (pi (0 : Int)))))], mkH [(102, .var [.p (pi (0 : Int)), .p (pi (0 : Int))])]⟩) ?_
        refine lok_block ?_
        replace H0 := bind_some H0
        obtain ⟨v_7, hv_7, H0⟩ := H0
        refine lok_iter (fun x_ => ⟨79, mkS [(0, .x (.one (.p (.sl 2 (List.map enc_api_Ratio l))))), (2, .x (.one (.ptr 102 0))), (6, .x (.one (.p (.val (.int .u64 x_.1))))), (29, .x (.one (.p (.sl 2 (List.map enc_api_Ratio l))))), (30, .x (.one (.p (pi (l.length : Int))))), (31, .x (.one (.p (pi x_.2))))], mkH [(102, .var [.p (pi (0 : Int)), .p (pi (0 : Int))])]⟩) hv_7 imp_au ?_
        · rintro ⟨common1, v1⟩ o_1 H1 k_1
          unfold ratio_Sum_l4 at H1
          try dsimp only at H1 ⊢
          refine lok_rt E0 (⟨79, mkS [(0, .x (.one (.p (.sl 2 (List.map enc_api_Ratio l))))), (2, .x (.one (.ptr 102 0))), (6, .x (.one (.p (.val (.int .u64 common1))))), (29, .x (.one (.p (.sl 2 (List.map enc_api_Ratio l))))), (30, .x (.one (.p (pi (l.length : Int))))), (31, .x (.one (.p (pi v1)))), (32, .x (.one (.p (.val (.bool (decide (v1 < (l.length : Int))))))))], mkH [(102, .var [.p (pi (0 : Int)), .p (pi (0 : Int))])]⟩) ?_
          refine lok_seq ?_
          refine lok_c (decide (v1 < (l.length : Int))) ?_ ?_
          · intro b_13
            replace H1 := cpos H1 b_13
            refine lok_skip ?_
            try simp only [thenL, blockL, ↓reduceIte, reduceCtorEq]
            refine lok_seq ?_
            refine lok_block ?_
            replace H1 := req_some H1
            obtain ⟨q_12, H1⟩ := H1
            refine lok_rt E0 (⟨79, mkS [(0, .x (.one (.p (.sl 2 (List.map enc_api_Ratio l))))), (2, .x (.one (.ptr 102 0))), (6, .x (.one (.p (.val (.int .u64 common1))))), (8, .x (.one (.ptr 108 0))), (29, .x (.one (.p (.sl 2 (List.map enc_api_Ratio l))))), (30, .x (.one (.p (pi (l.length : Int))))), (31, .x (.one (.p (pi v1))))], mkH [(102, .var [.p (pi (0 : Int)), .p (pi (0 : Int))]), (108, .var [.p (pi ((ix l v1).Num)), .p (pi ((ix l v1).Den))])]⟩) ?_
            refine lok_rt E0 (⟨79, mkS [(0, .x (.one (.p (.sl 2 (List.map enc_api_Ratio l))))), (2, .x (.one (.ptr 102 0))), (6, .x (.one (.p (.val (.int .u64 common1))))), (9, .x (.one (.p (.val (.int .u64 (IntKind.u64.wrap ((ix l v1).Den))))))), (29, .x (.one (.p (.sl 2 (List.map enc_api_Ratio l))))), (30, .x (.one (.p (pi (l.length : Int))))), (31, .x (.one (.p (pi v1))))], mkH [(102, .var [.p (pi (0 : Int)), .p (pi (0 : Int))])]⟩) ?_
            replace H1 := bind_some H1
            obtain ⟨y4, h_8, H1⟩ := H1
            replace H1 := req_some H1
            obtain ⟨q_11, H1⟩ := H1
            replace H1 := bind_some H1
            obtain ⟨y5, h_9, H1⟩ := H1
            refine lok_rt (Env.of E0 [⟨some 42, 60, [.one (.p (.val (.int .u64 common1))), .one (.p (.val (.int .u64 (IntKind.u64.wrap ((ix l v1).Den)))))], [], [.one (.p (.val (.int .u64 y4)))], [], True, fun _ => ok_ratio_gcd common1 (IntKind.u64.wrap ((ix l v1).Den)) y4 h_8, []⟩,
      ⟨some 44, 71, [.one (.p (.val (.int .u64 common1))), .one (.p (.val (.int .u64 (IntKind.u64.wrap (Int.tdiv (IntKind.u64.wrap ((ix l v1).Den)) y4)))))], [], [.agg [.p (.val (.int .u64 y5.hi)), .p (.val (.int .u64 y5.lo))]], [], True, fun _ => ok_ratio_product common1 (IntKind.u64.wrap (Int.tdiv (IntKind.u64.wrap ((ix l v1).Den)) y4)) y5 h_9, []⟩]) (⟨79, mkS [(0, .x (.one (.p (.sl 2 (List.map enc_api_Ratio l))))), (2, .x (.one (.ptr 102 0))), (10, .x (.one (.ptr 110 0))), (29, .x (.one (.p (.sl 2 (List.map enc_api_Ratio l))))), (30, .x (.one (.p (pi (l.length : Int))))), (31, .x (.one (.p (pi v1))))], mkH [(102, .var [.p (pi (0 : Int)), .p (pi (0 : Int))]), (110, .var [.p (.val (.int .u64 y5.hi)), .p (.val (.int .u64 y5.lo))])]⟩) ?_
            refine lok_seq ?_
            refine lok_rt E0 (⟨79, mkS [(0, .x (.one (.p (.sl 2 (List.map enc_api_Ratio l))))), (2, .x (.one (.ptr 102 0))), (10, .x (.one (.ptr 110 0))), (29, .x (.one (.p (.sl 2 (List.map enc_api_Ratio l))))), (30, .x (.one (.p (pi (l.length : Int))))), (31, .x (.one (.p (pi v1)))), (52, .x (.one (.p (.val (.bool ((y5.hi != (0 : Int)) || (decide ((1152921504606846976 : Int) < y5.lo))))))))], mkH [(102, .var [.p (pi (0 : Int)), .p (pi (0 : Int))]), (110, .var [.p (.val (.int .u64 y5.hi)), .p (.val (.int .u64 y5.lo))])]⟩) ?_
            refine lok_c ((y5.hi != (0 : Int)) || (decide ((1152921504606846976 : Int) < y5.lo))) ?_ ?_
            · intro b_10
              replace H1 := cpos H1 b_10
              refine lok_rt E0 (⟨79, mkS [(2, .x (.one (.ptr 102 0))), (3, .x (.one (.p (pi (6 : Int)))))], mkH [(102, .var [.p (pi (0 : Int)), .p (pi (0 : Int))])]⟩) ?_
              refine lok_ret ?_
              try simp only [thenL, blockL, ↓reduceIte, reduceCtorEq]
              have e_1 := k_1 _ (Option.some.inj H1).symm
              subst e_1
              try dsimp only at H0
              obtain rfl := Option.some.inj H0
              try simp only [thenL, blockL]
              exact fin_au _ (.inr rfl) [] (⟨79, mkS [(2, .x (.one (.ptr 102 0))), (3, .x (.one (.p (pi (6 : Int)))))], mkH [(102, .var [.p (pi (0 : Int)), .p (pi (0 : Int))])]⟩) rfl rfl imp_au
            · intro b_10
              replace H1 := cneg H1 b_10
              refine lok_skip ?_
              try simp only [thenL, blockL, ↓reduceIte, reduceCtorEq]
              refine lok_rl E0 (⟨79, mkS [(0, .x (.one (.p (.sl 2 (List.map enc_api_Ratio l))))), (2, .x (.one (.ptr 102 0))), (6, .x (.one (.p (.val (.int .u64 y5.lo))))), (29, .x (.one (.p (.sl 2 (List.map enc_api_Ratio l))))), (30, .x (.one (.p (pi (l.length : Int))))), (31, .x (.one (.p (pi v1))))], mkH [(102, .var [.p (pi (0 : Int)), .p (pi (0 : Int))])]⟩) ?_
              try simp only [thenL, blockL, ↓reduceIte, reduceCtorEq]
              refine lok_rl E0 (⟨79, mkS [(0, .x (.one (.p (.sl 2 (List.map enc_api_Ratio l))))), (2, .x (.one (.ptr 102 0))), (6, .x (.one (.p (.val (.int .u64 y5.lo))))), (29, .x (.one (.p (.sl 2 (List.map enc_api_Ratio l))))), (30, .x (.one (.p (pi (l.length : Int))))), (31, .x (.one (.p (pi (IntKind.i64.wrap (v1 + (1 : Int)))))))], mkH [(102, .var [.p (pi (0 : Int)), .p (pi (0 : Int))])]⟩) ?_
              try simp only [thenL, blockL, ↓reduceIte, reduceCtorEq]
              exact ⟨(y5.lo, (IntKind.i64.wrap (v1 + (1 : Int)))), (Option.some.inj H1).symm, imp_au⟩
          · intro b_13
            replace H1 := cneg H1 b_13
            refine lok_exit ?_
            try simp only [thenL, blockL, ↓reduceIte, reduceCtorEq]
            have e_1 := k_1 _ (Option.some.inj H1).symm
            subst e_1
            try dsimp only at H0
            try simp only [thenL, blockL, ↓reduceIte, reduceCtorEq]
            exact ⟨common1, H0, imp_au⟩
    case hxratio_Sum_j5 =>
      refine lok_rt E0 (⟨79, mkS [(0, .x (.one (.p (.sl 2 (List.map enc_api_Ratio l))))), (2, .x (.one (.ptr 102 0))), (18, .x (.one (.p (.sl 2 (List.map enc_api_Ratio l))))), (19, .x (.one (.p (pi (l.length : Int))))), (20, .x (.one (.p (pi (0 : Int)))))], mkH [(102, .var [.p (pi (0 : Int)), .p (pi (0 : Int))])]⟩) ?_
      refine lok_block ?_
      replace H0 := bind_some H0
      obtain ⟨v_14, hv_14, H0⟩ := H0
      refine lok_iter (fun x_ => ⟨79, mkS [(0, .x (.one (.p (.sl 2 (List.map enc_api_Ratio l))))), (2, .x (.one (.ptr 102 0))), (18, .x (.one (.p (.sl 2 (List.map enc_api_Ratio l))))), (19, .x (.one (.p (pi (l.length : Int))))), (20, .x (.one (.p (pi x_))))], mkH [(102, .var [.p (pi (0 : Int)), .p (pi (0 : Int))])]⟩) hv_14 imp_au ?_
      · rintro v2 o_1 H1 k_1
        unfold ratio_Sum_l6 at H1
        try dsimp only at H1 ⊢
        refine lok_rt E0 (⟨79, mkS [(0, .x (.one (.p (.sl 2 (List.map enc_api_Ratio l))))), (2, .x (.one (.ptr 102 0))), (18, .x (.one (.p (.sl 2 (List.map enc_api_Ratio l))))), (19, .x (.one (.p (pi (l.length : Int))))), (20, .x (.one (.p (pi v2)))), (21, .x (.one (.p (.val (.bool (decide (v2 < (l.length : Int))))))))], mkH [(102, .var [.p (pi (0 : Int)), .p (pi (0 : Int))])]⟩) ?_
        refine lok_seq ?_
        refine lok_c (decide (v2 < (l.length : Int))) ?_ ?_
        · intro b_18
          replace H1 := cpos H1 b_18
          refine lok_skip ?_
          try simp only [thenL, blockL, ↓reduceIte, reduceCtorEq]
          refine lok_seq ?_
          refine lok_block ?_
          replace H1 := req_some H1
          obtain ⟨q_17, H1⟩ := H1
          refine lok_rt E0 (⟨79, mkS [(0, .x (.one (.p (.sl 2 (List.map enc_api_Ratio l))))), (2, .x (.one (.ptr 102 0))), (5, .x (.one (.ptr 105 0))), (18, .x (.one (.p (.sl 2 (List.map enc_api_Ratio l))))), (19, .x (.one (.p (pi (l.length : Int))))), (20, .x (.one (.p (pi v2))))], mkH [(102, .var [.p (pi (0 : Int)), .p (pi (0 : Int))]), (105, .var [.p (pi ((ix l v2).Num)), .p (pi ((ix l v2).Den))])]⟩) ?_
          replace H1 := bind_some H1
          obtain ⟨y6, h_15, H1⟩ := H1
          refine lok_rt (Env.of E0 [⟨some 25, 23, [.agg [.p (pi ((ix l v2).Num)), .p (pi ((ix l v2).Den))]], [], [.one (.p (.val (.bool y6)))], [], True, fun _ => ok_ratio_Valid (ix l v2) y6 h_15, []⟩]) (⟨79, mkS [(0, .x (.one (.p (.sl 2 (List.map enc_api_Ratio l))))), (2, .x (.one (.ptr 102 0))), (18, .x (.one (.p (.sl 2 (List.map enc_api_Ratio l))))), (19, .x (.one (.p (pi (l.length : Int))))), (20, .x (.one (.p (pi v2)))), (26, .x (.one (.p (.val (.bool (!y6))))))], mkH [(102, .var [.p (pi (0 : Int)), .p (pi (0 : Int))])]⟩) ?_
          refine lok_c (!y6) ?_ ?_
          · intro b_16
            replace H1 := cpos H1 b_16
            refine lok_rt E0 (⟨79, mkS [(2, .x (.one (.ptr 102 0))), (3, .x (.one (.p (pi (1 : Int)))))], mkH [(102, .var [.p (pi (0 : Int)), .p (pi (0 : Int))])]⟩) ?_
            refine lok_ret ?_
            try simp only [thenL, blockL, ↓reduceIte, reduceCtorEq]
            have e_1 := k_1 _ (Option.some.inj H1).symm
            subst e_1
            try dsimp only at H0
            obtain rfl := Option.some.inj H0
            try simp only [thenL, blockL]
            exact fin_au _ (.inr rfl) [] (⟨79, mkS [(2, .x (.one (.ptr 102 0))), (3, .x (.one (.p (pi (1 : Int)))))], mkH [(102, .var [.p (pi (0 : Int)), .p (pi (0 : Int))])]⟩) rfl rfl imp_au
          · intro b_16
            replace H1 := cneg H1 b_16
            refine lok_skip ?_
            try simp only [thenL, blockL, ↓reduceIte, reduceCtorEq]
            refine lok_rl E0 (⟨79, mkS [(0, .x (.one (.p (.sl 2 (List.map enc_api_Ratio l))))), (2, .x (.one (.ptr 102 0))), (18, .x (.one (.p (.sl 2 (List.map enc_api_Ratio l))))), (19, .x (.one (.p (pi (l.length : Int))))), (20, .x (.one (.p (pi (IntKind.i64.wrap (v2 + (1 : Int)))))))], mkH [(102, .var [.p (pi (0 : Int)), .p (pi (0 : Int))])]⟩) ?_
            try simp only [thenL, blockL, ↓reduceIte, reduceCtorEq]
            exact ⟨(IntKind.i64.wrap (v2 + (1 : Int))), (Option.some.inj H1).symm, imp_au⟩
        · intro b_18
          replace H1 := cneg H1 b_18
          refine lok_exit ?_
          try simp only [thenL, blockL, ↓reduceIte, reduceCtorEq]
          have e_1 := k_1 _ (Option.some.inj H1).symm
          subst e_1
          try dsimp only at H0
          try simp only [thenL, blockL, ↓reduceIte, reduceCtorEq]
          exact ⟨(), H0, imp_au⟩
theorem ok_ref01_Sum (l : List api_Ratio) (r_ : api_Ratio × Int) (H0 : ref01_Sum l = some r_) : CallOK Try.prog 48 [.one (.p (.sl 2 (List.map enc_api_Ratio l)))] [] [.agg [.p (pi r_.1.Num), .p (pi r_.1.Den)], .one (.p (pi r_.2))] [] := by
  refine callOK (n := 119) (rs := [.cell 2 35, .tmp 3]) (nb := 0) (V := []) Try.func48 rfl (by kernel_rfl) rfl rfl rfl rfl (Nat.le_of_ble_eq_true rfl) (by decide) ?_
  unfold ref01_Sum at H0
  refine lok_rt E0 (⟨119, mkS [(0, .x (.one (.p (.sl 2 (List.map enc_api_Ratio l))))), (2, .x (.one (.ptr 102 0)))], mkH [(102, .var [.p (pi (0 : Int)), .p (pi (0 : Int))])]⟩) ?_
  refine lok_seq ?_
  refine lok_rt E0 (⟨119, mkS [(0, .x (.one (.p (.sl 2 (List.map enc_api_Ratio l))))), (2, .x (.one (.ptr 102 0))), (17, .x (.one (.p (.val (.bool (decide ((100 : Int) < (l.length : Int))))))))], mkH [(102, .var [.p (pi (0 : Int)), .p (pi (0 : Int))])]⟩) ?_
  refine lok_c (decide ((100 : Int) < (l.length : Int))) ?_ ?_
  · intro b_23
    replace H0 := cpos H0 b_23
    refine lok_rt E0 (⟨119, mkS [(2, .x (.one (.ptr 102 0))), (3, .x (.one (.p (pi (3 : Int)))))], mkH [(102, .var [.p (pi (0 : Int)), .p (pi (0 : Int))])]⟩) ?_
    refine lok_ret ?_
    obtain rfl := Option.some.inj H0
    try simp only [thenL, blockL]
    exact fin_au _ (.inr rfl) [] (⟨119, mkS [(2, .x (.one (.ptr 102 0))), (3, .x (.one (.p (pi (3 : Int)))))], mkH [(102, .var [.p (pi (0 : Int)), .p (pi (0 : Int))])]⟩) rfl rfl imp_au
  · intro b_23
    replace H0 := cneg H0 b_23
    refine lok_skip ?_
    try simp only [thenL, blockL, ↓reduceIte, reduceCtorEq]
    refine lok_join (fun x_ : Unit => ref01_Sum_j5 l = some r_) (fun x_ => ⟨119, mkS [(0, .x (.one (.p (.sl 2 (List.map enc_api_Ratio l))))), (2, .x (.one (.ptr 102 0)))], mkH [(102, .var [.p (pi (0 : Int)), .p (pi (0 : Int))])]⟩) ?hyref01_Sum_j5 ?hxref01_Sum_j5
    case hyref01_Sum_j5 =>
      rintro _ H0
      try dsimp only at H0 ⊢
      unfold ref01_Sum_j5 at H0
      refine lok_rt E0 (⟨119, mkS [(0, .x (.one (.p (.sl 2 (List.map enc_api_Ratio l))))), (2, .x (.one (.ptr 102 0))), (5, .x (.one (.ptr 105 0)))], mkH [(102, .var [.p (pi (0 : Int)), .p (pi (0 : Int))]), (105, .var [.p (.val (.int .u64 (0 : Int))), .p (.val (.int .u64 (1 : Int)))])]⟩) ?_
      refine lok_join (fun x_ : Int × Int => ref01_Sum_j3 l x_.1 x_.2 = some r_) (fun x_ => ⟨119, mkS [(0, .x (.one (.p (.sl 2 (List.map enc_api_Ratio l))))), (2, .x (.one (.ptr 102 0))), (5, .x (.one (.ptr 105 0)))], mkH [(102, .var [.p (pi (0 : Int)), .p (pi (0 : Int))]), (105, .var [.p (.val (.int .u64 x_.1)), .p (.val (.int .u64 x_.2))])]⟩) ?hyref01_Sum_j3 ?hxref01_Sum_j3
      case hyref01_Sum_j3 =>
        rintro ⟨common, common1⟩ H0
        try dsimp only at H0 ⊢
        unfold ref01_Sum_j3 at H0
        refine lok_rt E0 (⟨119, mkS [(0, .x (.one (.p (.sl 2 (List.map enc_api_Ratio l))))), (2, .x (.one (.ptr 102 0))), (5, .x (.one (.ptr 105 0))), (10, .x (.one (.p (.val (.bool false))))), (11, .x (.one (.ptr 111 0)))], mkH [(102, .var [.p (pi (0 : Int)), .p (pi (0 : Int))]), (105, .var [.p (.val (.int .u64 common)), .p (.val (.int .u64 common1))]), (111, .var [.p (.val (.int .u64 (0 : Int))), .p (.val (.int .u64 (0 : Int)))])]⟩) ?_
        refine lok_join (fun x_ : Bool × Int × Int => ref01_Sum_j1 common common1 x_.1 x_.2.1 x_.2.2 = some r_) (fun x_ => ⟨119, mkS [(2, .x (.one (.ptr 102 0))), (5, .x (.one (.ptr 105 0))), (10, .x (.one (.p (.val (.bool x_.1))))), (11, .x (.one (.ptr 111 0)))], mkH [(102, .var [.p (pi (0 : Int)), .p (pi (0 : Int))]), (105, .var [.p (.val (.int .u64 common)), .p (.val (.int .u64 common1))]), (111, .var [.p (.val (.int .u64 x_.2.1)), .p (.val (.int .u64 x_.2.2))])]⟩) ?hyref01_Sum_j1 ?hxref01_Sum_j1
        case hyref01_Sum_j1 =>
          rintro ⟨s, n, n1⟩ H0
          try dsimp only at H0 ⊢
          unfold ref01_Sum_j1 at H0
          replace H0 := bind_some H0
          obtain ⟨⟨y, y1⟩, h_0, H0⟩ := H0
          try dsimp only at H0
          refine lok_dt (Env.of E0 [⟨some 116, 58, [.one (.p (.val (.bool (s && (!((n == (0 : Int)) && (n1 == (0 : Int)))))))), .agg [.p (.val (.int .u64 n)), .p (.val (.int .u64 n1))], .agg [.p (.val (.int .u64 common)), .p (.val (.int .u64 common1))]], [], [.agg [.p (pi y.Num), .p (pi y.Den)], .one (.p (pi y1))], [], True, fun _ => ok_ref01_Reduce (s && (!((n == (0 : Int)) && (n1 == (0 : Int))))) (ref01_Wide.mk n n1) (ref01_Wide.mk common common1) (y, y1) h_0, []⟩]) 11 (⟨119, mkS [(2, .x (.one (.ptr 102 0))), (3, .x (.one (.p (pi y1))))], mkH [(102, .var [.p (pi y.Num), .p (pi y.Den)])]⟩) (by kernel_rfl) (by kernel_rfl) ?_
          refine lok_ret ?_
          obtain rfl := Option.some.inj H0
          try simp only [thenL, blockL]
          exact fin_au _ (.inr rfl) [] (⟨119, mkS [(2, .x (.one (.ptr 102 0))), (3, .x (.one (.p (pi y1))))], mkH [(102, .var [.p (pi y.Num), .p (pi y.Den)])]⟩) rfl rfl imp_au
        case hxref01_Sum_j1 =>
          refine lok_rt E0 (⟨119, mkS [(0, .x (.one (.p (.sl 2 (List.map enc_api_Ratio l))))), (2, .x (.one (.ptr 102 0))), (5, .x (.one (.ptr 105 0))), (10, .x (.one (.p (.val (.bool false))))), (11, .x (.one (.ptr 111 0))), (12, .x (.one (.p (pi (0 : Int)))))], mkH [(102, .var [.p (pi (0 : Int)), .p (pi (0 : Int))]), (105, .var [.p (.val (.int .u64 common)), .p (.val (.int .u64 common1))]), (111, .var [.p (.val (.int .u64 (0 : Int))), .p (.val (.int .u64 (0 : Int)))])]⟩) ?_
          refine lok_block ?_
          replace H0 := bind_some H0
          obtain ⟨v_1, hv_1, H0⟩ := H0
          refine lok_iter (fun x_ => ⟨119, mkS [(0, .x (.one (.p (.sl 2 (List.map enc_api_Ratio l))))), (2, .x (.one (.ptr 102 0))), (5, .x (.one (.ptr 105 0))), (10, .x (.one (.p (.val (.bool x_.1))))), (11, .x (.one (.ptr 111 0))), (12, .x (.one (.p (pi x_.2.1))))], mkH [(102, .var [.p (pi (0 : Int)), .p (pi (0 : Int))]), (105, .var [.p (.val (.int .u64 common)), .p (.val (.int .u64 common1))]), (111, .var [.p (.val (.int .u64 x_.2.2.1)), .p (.val (.int .u64 x_.2.2.2))])]⟩) hv_1 imp_au ?_
          · rintro ⟨s1, i, n2, n3⟩ o_1 H1 k_1
            unfold ref01_Sum_l2 at H1
            try dsimp only at H1 ⊢
            refine lok_seq ?_
            refine lok_rt E0 (⟨119, mkS [(0, .x (.one (.p (.sl 2 (List.map enc_api_Ratio l))))), (2, .x (.one (.ptr 102 0))), (5, .x (.one (.ptr 105 0))), (10, .x (.one (.p (.val (.bool s1))))), (11, .x (.one (.ptr 111 0))), (12, .x (.one (.p (pi i)))), (72, .x (.one (.p (.val (.bool (decide (i < (l.length : Int))))))))], mkH [(102, .var [.p (pi (0 : Int)), .p (pi (0 : Int))]), (105, .var [.p (.val (.int .u64 common)), .p (.val (.int .u64 common1))]), (111, .var [.p (.val (.int .u64 n2)), .p (.val (.int .u64 n3))])]⟩) ?_
            refine lok_c (decide (i < (l.length : Int))) ?_ ?_
            · intro b_9
              replace H1 := cpos H1 b_9
              refine lok_skip ?_
              try simp only [thenL, blockL, ↓reduceIte, reduceCtorEq]
              refine lok_seq ?_
              refine lok_block ?_
              replace H1 := req_some H1
              obtain ⟨q_8, H1⟩ := H1
              replace H1 := bind_some H1
              obtain ⟨y2, h_2, H1⟩ := H1
              replace H1 := bind_some H1
              obtain ⟨⟨y3, y4⟩, h_3, H1⟩ := H1
              try dsimp only at H1
              refine lok_et (Env.of E0 [⟨some 82, 59, [.one (.p (pi ((ix l i).Den)))], [], [.one (.p (.val (.int .u64 y2)))], [], True, fun _ => ok_ref01_Size ((ix l i).Den) y2 h_2, []⟩,
      ⟨some 84, 80, [.agg [.p (.val (.int .u64 common)), .p (.val (.int .u64 common1))], .agg [.p (.val (.int .u64 (0 : Int))), .p (.val (.int .u64 y2))]], [], [.agg [.p (.val (.int .u64 y3.Hi)), .p (.val (.int .u64 y3.Lo))], .agg [.p (.val (.int .u64 y4.Hi)), .p (.val (.int .u64 y4.Lo))]], [], True, fun _ => ok_ref01_Divide (ref01_Wide.mk common common1) (ref01_Wide.mk (0 : Int) y2) (y3, y4) h_3, []⟩]) 119 [⟨[(5, .x (.one (.ptr 105 0)))], [(105, some (.var [.p (.val (.int .u64 common)), .p (.val (.int .u64 common1))]))], [(76, .x (.agg [.p (.val (.int .u64 common)), .p (.val (.int .u64 common1))]))], [], none⟩,
      ⟨[(0, .x (.one (.p (.sl 2 (List.map enc_api_Ratio l)))))], [], [(77, .x (.one (.p (.sl 2 (List.map enc_api_Ratio l)))))], [], none⟩,
      ⟨[(12, .x (.one (.p (pi i))))], [], [(78, .x (.one (.p (pi i))))], [], none⟩,
      ⟨[(77, .x (.one (.p (.sl 2 (List.map enc_api_Ratio l))))), (78, .x (.one (.p (pi i))))], [], [(79, .x (.one (.ep [pi ((ix l i).Num), pi ((ix l i).Den)])))], [], none⟩,
      ⟨[(79, .x (.one (.ep [pi ((ix l i).Num), pi ((ix l i).Den)])))], [], [(80, .x (.one (.ep [pi ((ix l i).Den)])))], [], none⟩,
      ⟨[(80, .x (.one (.ep [pi ((ix l i).Den)])))], [], [(81, .x (.one (.p (pi ((ix l i).Den)))))], [], none⟩,
      ⟨[(81, .x (.one (.p (pi ((ix l i).Den)))))], [], [(82, .x (.one (.p (.val (.int .u64 y2)))))], [], none⟩,
      ⟨[(82, .x (.one (.p (.val (.int .u64 y2)))))], [], [(83, .x (.agg [.p (.val (.int .u64 (0 : Int))), .p (.val (.int .u64 y2))]))], [], none⟩,
      ⟨[(76, .x (.agg [.p (.val (.int .u64 common)), .p (.val (.int .u64 common1))])), (83, .x (.agg [.p (.val (.int .u64 (0 : Int))), .p (.val (.int .u64 y2))]))], [], [(84, .tup [.agg [.p (.val (.int .u64 y3.Hi)), .p (.val (.int .u64 y3.Lo))], .agg [.p (.val (.int .u64 y4.Hi)), .p (.val (.int .u64 y4.Lo))]])], [], none⟩,
      ⟨[(84, .tup [.agg [.p (.val (.int .u64 y3.Hi)), .p (.val (.int .u64 y3.Lo))], .agg [.p (.val (.int .u64 y4.Hi)), .p (.val (.int .u64 y4.Lo))]])], [], [(75, .tup [.agg [.p (.val (.int .u64 y3.Hi)), .p (.val (.int .u64 y3.Lo))], .agg [.p (.val (.int .u64 y4.Hi)), .p (.val (.int .u64 y4.Lo))]])], [], none⟩,
      ⟨[(75, .tup [.agg [.p (.val (.int .u64 y3.Hi)), .p (.val (.int .u64 y3.Lo))], .agg [.p (.val (.int .u64 y4.Hi)), .p (.val (.int .u64 y4.Lo))]])], [], [(85, .x (.agg [.p (.val (.int .u64 y3.Hi)), .p (.val (.int .u64 y3.Lo))]))], [], none⟩,
      ⟨[(75, .tup [.agg [.p (.val (.int .u64 y3.Hi)), .p (.val (.int .u64 y3.Lo))], .agg [.p (.val (.int .u64 y4.Hi)), .p (.val (.int .u64 y4.Lo))]])], [], [(86, .x (.agg [.p (.val (.int .u64 y4.Hi)), .p (.val (.int .u64 y4.Lo))]))], [], none⟩,
      ⟨[], [(113, none)], [(13, .x (.one (.ptr 113 0)))], [(113, some (.var [.p (.val (.int .u64 (0 : Int))), .p (.val (.int .u64 (0 : Int)))]))], some 113⟩,
      ⟨[], [(114, none)], [(14, .x (.one (.ptr 114 0)))], [(114, some (.var [.p (.val (.int .u64 (0 : Int))), .p (.val (.int .u64 (0 : Int)))]))], some 114⟩,
      ⟨[(13, .x (.one (.ptr 113 0))), (85, .x (.agg [.p (.val (.int .u64 y3.Hi)), .p (.val (.int .u64 y3.Lo))]))], [(113, some (.var [.p (.val (.int .u64 (0 : Int))), .p (.val (.int .u64 (0 : Int)))]))], [], [(113, some (.var [.p (.val (.int .u64 y3.Hi)), .p (.val (.int .u64 y3.Lo))]))], none⟩] (⟨119, mkS [(0, .x (.one (.p (.sl 2 (List.map enc_api_Ratio l))))), (2, .x (.one (.ptr 102 0))), (5, .x (.one (.ptr 105 0))), (10, .x (.one (.p (.val (.bool s1))))), (11, .x (.one (.ptr 111 0))), (12, .x (.one (.p (pi i)))), (13, .x (.one (.ptr 113 0)))], mkH [(102, .var [.p (pi (0 : Int)), .p (pi (0 : Int))]), (105, .var [.p (.val (.int .u64 common)), .p (.val (.int .u64 common1))]), (111, .var [.p (.val (.int .u64 n2)), .p (.val (.int .u64 n3))]), (113, .var [.p (.val (.int .u64 y3.Hi)), .p (.val (.int .u64 y3.Lo))])]⟩) (by kernel_rfl) (by kernel_rfl) (by kernel_rfl) rfl rfl rfl ?_
              replace H1 := req_some H1
              obtain ⟨q_7, H1⟩ := H1
              replace H1 := bind_some H1
              obtain ⟨y5, h_4, H1⟩ := H1
              replace H1 := bind_some H1
              obtain ⟨y6, h_5, H1⟩ := H1
              replace H1 := bind_some H1
              obtain ⟨⟨y7, y8⟩, h_6, H1⟩ := H1
              try dsimp only at H1
              refine lok_dl (Env.of E0 [⟨some 101, 59, [.one (.p (pi ((ix l i).Num)))], [], [.one (.p (.val (.int .u64 y5)))], [], True, fun _ => ok_ref01_Size ((ix l i).Num) y5 h_4, []⟩,
      ⟨some 104, 72, [.one (.p (.val (.int .u64 y5))), .one (.p (.val (.int .u64 y3.Lo)))], [], [.agg [.p (.val (.int .u64 y6.Hi)), .p (.val (.int .u64 y6.Lo))]], [], True, fun _ => ok_ref01_Product y5 y3.Lo y6 h_5, []⟩,
      ⟨some 105, 75, [.one (.p (.val (.bool s1))), .agg [.p (.val (.int .u64 n2)), .p (.val (.int .u64 n3))], .one (.p (.val (.bool (decide ((ix l i).Num < (0 : Int)))))), .agg [.p (.val (.int .u64 y6.Hi)), .p (.val (.int .u64 y6.Lo))]], [], [.one (.p (.val (.bool y7))), .agg [.p (.val (.int .u64 y8.Hi)), .p (.val (.int .u64 y8.Lo))]], [], True, fun _ => ok_ref01_total s1 (ref01_Wide.mk n2 n3) (decide ((ix l i).Num < (0 : Int))) y6 (y7, y8) h_6, []⟩]) 22 (⟨119, mkS [(0, .x (.one (.p (.sl 2 (List.map enc_api_Ratio l))))), (2, .x (.one (.ptr 102 0))), (5, .x (.one (.ptr 105 0))), (10, .x (.one (.p (.val (.bool y7))))), (11, .x (.one (.ptr 111 0))), (12, .x (.one (.p (pi i))))], mkH [(102, .var [.p (pi (0 : Int)), .p (pi (0 : Int))]), (105, .var [.p (.val (.int .u64 common)), .p (.val (.int .u64 common1))]), (111, .var [.p (.val (.int .u64 y8.Hi)), .p (.val (.int .u64 y8.Lo))])]⟩) (by kernel_rfl) (by kernel_rfl) ?_
              try simp only [thenL, blockL, ↓reduceIte, reduceCtorEq]
              refine lok_rl E0 (⟨119, mkS [(0, .x (.one (.p (.sl 2 (List.map enc_api_Ratio l))))), (2, .x (.one (.ptr 102 0))), (5, .x (.one (.ptr 105 0))), (10, .x (.one (.p (.val (.bool y7))))), (11, .x (.one (.ptr 111 0))), (12, .x (.one (.p (pi (IntKind.i64.wrap (i + (1 : Int)))))))], mkH [(102, .var [.p (pi (0 : Int)), .p (pi (0 : Int))]), (105, .var [.p (.val (.int .u64 common)), .p (.val (.int .u64 common1))]), (111, .var [.p (.val (.int .u64 y8.Hi)), .p (.val (.int .u64 y8.Lo))])]⟩) ?_
              try simp only [thenL, blockL, ↓reduceIte, reduceCtorEq]
              exact ⟨(y7, (IntKind.i64.wrap (i + (1 : Int))), y8.Hi, y8.Lo), (Option.some.inj H1).symm, imp_au⟩
            · intro b_9
              replace H1 := cneg H1 b_9
              refine lok_exit ?_
              try simp only [thenL, blockL, ↓reduceIte, reduceCtorEq]
              have e_1 := k_1 _ (Option.some.inj H1).symm
              subst e_1
              try dsimp only at H0
              try simp only [thenL, blockL, ↓reduceIte, reduceCtorEq]
              exact ⟨(s1, n2, n3), H0, imp_au⟩
      case hxref01_Sum_j3 =>
        refine lok_rt E0 (⟨119, mkS [(0, .x (.one (.p (.sl 2 (List.map enc_api_Ratio l))))), (2, .x (.one (.ptr 102 0))), (5, .x (.one (.ptr 105 0))), (6, .x (.one (.p (pi (0 : Int)))))], mkH [(102, .var [.p (pi (0 : Int)), .p (pi (0 : Int))]), (105, .var [.p (.val (.int .u64 (0 : Int))), .p (.val (.int .u64 (1 : Int)))])]⟩) ?_
        refine lok_block ?_
        replace H0 := bind_some H0
        obtain ⟨v_10, hv_10, H0⟩ := H0
        refine lok_iter (fun x_ => ⟨119, mkS [(0, .x (.one (.p (.sl 2 (List.map enc_api_Ratio l))))), (2, .x (.one (.ptr 102 0))), (5, .x (.one (.ptr 105 0))), (6, .x (.one (.p (pi x_.1))))], mkH [(102, .var [.p (pi (0 : Int)), .p (pi (0 : Int))]), (105, .var [.p (.val (.int .u64 x_.2.1)), .p (.val (.int .u64 x_.2.2))])]⟩) hv_10 imp_au ?_
        · rintro ⟨i1, common2, common3⟩ o_1 H1 k_1
          unfold ref01_Sum_l4 at H1
          try dsimp only at H1 ⊢
          refine lok_seq ?_
          refine lok_rt E0 (⟨119, mkS [(0, .x (.one (.p (.sl 2 (List.map enc_api_Ratio l))))), (2, .x (.one (.ptr 102 0))), (5, .x (.one (.ptr 105 0))), (6, .x (.one (.p (pi i1)))), (36, .x (.one (.p (.val (.bool (decide (i1 < (l.length : Int))))))))], mkH [(102, .var [.p (pi (0 : Int)), .p (pi (0 : Int))]), (105, .var [.p (.val (.int .u64 common2)), .p (.val (.int .u64 common3))])]⟩) ?_
          refine lok_c (decide (i1 < (l.length : Int))) ?_ ?_
          · intro b_17
            replace H1 := cpos H1 b_17
            refine lok_skip ?_
            try simp only [thenL, blockL, ↓reduceIte, reduceCtorEq]
            refine lok_seq ?_
            refine lok_block ?_
            replace H1 := req_some H1
            obtain ⟨q_16, H1⟩ := H1
            replace H1 := bind_some H1
            obtain ⟨y9, h_11, H1⟩ := H1
            refine lok_rt (Env.of E0 [⟨some 44, 59, [.one (.p (pi ((ix l i1).Den)))], [], [.one (.p (.val (.int .u64 y9)))], [], True, fun _ => ok_ref01_Size ((ix l i1).Den) y9 h_11, []⟩]) (⟨119, mkS [(0, .x (.one (.p (.sl 2 (List.map enc_api_Ratio l))))), (2, .x (.one (.ptr 102 0))), (5, .x (.one (.ptr 105 0))), (6, .x (.one (.p (pi i1)))), (7, .x (.one (.ptr 107 0)))], mkH [(102, .var [.p (pi (0 : Int)), .p (pi (0 : Int))]), (105, .var [.p (.val (.int .u64 common2)), .p (.val (.int .u64 common3))]), (107, .var [.p (.val (.int .u64 (0 : Int))), .p (.val (.int .u64 y9))])]⟩) ?_
            replace H1 := bind_some H1
            obtain ⟨y10, h_12, H1⟩ := H1
            replace H1 := bind_some H1
            obtain ⟨⟨y11, y12⟩, h_13, H1⟩ := H1
            try dsimp only at H1
            refine lok_et (Env.of E0 [⟨some 50, 61, [.agg [.p (.val (.int .u64 common2)), .p (.val (.int .u64 common3))], .agg [.p (.val (.int .u64 (0 : Int))), .p (.val (.int .u64 y9))]], [], [.agg [.p (.val (.int .u64 y10.Hi)), .p (.val (.int .u64 y10.Lo))]], [], True, fun _ => ok_ref01_Divisor (ref01_Wide.mk common2 common3) (ref01_Wide.mk (0 : Int) y9) y10 h_12, []⟩,
      ⟨some 51, 80, [.agg [.p (.val (.int .u64 (0 : Int))), .p (.val (.int .u64 y9))], .agg [.p (.val (.int .u64 y10.Hi)), .p (.val (.int .u64 y10.Lo))]], [], [.agg [.p (.val (.int .u64 y11.Hi)), .p (.val (.int .u64 y11.Lo))], .agg [.p (.val (.int .u64 y12.Hi)), .p (.val (.int .u64 y12.Lo))]], [], True, fun _ => ok_ref01_Divide (ref01_Wide.mk (0 : Int) y9) y10 (y11, y12) h_13, []⟩]) 119 [⟨[(7, .x (.one (.ptr 107 0)))], [(107, some (.var [.p (.val (.int .u64 (0 : Int))), .p (.val (.int .u64 y9))]))], [(47, .x (.agg [.p (.val (.int .u64 (0 : Int))), .p (.val (.int .u64 y9))]))], [], none⟩,
      ⟨[(5, .x (.one (.ptr 105 0)))], [(105, some (.var [.p (.val (.int .u64 common2)), .p (.val (.int .u64 common3))]))], [(48, .x (.agg [.p (.val (.int .u64 common2)), .p (.val (.int .u64 common3))]))], [], none⟩,
      ⟨[(7, .x (.one (.ptr 107 0)))], [(107, some (.var [.p (.val (.int .u64 (0 : Int))), .p (.val (.int .u64 y9))]))], [(49, .x (.agg [.p (.val (.int .u64 (0 : Int))), .p (.val (.int .u64 y9))]))], [], none⟩,
      ⟨[(48, .x (.agg [.p (.val (.int .u64 common2)), .p (.val (.int .u64 common3))])), (49, .x (.agg [.p (.val (.int .u64 (0 : Int))), .p (.val (.int .u64 y9))]))], [], [(50, .x (.agg [.p (.val (.int .u64 y10.Hi)), .p (.val (.int .u64 y10.Lo))]))], [], none⟩,
      ⟨[(47, .x (.agg [.p (.val (.int .u64 (0 : Int))), .p (.val (.int .u64 y9))])), (50, .x (.agg [.p (.val (.int .u64 y10.Hi)), .p (.val (.int .u64 y10.Lo))]))], [], [(51, .tup [.agg [.p (.val (.int .u64 y11.Hi)), .p (.val (.int .u64 y11.Lo))], .agg [.p (.val (.int .u64 y12.Hi)), .p (.val (.int .u64 y12.Lo))]])], [], none⟩,
      ⟨[(51, .tup [.agg [.p (.val (.int .u64 y11.Hi)), .p (.val (.int .u64 y11.Lo))], .agg [.p (.val (.int .u64 y12.Hi)), .p (.val (.int .u64 y12.Lo))]])], [], [(46, .tup [.agg [.p (.val (.int .u64 y11.Hi)), .p (.val (.int .u64 y11.Lo))], .agg [.p (.val (.int .u64 y12.Hi)), .p (.val (.int .u64 y12.Lo))]])], [], none⟩,
      ⟨[(46, .tup [.agg [.p (.val (.int .u64 y11.Hi)), .p (.val (.int .u64 y11.Lo))], .agg [.p (.val (.int .u64 y12.Hi)), .p (.val (.int .u64 y12.Lo))]])], [], [(52, .x (.agg [.p (.val (.int .u64 y11.Hi)), .p (.val (.int .u64 y11.Lo))]))], [], none⟩,
      ⟨[(46, .tup [.agg [.p (.val (.int .u64 y11.Hi)), .p (.val (.int .u64 y11.Lo))], .agg [.p (.val (.int .u64 y12.Hi)), .p (.val (.int .u64 y12.Lo))]])], [], [(53, .x (.agg [.p (.val (.int .u64 y12.Hi)), .p (.val (.int .u64 y12.Lo))]))], [], none⟩,
      ⟨[], [(108, none)], [(8, .x (.one (.ptr 108 0)))], [(108, some (.var [.p (.val (.int .u64 (0 : Int))), .p (.val (.int .u64 (0 : Int)))]))], some 108⟩,
      ⟨[], [(109, none)], [(9, .x (.one (.ptr 109 0)))], [(109, some (.var [.p (.val (.int .u64 (0 : Int))), .p (.val (.int .u64 (0 : Int)))]))], some 109⟩,
      ⟨[(8, .x (.one (.ptr 108 0))), (52, .x (.agg [.p (.val (.int .u64 y11.Hi)), .p (.val (.int .u64 y11.Lo))]))], [(108, some (.var [.p (.val (.int .u64 (0 : Int))), .p (.val (.int .u64 (0 : Int)))]))], [], [(108, some (.var [.p (.val (.int .u64 y11.Hi)), .p (.val (.int .u64 y11.Lo))]))], none⟩] (⟨119, mkS [(0, .x (.one (.p (.sl 2 (List.map enc_api_Ratio l))))), (2, .x (.one (.ptr 102 0))), (5, .x (.one (.ptr 105 0))), (6, .x (.one (.p (pi i1)))), (8, .x (.one (.ptr 108 0)))], mkH [(102, .var [.p (pi (0 : Int)), .p (pi (0 : Int))]), (105, .var [.p (.val (.int .u64 common2)), .p (.val (.int .u64 common3))]), (108, .var [.p (.val (.int .u64 y11.Hi)), .p (.val (.int .u64 y11.Lo))])]⟩) (by kernel_rfl) (by kernel_rfl) (by kernel_rfl) rfl rfl rfl ?_
            replace H1 := bind_some H1
            obtain ⟨y13, h_14, H1⟩ := H1
            refine lok_rt (Env.of E0 [⟨some 58, 72, [.one (.p (.val (.int .u64 common3))), .one (.p (.val (.int .u64 y11.Lo)))], [], [.agg [.p (.val (.int .u64 y13.Hi)), .p (.val (.int .u64 y13.Lo))]], [], True, fun _ => ok_ref01_Product common3 y11.Lo y13 h_14, []⟩]) (⟨119, mkS [(0, .x (.one (.p (.sl 2 (List.map enc_api_Ratio l))))), (2, .x (.one (.ptr 102 0))), (5, .x (.one (.ptr 105 0))), (6, .x (.one (.p (pi i1))))], mkH [(102, .var [.p (pi (0 : Int)), .p (pi (0 : Int))]), (105, .var [.p (.val (.int .u64 y13.Hi)), .p (.val (.int .u64 y13.Lo))])]⟩) ?_
            refine lok_rt E0 (⟨119, mkS [(0, .x (.one (.p (.sl 2 (List.map enc_api_Ratio l))))), (2, .x (.one (.ptr 102 0))), (5, .x (.one (.ptr 105 0))), (6, .x (.one (.p (pi i1)))), (66, .x (.one (.p (.val (.bool ((decide ((0 : Int) < y13.Hi)) || (decide ((1152921504606846976 : Int) < y13.Lo))))))))], mkH [(102, .var [.p (pi (0 : Int)), .p (pi (0 : Int))]), (105, .var [.p (.val (.int .u64 y13.Hi)), .p (.val (.int .u64 y13.Lo))])]⟩) ?_
            refine lok_c ((decide ((0 : Int) < y13.Hi)) || (decide ((1152921504606846976 : Int) < y13.Lo))) ?_ ?_
            · intro b_15
              replace H1 := cpos H1 b_15
              refine lok_rt E0 (⟨119, mkS [(2, .x (.one (.ptr 102 0))), (3, .x (.one (.p (pi (6 : Int)))))], mkH [(102, .var [.p (pi (0 : Int)), .p (pi (0 : Int))])]⟩) ?_
              refine lok_ret ?_
              try simp only [thenL, blockL, ↓reduceIte, reduceCtorEq]
              have e_1 := k_1 _ (Option.some.inj H1).symm
              subst e_1
              try dsimp only at H0
              obtain rfl := Option.some.inj H0
              try simp only [thenL, blockL]
              exact fin_au _ (.inr rfl) [] (⟨119, mkS [(2, .x (.one (.ptr 102 0))), (3, .x (.one (.p (pi (6 : Int)))))], mkH [(102, .var [.p (pi (0 : Int)), .p (pi (0 : Int))])]⟩) rfl rfl imp_au
            · intro b_15
              replace H1 := cneg H1 b_15
              refine lok_skip ?_
              try simp only [thenL, blockL, ↓reduceIte, reduceCtorEq]
              refine lok_rl E0 (⟨119, mkS [(0, .x (.one (.p (.sl 2 (List.map enc_api_Ratio l))))), (2, .x (.one (.ptr 102 0))), (5, .x (.one (.ptr 105 0))), (6, .x (.one (.p (pi (IntKind.i64.wrap (i1 + (1 : Int)))))))], mkH [(102, .var [.p (pi (0 : Int)), .p (pi (0 : Int))]), (105, .var [.p (.val (.int .u64 y13.Hi)), .p (.val (.int .u64 y13.Lo))])]⟩) ?_
              try simp only [thenL, blockL, ↓reduceIte, reduceCtorEq]
              exact ⟨((IntKind.i64.wrap (i1 + (1 : Int))), y13.Hi, y13.Lo), (Option.some.inj H1).symm, imp_au⟩
          · intro b_17
            replace H1 := cneg H1 b_17
            refine lok_exit ?_
            try simp only [thenL, blockL, ↓reduceIte, reduceCtorEq]
            have e_1 := k_1 _ (Option.some.inj H1).symm
            subst e_1
            try dsimp only at H0
            try simp only [thenL, blockL, ↓reduceIte, reduceCtorEq]
            exact ⟨(common2, common3), H0, imp_au⟩
    case hxref01_Sum_j5 =>
      refine lok_rt E0 (⟨119, mkS [(0, .x (.one (.p (.sl 2 (List.map enc_api_Ratio l))))), (2, .x (.one (.ptr 102 0))), (4, .x (.one (.p (pi (0 : Int)))))], mkH [(102, .var [.p (pi (0 : Int)), .p (pi (0 : Int))])]⟩) ?_
      refine lok_block ?_
      replace H0 := bind_some H0
      obtain ⟨v_18, hv_18, H0⟩ := H0
      refine lok_iter (fun x_ => ⟨119, mkS [(0, .x (.one (.p (.sl 2 (List.map enc_api_Ratio l))))), (2, .x (.one (.ptr 102 0))), (4, .x (.one (.p (pi x_))))], mkH [(102, .var [.p (pi (0 : Int)), .p (pi (0 : Int))])]⟩) hv_18 imp_au ?_
      · rintro i2 o_1 H1 k_1
        unfold ref01_Sum_l6 at H1
        try dsimp only at H1 ⊢
        refine lok_seq ?_
        refine lok_rt E0 (⟨119, mkS [(0, .x (.one (.p (.sl 2 (List.map enc_api_Ratio l))))), (2, .x (.one (.ptr 102 0))), (4, .x (.one (.p (pi i2)))), (22, .x (.one (.p (.val (.bool (decide (i2 < (l.length : Int))))))))], mkH [(102, .var [.p (pi (0 : Int)), .p (pi (0 : Int))])]⟩) ?_
        refine lok_c (decide (i2 < (l.length : Int))) ?_ ?_
        · intro b_22
          replace H1 := cpos H1 b_22
          refine lok_skip ?_
          try simp only [thenL, blockL, ↓reduceIte, reduceCtorEq]
          refine lok_seq ?_
          refine lok_block ?_
          replace H1 := req_some H1
          obtain ⟨q_21, H1⟩ := H1
          replace H1 := bind_some H1
          obtain ⟨y14, h_19, H1⟩ := H1
          refine lok_rt (Env.of E0 [⟨some 29, 24, [.agg [.p (pi ((ix l i2).Num)), .p (pi ((ix l i2).Den))]], [], [.one (.p (.val (.bool y14)))], [], True, fun _ => ok_ref01_Valid (ix l i2) y14 h_19, []⟩]) (⟨119, mkS [(0, .x (.one (.p (.sl 2 (List.map enc_api_Ratio l))))), (2, .x (.one (.ptr 102 0))), (4, .x (.one (.p (pi i2)))), (30, .x (.one (.p (.val (.bool (!y14))))))], mkH [(102, .var [.p (pi (0 : Int)), .p (pi (0 : Int))])]⟩) ?_
          refine lok_c (!y14) ?_ ?_
          · intro b_20
            replace H1 := cpos H1 b_20
            refine lok_rt E0 (⟨119, mkS [(2, .x (.one (.ptr 102 0))), (3, .x (.one (.p (pi (1 : Int)))))], mkH [(102, .var [.p (pi (0 : Int)), .p (pi (0 : Int))])]⟩) ?_
            refine lok_ret ?_
            try simp only [thenL, blockL, ↓reduceIte, reduceCtorEq]
            have e_1 := k_1 _ (Option.some.inj H1).symm
            subst e_1
            try dsimp only at H0
            obtain rfl := Option.some.inj H0
            try simp only [thenL, blockL]
            exact fin_au _ (.inr rfl) [] (⟨119, mkS [(2, .x (.one (.ptr 102 0))), (3, .x (.one (.p (pi (1 : Int)))))], mkH [(102, .var [.p (pi (0 : Int)), .p (pi (0 : Int))])]⟩) rfl rfl imp_au
          · intro b_20
            replace H1 := cneg H1 b_20
            refine lok_skip ?_
            try simp only [thenL, blockL, ↓reduceIte, reduceCtorEq]
            refine lok_rl E0 (⟨119, mkS [(0, .x (.one (.p (.sl 2 (List.map enc_api_Ratio l))))), (2, .x (.one (.ptr 102 0))), (4, .x (.one (.p (pi (IntKind.i64.wrap (i2 + (1 : Int)))))))], mkH [(102, .var [.p (pi (0 : Int)), .p (pi (0 : Int))])]⟩) ?_
            try simp only [thenL, blockL, ↓reduceIte, reduceCtorEq]
            exact ⟨(IntKind.i64.wrap (i2 + (1 : Int))), (Option.some.inj H1).symm, imp_au⟩
        · intro b_22
          replace H1 := cneg H1 b_22
          refine lok_exit ?_
          try simp only [thenL, blockL, ↓reduceIte, reduceCtorEq]
          have e_1 := k_1 _ (Option.some.inj H1).symm
          subst e_1
          try dsimp only at H0
          try simp only [thenL, blockL, ↓reduceIte, reduceCtorEq]
          exact ⟨(), H0, imp_au⟩
theorem ok_law01_RatioSums (t : List Int) (r_ : Bool) (H0 : law01_RatioSums t = some r_) : CallOK Try.prog 11 [.one (.p (.sl 1 (List.map encI t)))] [] [.one (.p (.val (.bool r_)))] [] := by
  refine callOK (n := 32) (rs := [.tmp 2]) (nb := 0) (V := []) Try.func11 rfl (by kernel_rfl) rfl rfl rfl rfl (Nat.le_of_ble_eq_true rfl) (by decide) ?_
  unfold law01_RatioSums at H0
  refine lok_rt E0 (⟨32, mkS [(0, .x (.one (.p (.sl 1 (List.map encI t)))))], mkH []⟩) ?_
  replace H0 := bind_some H0
  obtain ⟨y, h_0, H0⟩ := H0
  replace H0 := bind_some H0
  obtain ⟨⟨y1, y2⟩, h_1, H0⟩ := H0
  try dsimp only at H0
  refine lok_rt (Env.of E0 [⟨some 9, 18, [.one (.p (.sl 1 (List.map encI t)))], [], [.one (.ptr 0 0)], [some (.var [.p (.sl 1 (List.map encI y.L)), .p (pi y.At)])], True, fun _ => ok_make_New t y h_0, []⟩,
      ⟨some 10, 46, [.one (.ptr 0 0), .one (.p (.val (.bool true)))], [.var [.p (.sl 1 (List.map encI y.L)), .p (pi y.At)]], [.one (.p (.sl 2 (List.map enc_api_Ratio y1)))], [some (.var [.p (.sl 1 (List.map encI y2.L)), .p (pi y2.At)])], True, fun _ => ok_law01_list y true (y1, y2) h_1, []⟩]) (⟨32, mkS [(3, .x (.one (.p (.sl 2 (List.map enc_api_Ratio y1)))))], mkH []⟩) ?_
  replace H0 := bind_some H0
  obtain ⟨⟨y3, y4⟩, h_2, H0⟩ := H0
  try dsimp only at H0
  refine lok_rt (Env.of E0 [⟨some 13, 47, [.one (.p (.sl 2 (List.map enc_api_Ratio y1)))], [], [.agg [.p (pi y3.Num), .p (pi y3.Den)], .one (.p (pi y4))], [], True, fun _ => ok_ratio_Sum y1 (y3, y4) h_2, []⟩]) (⟨32, mkS [(3, .x (.one (.p (.sl 2 (List.map enc_api_Ratio y1))))), (4, .x (.one (.ptr 104 0))), (5, .x (.one (.p (pi y4))))], mkH [(104, .var [.p (pi y3.Num), .p (pi y3.Den)])]⟩) ?_
  replace H0 := bind_some H0
  obtain ⟨⟨y5, y6⟩, h_3, H0⟩ := H0
  try dsimp only at H0
  refine lok_rt (Env.of E0 [⟨some 18, 48, [.one (.p (.sl 2 (List.map enc_api_Ratio y1)))], [], [.agg [.p (pi y5.Num), .p (pi y5.Den)], .one (.p (pi y6))], [], True, fun _ => ok_ref01_Sum y1 (y5, y6) h_3, []⟩]) (⟨32, mkS [(4, .x (.one (.ptr 104 0))), (5, .x (.one (.p (pi y4)))), (6, .x (.one (.ptr 106 0))), (7, .x (.one (.p (pi y6))))], mkH [(104, .var [.p (pi y3.Num), .p (pi y3.Den)]), (106, .var [.p (pi y5.Num), .p (pi y5.Den)])]⟩) ?_
  replace H0 := req_some H0
  obtain ⟨q_4, H0⟩ := H0
  refine lok_rt (Env.of E0 [⟨some 30, 17, [], [], [.one (.p (.val (.bool ((law01_awake).getD default))))], [], (law01_awake).isSome = true, fun h => ok_law01_awake _ (isSome_get h), []⟩]) (⟨32, mkS [(2, .x (.one (.p (.val (.bool ((((y3.Num == y5.Num) && (y3.Den == y5.Den)) && (y4 == y6)) && ((law01_awake).getD default)))))))], mkH []⟩) ?_
  refine lok_ret ?_
  obtain rfl := Option.some.inj H0
  try simp only [thenL, blockL]
  exact fin_au _ (.inr rfl) [] (⟨32, mkS [(2, .x (.one (.p (.val (.bool ((((y3.Num == y5.Num) && (y3.Den == y5.Den)) && (y4 == y6)) && ((law01_awake).getD default)))))))], mkH []⟩) rfl rfl imp_au
theorem ok_make_Tape_Order (t : make_Tape) (n : Int) (r_ : (List Int) × make_Tape) (H0 : make_Tape_Order t n = some r_) : CallOK Try.prog 49 [.one (.ptr 0 0), .one (.p (pi n))] [.var [.p (.sl 1 (List.map encI t.L)), .p (pi t.At)]] [.one (.p (.sl 1 (List.map encI r_.1)))] [some (.var [.p (.sl 1 (List.map encI r_.2.L)), .p (pi r_.2.At)])] := by
  refine callOK (n := 33) (rs := [.tmp 4]) (nb := 1) (V := [0]) Try.func49 rfl (by kernel_rfl) rfl rfl rfl rfl (Nat.le_of_ble_eq_true rfl) (by decide) ?_
  unfold make_Tape_Order at H0
  refine lok_rt E0 (⟨33, mkS [(0, .x (.one (.ptr 0 0))), (1, .x (.one (.p (pi n))))], mkH [(0, .var [.p (.sl 1 (List.map encI t.L)), .p (pi t.At)])]⟩) ?_
  refine lok_rt E0 (⟨33, mkS [(0, .x (.one (.ptr 0 0))), (1, .x (.one (.p (pi n)))), (5, .x (.one (.vw 105)))], mkH [(0, .var [.p (.sl 1 (List.map encI t.L)), .p (pi t.At)]), (105, .arr 1 (List.map encI ([] : List Int)))]⟩) ?_
  refine lok_join (fun x_ : (List Int) × (List Int) × Int => make_Tape_Order_j1 x_.1 x_.2.1 x_.2.2 = some r_) (fun x_ => ⟨33, mkS [(5, .x (.one (.p (.sl 1 (List.map encI x_.1)))))], mkH [(0, .var [.p (.sl 1 (List.map encI x_.2.1)), .p (pi x_.2.2)])]⟩) ?hymake_Tape_Order_j1 ?hxmake_Tape_Order_j1
  case hymake_Tape_Order_j1 =>
    rintro ⟨out, t1, t2⟩ H0
    try dsimp only at H0 ⊢
    unfold make_Tape_Order_j1 at H0
    refine lok_rt E0 (⟨33, mkS [(4, .x (.one (.p (.sl 1 (List.map encI out)))))], mkH [(0, .var [.p (.sl 1 (List.map encI t1)), .p (pi t2)])]⟩) ?_
    refine lok_ret ?_
    obtain rfl := Option.some.inj H0
    try simp only [thenL, blockL]
    exact fin_au _ (.inr rfl) [0] (⟨33, mkS [(4, .x (.one (.p (.sl 1 (List.map encI out)))))], mkH [(0, .var [.p (.sl 1 (List.map encI t1)), .p (pi t2)])]⟩) rfl rfl imp_au
  case hxmake_Tape_Order_j1 =>
    refine lok_rt E0 (⟨33, mkS [(0, .x (.one (.ptr 0 0))), (1, .x (.one (.p (pi n)))), (5, .x (.one (.vw 105))), (6, .x (.one (.p (pi (0 : Int)))))], mkH [(0, .var [.p (.sl 1 (List.map encI t.L)), .p (pi t.At)]), (105, .arr 1 (List.map encI ([] : List Int)))]⟩) ?_
    refine lok_block ?_
    replace H0 := bind_some H0
    obtain ⟨v_0, hv_0, H0⟩ := H0
    refine lok_iter (fun x_ => ⟨33, mkS [(0, .x (.one (.ptr 0 0))), (1, .x (.one (.p (pi n)))), (5, .x (.one (.p (.sl 1 (List.map encI x_.1))))), (6, .x (.one (.p (pi x_.2.1))))], mkH [(0, .var [.p (.sl 1 (List.map encI x_.2.2.1)), .p (pi x_.2.2.2)])]⟩) hv_0 (Imp.trans (imp_frz 105 1 (List.map encI ([] : List Int))) imp_au) ?_
    · rintro ⟨out1, i, t3, t4⟩ o_1 H1 k_1
      unfold make_Tape_Order_l2 at H1
      try dsimp only at H1 ⊢
      refine lok_seq ?_
      refine lok_rt E0 (⟨33, mkS [(0, .x (.one (.ptr 0 0))), (1, .x (.one (.p (pi n)))), (5, .x (.one (.p (.sl 1 (List.map encI out1))))), (6, .x (.one (.p (pi i)))), (11, .x (.one (.p (.val (.bool (decide (i < n)))))))], mkH [(0, .var [.p (.sl 1 (List.map encI t3)), .p (pi t4)])]⟩) ?_
      refine lok_c (decide (i < n)) ?_ ?_
      · intro b_8
        replace H1 := cpos H1 b_8
        refine lok_skip ?_
        try simp only [thenL, blockL, ↓reduceIte, reduceCtorEq]
        refine lok_seq ?_
        refine lok_block ?_
        replace H1 := bind_some H1
        obtain ⟨⟨y, y1⟩, h_1, H1⟩ := H1
        try dsimp only at H1
        refine lok_rt (Env.of E0 [⟨some 17, 79, [.one (.ptr 0 0), .one (.p (pi (IntKind.i64.wrap (i + (1 : Int)))))], [.var [.p (.sl 1 (List.map encI t3)), .p (pi t4)]], [.one (.p (pi y))], [some (.var [.p (.sl 1 (List.map encI y1.L)), .p (pi y1.At)])], True, fun _ => ok_make_Tape_Next (make_Tape.mk t3 t4) (IntKind.i64.wrap (i + (1 : Int))) (y, y1) h_1, []⟩]) (⟨33, mkS [(0, .x (.one (.ptr 0 0))), (1, .x (.one (.p (pi n)))), (5, .x (.one (.p (.sl 1 (List.map encI out1))))), (6, .x (.one (.p (pi i)))), (7, .x (.one (.p (pi y))))], mkH [(0, .var [.p (.sl 1 (List.map encI y1.L)), .p (pi y1.At)])]⟩) ?_
        refine lok_rt E0 (⟨33, mkS [(0, .x (.one (.ptr 0 0))), (1, .x (.one (.p (pi n)))), (5, .x (.one (.p (.sl 1 (List.map encI out1))))), (6, .x (.one (.p (pi i)))), (7, .x (.one (.p (pi y)))), (8, .x (.one (.vw 108)))], mkH [(0, .var [.p (.sl 1 (List.map encI y1.L)), .p (pi y1.At)]), (108, .arr 1 (List.map encI ([] : List Int)))]⟩) ?_
        replace H1 := req_some H1
        obtain ⟨⟨q_6, q_7⟩, H1⟩ := H1
        refine lok_rt E0 (⟨33, mkS [(0, .x (.one (.ptr 0 0))), (1, .x (.one (.p (pi n)))), (5, .x (.one (.p (.sl 1 (List.map encI out1))))), (6, .x (.one (.p (pi i)))), (7, .x (.one (.p (pi y)))), (8, .x (.one (.vw 108)))], mkH [(0, .var [.p (.sl 1 (List.map encI y1.L)), .p (pi y1.At)]), (108, .arr 1 (List.map encI (([] : List Int) ++ (List.take y.toNat out1))))]⟩) ?_
        replace H1 := req_some H1
        obtain ⟨q_5, H1⟩ := H1
        refine lok_rt E0 (⟨33, mkS [(0, .x (.one (.ptr 0 0))), (1, .x (.one (.p (pi n)))), (5, .x (.one (.p (.sl 1 (List.map encI out1))))), (6, .x (.one (.p (pi i)))), (7, .x (.one (.p (pi y)))), (8, .x (.one (.vw 108)))], mkH [(0, .var [.p (.sl 1 (List.map encI y1.L)), .p (pi y1.At)]), (108, .arr 1 (List.map encI ((([] : List Int) ++ (List.take y.toNat out1)) ++ [i])))]⟩) ?_
        replace H1 := req_some H1
        obtain ⟨⟨q_3, q_4⟩, H1⟩ := H1
        replace H1 := bindV_some H1
        obtain ⟨next, a_2, H1⟩ := H1
        refine lok_rlg E0 a_2 (⟨33, mkS [(0, .x (.one (.ptr 0 0))), (1, .x (.one (.p (pi n)))), (5, .x (.one (.vw 108))), (6, .x (.one (.p (pi i))))], mkH [(0, .var [.p (.sl 1 (List.map encI y1.L)), .p (pi y1.At)]), (108, .arr 1 (List.map encI next))]⟩) ?_
        try simp only [thenL, blockL, ↓reduceIte, reduceCtorEq]
        refine lok_rl E0 (⟨33, mkS [(0, .x (.one (.ptr 0 0))), (1, .x (.one (.p (pi n)))), (5, .x (.one (.vw 108))), (6, .x (.one (.p (pi (IntKind.i64.wrap (i + (1 : Int)))))))], mkH [(0, .var [.p (.sl 1 (List.map encI y1.L)), .p (pi y1.At)]), (108, .arr 1 (List.map encI next))]⟩) ?_
        try simp only [thenL, blockL, ↓reduceIte, reduceCtorEq]
        exact ⟨(next, (IntKind.i64.wrap (i + (1 : Int))), y1.L, y1.At), (Option.some.inj H1).symm, (Imp.trans (imp_frz 108 1 (List.map encI next)) imp_au)⟩
      · intro b_8
        replace H1 := cneg H1 b_8
        refine lok_exit ?_
        try simp only [thenL, blockL, ↓reduceIte, reduceCtorEq]
        have e_1 := k_1 _ (Option.some.inj H1).symm
        subst e_1
        try dsimp only at H0
        try simp only [thenL, blockL, ↓reduceIte, reduceCtorEq]
        exact ⟨(out1, t3, t4), H0, imp_au⟩
theorem ok_law01_RatioSumsAnyOrder (t : List Int) (r_ : Bool) (H0 : law01_RatioSumsAnyOrder t = some r_) : CallOK Try.prog 12 [.one (.p (.sl 1 (List.map encI t)))] [] [.one (.p (.val (.bool r_)))] [] := by
  refine callOK (n := 57) (rs := [.tmp 2]) (nb := 0) (V := []) Try.func12 rfl (by kernel_rfl) rfl rfl rfl rfl (Nat.le_of_ble_eq_true rfl) (by decide) ?_
  unfold law01_RatioSumsAnyOrder at H0
  refine lok_rt E0 (⟨57, mkS [(0, .x (.one (.p (.sl 1 (List.map encI t)))))], mkH []⟩) ?_
  replace H0 := bind_some H0
  obtain ⟨y, h_0, H0⟩ := H0
  refine lok_rt (Env.of E0 [⟨some 13, 18, [.one (.p (.sl 1 (List.map encI t)))], [], [.one (.ptr 0 0)], [some (.var [.p (.sl 1 (List.map encI y.L)), .p (pi y.At)])], True, fun _ => ok_make_New t y h_0, []⟩]) (⟨57, mkS [(3, .x (.one (.ptr 1013 0)))], mkH [(1013, .var [.p (.sl 1 (List.map encI y.L)), .p (pi y.At)])]⟩) ?_
  replace H0 := bind_some H0
  obtain ⟨⟨y1, y2⟩, h_1, H0⟩ := H0
  try dsimp only at H0
  refine lok_rt (Env.of E0 [⟨some 15, 46, [.one (.ptr 0 0), .one (.p (.val (.bool true)))], [.var [.p (.sl 1 (List.map encI y.L)), .p (pi y.At)]], [.one (.p (.sl 2 (List.map enc_api_Ratio y1)))], [some (.var [.p (.sl 1 (List.map encI y2.L)), .p (pi y2.At)])], True, fun _ => ok_law01_list y true (y1, y2) h_1, []⟩]) (⟨57, mkS [(3, .x (.one (.ptr 1013 0))), (4, .x (.one (.p (.sl 2 (List.map enc_api_Ratio y1)))))], mkH [(1013, .var [.p (.sl 1 (List.map encI y2.L)), .p (pi y2.At)])]⟩) ?_
  replace H0 := bind_some H0
  obtain ⟨⟨y3, y4⟩, h_2, H0⟩ := H0
  try dsimp only at H0
  refine lok_rt (Env.of E0 [⟨some 19, 49, [.one (.ptr 0 0), .one (.p (pi (y1.length : Int)))], [.var [.p (.sl 1 (List.map encI y2.L)), .p (pi y2.At)]], [.one (.p (.sl 1 (List.map encI y3)))], [some (.var [.p (.sl 1 (List.map encI y4.L)), .p (pi y4.At)])], True, fun _ => ok_make_Tape_Order y2 (y1.length : Int) (y3, y4) h_2, []⟩]) (⟨57, mkS [(4, .x (.one (.p (.sl 2 (List.map enc_api_Ratio y1))))), (5, .x (.one (.p (.sl 1 (List.map encI y3)))))], mkH []⟩) ?_
  refine lok_rt E0 (⟨57, mkS [(4, .x (.one (.p (.sl 2 (List.map enc_api_Ratio y1))))), (5, .x (.one (.p (.sl 1 (List.map encI y3))))), (6, .x (.one (.vw 106)))], mkH [(106, .arr 2 (List.map enc_api_Ratio ([] : List api_Ratio)))]⟩) ?_
  refine lok_join (fun x_ : (List api_Ratio) => law01_RatioSumsAnyOrder_j1 y1 x_ = some r_) (fun x_ => ⟨57, mkS [(4, .x (.one (.p (.sl 2 (List.map enc_api_Ratio y1))))), (6, .x (.one (.vw 106)))], mkH [(106, .arr 2 (List.map enc_api_Ratio x_))]⟩) ?hylaw01_RatioSumsAnyOrder_j1 ?hxlaw01_RatioSumsAnyOrder_j1
  case hylaw01_RatioSumsAnyOrder_j1 =>
    rintro m H0
    try dsimp only at H0 ⊢
    unfold law01_RatioSumsAnyOrder_j1 at H0
    replace H0 := bind_some H0
    obtain ⟨⟨y5, y6⟩, h_3, H0⟩ := H0
    try dsimp only at H0
    refine lok_rt (Env.of E0 [⟨some 38, 47, [.one (.p (.sl 2 (List.map enc_api_Ratio y1)))], [], [.agg [.p (pi y5.Num), .p (pi y5.Den)], .one (.p (pi y6))], [], True, fun _ => ok_ratio_Sum y1 (y5, y6) h_3, []⟩]) (⟨57, mkS [(6, .x (.one (.vw 106))), (8, .x (.one (.ptr 108 0))), (9, .x (.one (.p (pi y6))))], mkH [(106, .arr 2 (List.map enc_api_Ratio m)), (108, .var [.p (pi y5.Num), .p (pi y5.Den)])]⟩) ?_
    replace H0 := bind_some H0
    obtain ⟨⟨y7, y8⟩, h_4, H0⟩ := H0
    try dsimp only at H0
    refine lok_rt (Env.of E0 [⟨some 43, 47, [.one (.p (.sl 2 (List.map enc_api_Ratio m)))], [], [.agg [.p (pi y7.Num), .p (pi y7.Den)], .one (.p (pi y8))], [], True, fun _ => ok_ratio_Sum m (y7, y8) h_4, []⟩]) (⟨57, mkS [(8, .x (.one (.ptr 108 0))), (9, .x (.one (.p (pi y6)))), (10, .x (.one (.ptr 110 0))), (11, .x (.one (.p (pi y8))))], mkH [(108, .var [.p (pi y5.Num), .p (pi y5.Den)]), (110, .var [.p (pi y7.Num), .p (pi y7.Den)])]⟩) ?_
    replace H0 := req_some H0
    obtain ⟨q_5, H0⟩ := H0
    refine lok_rt (Env.of E0 [⟨some 55, 17, [], [], [.one (.p (.val (.bool ((law01_awake).getD default))))], [], (law01_awake).isSome = true, fun h => ok_law01_awake _ (isSome_get h), []⟩]) (⟨57, mkS [(2, .x (.one (.p (.val (.bool ((((y5.Num == y7.Num) && (y5.Den == y7.Den)) && (y6 == y8)) && ((law01_awake).getD default)))))))], mkH []⟩) ?_
    refine lok_ret ?_
    obtain rfl := Option.some.inj H0
    try simp only [thenL, blockL]
    exact fin_au _ (.inr rfl) [] (⟨57, mkS [(2, .x (.one (.p (.val (.bool ((((y5.Num == y7.Num) && (y5.Den == y7.Den)) && (y6 == y8)) && ((law01_awake).getD default)))))))], mkH []⟩) rfl rfl imp_au
  case hxlaw01_RatioSumsAnyOrder_j1 =>
    refine lok_rt E0 (⟨57, mkS [(4, .x (.one (.p (.sl 2 (List.map enc_api_Ratio y1))))), (5, .x (.one (.p (.sl 1 (List.map encI y3))))), (6, .x (.one (.vw 106))), (7, .x (.one (.p (pi (0 : Int)))))], mkH [(106, .arr 2 (List.map enc_api_Ratio ([] : List api_Ratio)))]⟩) ?_
    refine lok_block ?_
    replace H0 := bind_some H0
    obtain ⟨v_6, hv_6, H0⟩ := H0
    refine lok_iter (fun x_ => ⟨57, mkS [(4, .x (.one (.p (.sl 2 (List.map enc_api_Ratio y1))))), (5, .x (.one (.p (.sl 1 (List.map encI y3))))), (6, .x (.one (.vw 106))), (7, .x (.one (.p (pi x_.1))))], mkH [(106, .arr 2 (List.map enc_api_Ratio x_.2))]⟩) hv_6 imp_au ?_
    · rintro ⟨i, m1⟩ o_1 H1 k_1
      unfold law01_RatioSumsAnyOrder_l2 at H1
      try dsimp only at H1 ⊢
      refine lok_seq ?_
      refine lok_rt E0 (⟨57, mkS [(4, .x (.one (.p (.sl 2 (List.map enc_api_Ratio y1))))), (5, .x (.one (.p (.sl 1 (List.map encI y3))))), (6, .x (.one (.vw 106))), (7, .x (.one (.p (pi i)))), (23, .x (.one (.p (.val (.bool (decide (i < (y3.length : Int))))))))], mkH [(106, .arr 2 (List.map enc_api_Ratio m1))]⟩) ?_
      refine lok_c (decide (i < (y3.length : Int))) ?_ ?_
      · intro b_10
        replace H1 := cpos H1 b_10
        refine lok_skip ?_
        try simp only [thenL, blockL, ↓reduceIte, reduceCtorEq]
        refine lok_seq ?_
        refine lok_block ?_
        replace H1 := req_some H1
        obtain ⟨⟨q_7, q_8, q_9⟩, H1⟩ := H1
        refine lok_rl E0 (⟨57, mkS [(4, .x (.one (.p (.sl 2 (List.map enc_api_Ratio y1))))), (5, .x (.one (.p (.sl 1 (List.map encI y3))))), (6, .x (.one (.vw 106))), (7, .x (.one (.p (pi i))))], mkH [(106, .arr 2 (List.map enc_api_Ratio (m1 ++ [(ix y1 (ix y3 i))])))]⟩) ?_
        try simp only [thenL, blockL, ↓reduceIte, reduceCtorEq]
        refine lok_rl E0 (⟨57, mkS [(4, .x (.one (.p (.sl 2 (List.map enc_api_Ratio y1))))), (5, .x (.one (.p (.sl 1 (List.map encI y3))))), (6, .x (.one (.vw 106))), (7, .x (.one (.p (pi (IntKind.i64.wrap (i + (1 : Int)))))))], mkH [(106, .arr 2 (List.map enc_api_Ratio (m1 ++ [(ix y1 (ix y3 i))])))]⟩) ?_
        try simp only [thenL, blockL, ↓reduceIte, reduceCtorEq]
        exact ⟨((IntKind.i64.wrap (i + (1 : Int))), (m1 ++ [(ix y1 (ix y3 i))])), (Option.some.inj H1).symm, imp_au⟩
      · intro b_10
        replace H1 := cneg H1 b_10
        refine lok_exit ?_
        try simp only [thenL, blockL, ↓reduceIte, reduceCtorEq]
        have e_1 := k_1 _ (Option.some.inj H1).symm
        subst e_1
        try dsimp only at H0
        try simp only [thenL, blockL, ↓reduceIte, reduceCtorEq]
        exact ⟨m1, H0, imp_au⟩
theorem ok_law01_RatioOrders (t : List Int) (r_ : Bool) (H0 : law01_RatioOrders t = some r_) : CallOK Try.prog 13 [.one (.p (.sl 1 (List.map encI t)))] [] [.one (.p (.val (.bool r_)))] [] := by
  refine callOK (n := 83) (rs := [.tmp 2]) (nb := 0) (V := []) Try.func13 rfl (by kernel_rfl) rfl rfl rfl rfl (Nat.le_of_ble_eq_true rfl) (by decide) ?_
  unfold law01_RatioOrders at H0
  refine lok_rt E0 (⟨83, mkS [(0, .x (.one (.p (.sl 1 (List.map encI t)))))], mkH []⟩) ?_
  replace H0 := bind_some H0
  obtain ⟨y, h_0, H0⟩ := H0
  refine lok_rt (Env.of E0 [⟨some 12, 18, [.one (.p (.sl 1 (List.map encI t)))], [], [.one (.ptr 0 0)], [some (.var [.p (.sl 1 (List.map encI y.L)), .p (pi y.At)])], True, fun _ => ok_make_New t y h_0, []⟩]) (⟨83, mkS [(3, .x (.one (.ptr 1012 0)))], mkH [(1012, .var [.p (.sl 1 (List.map encI y.L)), .p (pi y.At)])]⟩) ?_
  replace H0 := bind_some H0
  obtain ⟨⟨y1, y2⟩, h_1, H0⟩ := H0
  try dsimp only at H0
  replace H0 := bind_some H0
  obtain ⟨⟨y3, y4⟩, h_2, H0⟩ := H0
  try dsimp only at H0
  replace H0 := bind_some H0
  obtain ⟨⟨y5, y6⟩, h_3, H0⟩ := H0
  try dsimp only at H0
  refine lok_rt (Env.of E0 [⟨some 14, 50, [.one (.ptr 0 0)], [.var [.p (.sl 1 (List.map encI y.L)), .p (pi y.At)]], [.agg [.p (pi y1.Num), .p (pi y1.Den)]], [some (.var [.p (.sl 1 (List.map encI y2.L)), .p (pi y2.At)])], True, fun _ => ok_make_Tape_Ratio y (y1, y2) h_1, []⟩,
      ⟨some 16, 50, [.one (.ptr 0 0)], [.var [.p (.sl 1 (List.map encI y2.L)), .p (pi y2.At)]], [.agg [.p (pi y3.Num), .p (pi y3.Den)]], [some (.var [.p (.sl 1 (List.map encI y4.L)), .p (pi y4.At)])], True, fun _ => ok_make_Tape_Ratio y2 (y3, y4) h_2, []⟩,
      ⟨some 18, 51, [.one (.ptr 0 0)], [.var [.p (.sl 1 (List.map encI y4.L)), .p (pi y4.At)]], [.agg [.p (pi y5.Num), .p (pi y5.Den)]], [some (.var [.p (.sl 1 (List.map encI y6.L)), .p (pi y6.At)])], True, fun _ => ok_make_Tape_Small y4 (y5, y6) h_3, []⟩]) (⟨83, mkS [(4, .x (.one (.ptr 104 0))), (5, .x (.one (.ptr 105 0))), (6, .x (.one (.ptr 106 0)))], mkH [(104, .var [.p (pi y1.Num), .p (pi y1.Den)]), (105, .var [.p (pi y3.Num), .p (pi y3.Den)]), (106, .var [.p (pi y5.Num), .p (pi y5.Den)])]⟩) ?_
  refine lok_seq ?_
  replace H0 := bind_some H0
  obtain ⟨y7, h_4, H0⟩ := H0
  replace H0 := bind_some H0
  obtain ⟨y8, h_5, H0⟩ := H0
  replace H0 := req_some H0
  obtain ⟨q_16, H0⟩ := H0
  refine lok_dt (Env.of E0 [⟨some 21, 38, [.agg [.p (pi y1.Num), .p (pi y1.Den)], .agg [.p (pi y3.Num), .p (pi y3.Den)]], [], [.one (.p (pi y7))], [], True, fun _ => ok_ratio_Compare y1 y3 y7 h_4, []⟩,
      ⟨some 24, 38, [.agg [.p (pi y3.Num), .p (pi y3.Den)], .agg [.p (pi y1.Num), .p (pi y1.Den)]], [], [.one (.p (pi y8))], [], True, fun _ => ok_ratio_Compare y3 y1 y8 h_5, []⟩,
      ⟨some 30, 38, [.agg [.p (pi y1.Num), .p (pi y1.Den)], .agg [.p (pi y3.Num), .p (pi y3.Den)]], [], [.one (.p (pi ((ratio_Compare y1 y3).getD default)))], [], (ratio_Compare y1 y3).isSome = true, fun h => ok_ratio_Compare y1 y3 _ (isSome_get h), []⟩]) 16 (⟨83, mkS [(4, .x (.one (.ptr 104 0))), (5, .x (.one (.ptr 105 0))), (6, .x (.one (.ptr 106 0))), (36, .x (.one (.p (.val (.bool ((y7 != (IntKind.i64.wrap (0 - y8))) || (!((((ratio_Compare y1 y3).getD default) == (0 : Int)) == ((y1.Num == y3.Num) && (y1.Den == y3.Den))))))))))], mkH [(104, .var [.p (pi y1.Num), .p (pi y1.Den)]), (105, .var [.p (pi y3.Num), .p (pi y3.Den)]), (106, .var [.p (pi y5.Num), .p (pi y5.Den)])]⟩) (by kernel_rfl) (by kernel_rfl) ?_
  refine lok_c ((y7 != (IntKind.i64.wrap (0 - y8))) || (!((((ratio_Compare y1 y3).getD default) == (0 : Int)) == ((y1.Num == y3.Num) && (y1.Den == y3.Den))))) ?_ ?_
  · intro b_15
    replace H0 := cpos H0 b_15
    refine lok_rt E0 (⟨83, mkS [(2, .x (.one (.p (.val (.bool false)))))], mkH []⟩) ?_
    refine lok_ret ?_
    obtain rfl := Option.some.inj H0
    try simp only [thenL, blockL]
    exact fin_au _ (.inr rfl) [] (⟨83, mkS [(2, .x (.one (.p (.val (.bool false)))))], mkH []⟩) rfl rfl imp_au
  · intro b_15
    replace H0 := cneg H0 b_15
    refine lok_skip ?_
    try simp only [thenL, blockL, ↓reduceIte, reduceCtorEq]
    refine lok_seq ?_
    replace H0 := bind_some H0
    obtain ⟨y9, h_6, H0⟩ := H0
    replace H0 := req_some H0
    obtain ⟨⟨q_13, q_14⟩, H0⟩ := H0
    refine lok_rt (Env.of E0 [⟨some 39, 38, [.agg [.p (pi y1.Num), .p (pi y1.Den)], .agg [.p (pi y3.Num), .p (pi y3.Den)]], [], [.one (.p (pi y9))], [], True, fun _ => ok_ratio_Compare y1 y3 y9 h_6, []⟩,
      ⟨some 44, 38, [.agg [.p (pi y3.Num), .p (pi y3.Den)], .agg [.p (pi y5.Num), .p (pi y5.Den)]], [], [.one (.p (pi ((ratio_Compare y3 y5).getD default)))], [], (ratio_Compare y3 y5).isSome = true, fun h => ok_ratio_Compare y3 y5 _ (isSome_get h), []⟩,
      ⟨some 50, 38, [.agg [.p (pi y1.Num), .p (pi y1.Den)], .agg [.p (pi y5.Num), .p (pi y5.Den)]], [], [.one (.p (pi ((ratio_Compare y1 y5).getD default)))], [], (ratio_Compare y1 y5).isSome = true, fun h => ok_ratio_Compare y1 y5 _ (isSome_get h), []⟩]) (⟨83, mkS [(4, .x (.one (.ptr 104 0))), (5, .x (.one (.ptr 105 0))), (6, .x (.one (.ptr 106 0))), (52, .x (.one (.p (.val (.bool (((decide (y9 ≤ (0 : Int))) && (decide (((ratio_Compare y3 y5).getD default) ≤ (0 : Int)))) && (decide ((0 : Int) < ((ratio_Compare y1 y5).getD default)))))))))], mkH [(104, .var [.p (pi y1.Num), .p (pi y1.Den)]), (105, .var [.p (pi y3.Num), .p (pi y3.Den)]), (106, .var [.p (pi y5.Num), .p (pi y5.Den)])]⟩) ?_
    refine lok_c (((decide (y9 ≤ (0 : Int))) && (decide (((ratio_Compare y3 y5).getD default) ≤ (0 : Int)))) && (decide ((0 : Int) < ((ratio_Compare y1 y5).getD default)))) ?_ ?_
    · intro b_12
      replace H0 := cpos H0 b_12
      refine lok_rt E0 (⟨83, mkS [(2, .x (.one (.p (.val (.bool false)))))], mkH []⟩) ?_
      refine lok_ret ?_
      obtain rfl := Option.some.inj H0
      try simp only [thenL, blockL]
      exact fin_au _ (.inr rfl) [] (⟨83, mkS [(2, .x (.one (.p (.val (.bool false)))))], mkH []⟩) rfl rfl imp_au
    · intro b_12
      replace H0 := cneg H0 b_12
      refine lok_skip ?_
      try simp only [thenL, blockL, ↓reduceIte, reduceCtorEq]
      replace H0 := bind_some H0
      obtain ⟨⟨y10, y11⟩, h_7, H0⟩ := H0
      try dsimp only at H0
      refine lok_rt (Env.of E0 [⟨some 56, 42, [.agg [.p (pi y1.Num), .p (pi y1.Den)], .agg [.p (pi y5.Num), .p (pi y5.Den)]], [], [.agg [.p (pi y10.Num), .p (pi y10.Den)], .one (.p (pi y11))], [], True, fun _ => ok_ratio_Add y1 y5 (y10, y11) h_7, []⟩]) (⟨83, mkS [(4, .x (.one (.ptr 104 0))), (5, .x (.one (.ptr 105 0))), (6, .x (.one (.ptr 106 0))), (7, .x (.one (.ptr 107 0))), (8, .x (.one (.p (pi y11))))], mkH [(104, .var [.p (pi y1.Num), .p (pi y1.Den)]), (105, .var [.p (pi y3.Num), .p (pi y3.Den)]), (106, .var [.p (pi y5.Num), .p (pi y5.Den)]), (107, .var [.p (pi y10.Num), .p (pi y10.Den)])]⟩) ?_
      replace H0 := bind_some H0
      obtain ⟨⟨y12, y13⟩, h_8, H0⟩ := H0
      try dsimp only at H0
      refine lok_rt (Env.of E0 [⟨some 62, 42, [.agg [.p (pi y3.Num), .p (pi y3.Den)], .agg [.p (pi y5.Num), .p (pi y5.Den)]], [], [.agg [.p (pi y12.Num), .p (pi y12.Den)], .one (.p (pi y13))], [], True, fun _ => ok_ratio_Add y3 y5 (y12, y13) h_8, []⟩]) (⟨83, mkS [(4, .x (.one (.ptr 104 0))), (5, .x (.one (.ptr 105 0))), (7, .x (.one (.ptr 107 0))), (8, .x (.one (.p (pi y11)))), (9, .x (.one (.ptr 109 0))), (10, .x (.one (.p (pi y13))))], mkH [(104, .var [.p (pi y1.Num), .p (pi y1.Den)]), (105, .var [.p (pi y3.Num), .p (pi y3.Den)]), (107, .var [.p (pi y10.Num), .p (pi y10.Den)]), (109, .var [.p (pi y12.Num), .p (pi y12.Den)])]⟩) ?_
      replace H0 := req_some H0
      obtain ⟨⟨q_9, q_10, q_11⟩, H0⟩ := H0
      refine lok_dt (Env.of E0 [⟨some 74, 38, [.agg [.p (pi y10.Num), .p (pi y10.Den)], .agg [.p (pi y12.Num), .p (pi y12.Den)]], [], [.one (.p (pi ((ratio_Compare y10 y12).getD default)))], [], (ratio_Compare y10 y12).isSome = true, fun h => ok_ratio_Compare y10 y12 _ (isSome_get h), []⟩,
      ⟨some 77, 38, [.agg [.p (pi y1.Num), .p (pi y1.Den)], .agg [.p (pi y3.Num), .p (pi y3.Den)]], [], [.one (.p (pi ((ratio_Compare y1 y3).getD default)))], [], (ratio_Compare y1 y3).isSome = true, fun h => ok_ratio_Compare y1 y3 _ (isSome_get h), []⟩,
      ⟨some 81, 17, [], [], [.one (.p (.val (.bool ((law01_awake).getD default))))], [], (law01_awake).isSome = true, fun h => ok_law01_awake _ (isSome_get h), []⟩]) 12 (⟨83, mkS [(2, .x (.one (.p (.val (.bool ((((y11 != (0 : Int)) || (y13 != (0 : Int))) || (((ratio_Compare y10 y12).getD default) == ((ratio_Compare y1 y3).getD default))) && ((law01_awake).getD default)))))))], mkH []⟩) (by kernel_rfl) (by kernel_rfl) ?_
      refine lok_ret ?_
      obtain rfl := Option.some.inj H0
      try simp only [thenL, blockL]
      exact fin_au _ (.inr rfl) [] (⟨83, mkS [(2, .x (.one (.p (.val (.bool ((((y11 != (0 : Int)) || (y13 != (0 : Int))) || (((ratio_Compare y10 y12).getD default) == ((ratio_Compare y1 y3).getD default))) && ((law01_awake).getD default)))))))], mkH []⟩) rfl rfl imp_au
end Go.LS
