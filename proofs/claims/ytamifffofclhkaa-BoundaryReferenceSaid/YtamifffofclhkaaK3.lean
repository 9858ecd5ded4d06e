/-
  The walks: the functions compute what the plain ones say. Condition: the plain function has a value.
-/
import Derived.Test.YtamifffofclhkaaK2
import Derived.Test.YtamifffofclhkaaD3
namespace Go.LS
open Go.Proofs
set_option linter.all false
set_option linter.unusedSimpArgs false
set_option linter.unusedVariables false
set_option maxRecDepth 20000

theorem ok_cmp_isNaN_uint64 (x : Int) (r_ : Bool) (H0 : cmp_isNaN_uint64 x = some r_) : CallOK Try.prog 83 [.one (.p (.val (.int .u64 x)))] [] [.one (.p (.val (.bool r_)))] [] := by
  refine callOK (n := 6) (rs := [.tmp 2]) (nb := 0) (V := []) Try.func83 rfl (by kernel_rfl) rfl rfl rfl rfl (Nat.le_of_ble_eq_true rfl) rfl (by decide) ?_
  unfold cmp_isNaN_uint64 at H0
  refine lok_rt E0 (⟨6, mkS [(0, .x (.one (.p (.val (.int .u64 x)))))], mkH []⟩) ?_
  refine lok_rt E0 (⟨6, mkS [(2, .x (.one (.p (.val (.bool (x != x))))))], mkH []⟩) ?_
  refine lok_ret ?_
  obtain rfl := Option.some.inj H0
  try simp only [thenL, blockL]
  exact fin_au _ (.inr rfl) [] (⟨6, mkS [(2, .x (.one (.p (.val (.bool (x != x))))))], mkH []⟩) rfl rfl imp_au
theorem ok_cmp_Compare_uint64 (x : Int) (y : Int) (r_ : Int) (H0 : cmp_Compare_uint64 x y = some r_) : CallOK Try.prog 76 [.one (.p (.val (.int .u64 x))), .one (.p (.val (.int .u64 y)))] [] [.one (.p (pi r_))] [] := by
  refine callOK (n := 20) (rs := [.tmp 4]) (nb := 0) (V := []) Try.func76 rfl (by kernel_rfl) rfl rfl rfl rfl (Nat.le_of_ble_eq_true rfl) rfl (by decide) ?_
  unfold cmp_Compare_uint64 at H0
  refine lok_rt E0 (⟨20, mkS [(0, .x (.one (.p (.val (.int .u64 x))))), (1, .x (.one (.p (.val (.int .u64 y)))))], mkH []⟩) ?_
  replace H0 := bind_some H0
  obtain ⟨y1, h_0, H0⟩ := H0
  refine lok_rt (Env.of E0 [⟨some 8, 83, [.one (.p (.val (.int .u64 x)))], [], [.one (.p (.val (.bool y1)))], [], True, fun _ => ok_cmp_isNaN_uint64 x y1 h_0⟩]) (⟨20, mkS [(0, .x (.one (.p (.val (.int .u64 x))))), (1, .x (.one (.p (.val (.int .u64 y))))), (5, .x (.one (.p (.val (.bool y1)))))], mkH []⟩) ?_
  replace H0 := bind_some H0
  obtain ⟨y2, h_1, H0⟩ := H0
  refine lok_rt (Env.of E0 [⟨some 10, 83, [.one (.p (.val (.int .u64 y)))], [], [.one (.p (.val (.bool y2)))], [], True, fun _ => ok_cmp_isNaN_uint64 y y2 h_1⟩]) (⟨20, mkS [(0, .x (.one (.p (.val (.int .u64 x))))), (1, .x (.one (.p (.val (.int .u64 y))))), (5, .x (.one (.p (.val (.bool y1))))), (6, .x (.one (.p (.val (.bool y2)))))], mkH []⟩) ?_
  refine lok_seq ?_
  refine lok_rt E0 (⟨20, mkS [(0, .x (.one (.p (.val (.int .u64 x))))), (1, .x (.one (.p (.val (.int .u64 y))))), (6, .x (.one (.p (.val (.bool y2))))), (11, .x (.one (.p (.val (.bool y1)))))], mkH []⟩) ?_
  refine lok_c y1 ?_ ?_
  · intro b_6
    replace H0 := cpos H0 b_6
    refine lok_seq ?_
    refine lok_rt E0 (⟨20, mkS [(12, .x (.one (.p (.val (.bool y2)))))], mkH []⟩) ?_
    refine lok_c y2 ?_ ?_
    · intro b_2
      replace H0 := cpos H0 b_2
      refine lok_rt E0 (⟨20, mkS [(4, .x (.one (.p (pi (0 : Int)))))], mkH []⟩) ?_
      refine lok_ret ?_
      obtain rfl := Option.some.inj H0
      try simp only [thenL, blockL]
      exact fin_au _ (.inr rfl) [] (⟨20, mkS [(4, .x (.one (.p (pi (0 : Int)))))], mkH []⟩) rfl rfl imp_au
    · intro b_2
      replace H0 := cneg H0 b_2
      refine lok_skip ?_
      try simp only [thenL, blockL, ↓reduceIte, reduceCtorEq]
      refine lok_rt E0 (⟨20, mkS [(4, .x (.one (.p (pi (-1 : Int)))))], mkH []⟩) ?_
      refine lok_ret ?_
      obtain rfl := Option.some.inj H0
      try simp only [thenL, blockL]
      exact fin_au _ (.inr rfl) [] (⟨20, mkS [(4, .x (.one (.p (pi (-1 : Int)))))], mkH []⟩) rfl rfl imp_au
  · intro b_6
    replace H0 := cneg H0 b_6
    refine lok_skip ?_
    try simp only [thenL, blockL, ↓reduceIte, reduceCtorEq]
    refine lok_seq ?_
    refine lok_rt E0 (⟨20, mkS [(0, .x (.one (.p (.val (.int .u64 x))))), (1, .x (.one (.p (.val (.int .u64 y))))), (13, .x (.one (.p (.val (.bool y2)))))], mkH []⟩) ?_
    refine lok_c y2 ?_ ?_
    · intro b_5
      replace H0 := cpos H0 b_5
      refine lok_rt E0 (⟨20, mkS [(4, .x (.one (.p (pi (1 : Int)))))], mkH []⟩) ?_
      refine lok_ret ?_
      obtain rfl := Option.some.inj H0
      try simp only [thenL, blockL]
      exact fin_au _ (.inr rfl) [] (⟨20, mkS [(4, .x (.one (.p (pi (1 : Int)))))], mkH []⟩) rfl rfl imp_au
    · intro b_5
      replace H0 := cneg H0 b_5
      refine lok_skip ?_
      try simp only [thenL, blockL, ↓reduceIte, reduceCtorEq]
      refine lok_seq ?_
      refine lok_rt E0 (⟨20, mkS [(0, .x (.one (.p (.val (.int .u64 x))))), (1, .x (.one (.p (.val (.int .u64 y))))), (16, .x (.one (.p (.val (.bool (decide (x < y)))))))], mkH []⟩) ?_
      refine lok_c (decide (x < y)) ?_ ?_
      · intro b_4
        replace H0 := cpos H0 b_4
        refine lok_rt E0 (⟨20, mkS [(4, .x (.one (.p (pi (-1 : Int)))))], mkH []⟩) ?_
        refine lok_ret ?_
        obtain rfl := Option.some.inj H0
        try simp only [thenL, blockL]
        exact fin_au _ (.inr rfl) [] (⟨20, mkS [(4, .x (.one (.p (pi (-1 : Int)))))], mkH []⟩) rfl rfl imp_au
      · intro b_4
        replace H0 := cneg H0 b_4
        refine lok_skip ?_
        try simp only [thenL, blockL, ↓reduceIte, reduceCtorEq]
        refine lok_seq ?_
        refine lok_rt E0 (⟨20, mkS [(19, .x (.one (.p (.val (.bool (decide (y < x)))))))], mkH []⟩) ?_
        refine lok_c (decide (y < x)) ?_ ?_
        · intro b_3
          replace H0 := cpos H0 b_3
          refine lok_rt E0 (⟨20, mkS [(4, .x (.one (.p (pi (1 : Int)))))], mkH []⟩) ?_
          refine lok_ret ?_
          obtain rfl := Option.some.inj H0
          try simp only [thenL, blockL]
          exact fin_au _ (.inr rfl) [] (⟨20, mkS [(4, .x (.one (.p (pi (1 : Int)))))], mkH []⟩) rfl rfl imp_au
        · intro b_3
          replace H0 := cneg H0 b_3
          refine lok_skip ?_
          try simp only [thenL, blockL, ↓reduceIte, reduceCtorEq]
          refine lok_rt E0 (⟨20, mkS [(4, .x (.one (.p (pi (0 : Int)))))], mkH []⟩) ?_
          refine lok_ret ?_
          obtain rfl := Option.some.inj H0
          try simp only [thenL, blockL]
          exact fin_au _ (.inr rfl) [] (⟨20, mkS [(4, .x (.one (.p (pi (0 : Int)))))], mkH []⟩) rfl rfl imp_au
theorem ok_ratio_wide_compare (a : ratio_wide) (b : ratio_wide) (r_ : Int) (H0 : ratio_wide_compare a b = some r_) : CallOK Try.prog 62 [.agg [.p (.val (.int .u64 a.hi)), .p (.val (.int .u64 a.lo))], .agg [.p (.val (.int .u64 b.hi)), .p (.val (.int .u64 b.lo))]] [] [.one (.p (pi r_))] [] := by
  refine callOK (n := 19) (rs := [.tmp 4]) (nb := 0) (V := []) Try.func62 rfl (by kernel_rfl) rfl rfl rfl rfl (Nat.le_of_ble_eq_true rfl) rfl (by decide) ?_
  unfold ratio_wide_compare at H0
  refine lok_rt E0 (⟨19, mkS [(2, .x (.one (.ptr 102 0))), (3, .x (.one (.ptr 103 0)))], mkH [(102, .var [.p (.val (.int .u64 a.hi)), .p (.val (.int .u64 a.lo))]), (103, .var [.p (.val (.int .u64 b.hi)), .p (.val (.int .u64 b.lo))])]⟩) ?_
  refine lok_seq ?_
  replace H0 := bind_some H0
  obtain ⟨y, h_0, H0⟩ := H0
  refine lok_rt (Env.of E0 [⟨some 10, 76, [.one (.p (.val (.int .u64 a.hi))), .one (.p (.val (.int .u64 b.hi)))], [], [.one (.p (pi y))], [], True, fun _ => ok_cmp_Compare_uint64 a.hi b.hi y h_0⟩]) (⟨19, mkS [(2, .x (.one (.ptr 102 0))), (3, .x (.one (.ptr 103 0))), (5, .x (.one (.p (pi y))))], mkH [(102, .var [.p (.val (.int .u64 a.hi)), .p (.val (.int .u64 a.lo))]), (103, .var [.p (.val (.int .u64 b.hi)), .p (.val (.int .u64 b.lo))])]⟩) ?_
  refine lok_rt E0 (⟨19, mkS [(2, .x (.one (.ptr 102 0))), (3, .x (.one (.ptr 103 0))), (5, .x (.one (.p (pi y)))), (12, .x (.one (.p (.val (.bool (y != (0 : Int)))))))], mkH [(102, .var [.p (.val (.int .u64 a.hi)), .p (.val (.int .u64 a.lo))]), (103, .var [.p (.val (.int .u64 b.hi)), .p (.val (.int .u64 b.lo))])]⟩) ?_
  refine lok_c (y != (0 : Int)) ?_ ?_
  · intro b_2
    replace H0 := cpos H0 b_2
    refine lok_rt E0 (⟨19, mkS [(4, .x (.one (.p (pi y))))], mkH []⟩) ?_
    refine lok_ret ?_
    obtain rfl := Option.some.inj H0
    try simp only [thenL, blockL]
    exact fin_au _ (.inr rfl) [] (⟨19, mkS [(4, .x (.one (.p (pi y))))], mkH []⟩) rfl rfl imp_au
  · intro b_2
    replace H0 := cneg H0 b_2
    refine lok_skip ?_
    try simp only [thenL, blockL, ↓reduceIte, reduceCtorEq]
    replace H0 := bind_some H0
    obtain ⟨y1, h_1, H0⟩ := H0
    refine lok_rt (Env.of E0 [⟨some 18, 76, [.one (.p (.val (.int .u64 a.lo))), .one (.p (.val (.int .u64 b.lo)))], [], [.one (.p (pi y1))], [], True, fun _ => ok_cmp_Compare_uint64 a.lo b.lo y1 h_1⟩]) (⟨19, mkS [(4, .x (.one (.p (pi y1))))], mkH []⟩) ?_
    refine lok_ret ?_
    obtain rfl := Option.some.inj H0
    try simp only [thenL, blockL]
    exact fin_au _ (.inr rfl) [] (⟨19, mkS [(4, .x (.one (.p (pi y1))))], mkH []⟩) rfl rfl imp_au
theorem ok_ratio_Compare (a : api_Ratio) (b : api_Ratio) (r_ : Int) (H0 : ratio_Compare a b = some r_) : CallOK Try.prog 49 [.agg [.p (pi a.Num), .p (pi a.Den)], .agg [.p (pi b.Num), .p (pi b.Den)]] [] [.one (.p (pi r_))] [] := by
  refine callOK (n := 50) (rs := [.tmp 4]) (nb := 0) (V := []) Try.func49 rfl (by kernel_rfl) rfl rfl rfl rfl (Nat.le_of_ble_eq_true rfl) rfl (by decide) ?_
  unfold ratio_Compare at H0
  refine lok_rt E0 (⟨50, mkS [(2, .x (.one (.ptr 102 0))), (3, .x (.one (.ptr 103 0)))], mkH [(102, .var [.p (pi a.Num), .p (pi a.Den)]), (103, .var [.p (pi b.Num), .p (pi b.Den)])]⟩) ?_
  refine lok_seq ?_
  replace H0 := bind_some H0
  obtain ⟨y, h_0, H0⟩ := H0
  replace H0 := req_some H0
  obtain ⟨q_9, H0⟩ := H0
  refine lok_rt (Env.of E0 [⟨some 8, 48, [.agg [.p (pi a.Num), .p (pi a.Den)]], [], [.one (.p (.val (.bool y)))], [], True, fun _ => ok_ratio_Valid a y h_0⟩,
      ⟨some 12, 48, [.agg [.p (pi b.Num), .p (pi b.Den)]], [], [.one (.p (.val (.bool ((ratio_Valid b).getD default))))], [], (ratio_Valid b).isSome = true, fun h => ok_ratio_Valid b _ (isSome_get h)⟩]) (⟨50, mkS [(2, .x (.one (.ptr 102 0))), (3, .x (.one (.ptr 103 0))), (14, .x (.one (.p (.val (.bool ((!y) || (!((ratio_Valid b).getD default))))))))], mkH [(102, .var [.p (pi a.Num), .p (pi a.Den)]), (103, .var [.p (pi b.Num), .p (pi b.Den)])]⟩) ?_
  refine lok_c ((!y) || (!((ratio_Valid b).getD default))) ?_ ?_
  · intro b_8
    replace H0 := cpos H0 b_8
    refine lok_rt E0 (⟨50, mkS [(4, .x (.one (.p (pi (0 : Int)))))], mkH []⟩) ?_
    refine lok_ret ?_
    obtain rfl := Option.some.inj H0
    try simp only [thenL, blockL]
    exact fin_au _ (.inr rfl) [] (⟨50, mkS [(4, .x (.one (.p (pi (0 : Int)))))], mkH []⟩) rfl rfl imp_au
  · intro b_8
    replace H0 := cneg H0 b_8
    refine lok_skip ?_
    try simp only [thenL, blockL, ↓reduceIte, reduceCtorEq]
    replace H0 := bind_some H0
    obtain ⟨y1, h_1, H0⟩ := H0
    replace H0 := bind_some H0
    obtain ⟨y2, h_2, H0⟩ := H0
    refine lok_et (Env.of E0 [⟨some 20, 61, [.one (.p (pi a.Num)), .one (.p (.val (.int .u64 (IntKind.u64.wrap b.Den))))], [], [.agg [.p (.val (.bool y1.neg)), .p (.val (.int .u64 y1.abs.hi)), .p (.val (.int .u64 y1.abs.lo))]], [], True, fun _ => ok_ratio_signedProduct a.Num (IntKind.u64.wrap b.Den) y1 h_1⟩,
      ⟨some 26, 61, [.one (.p (pi b.Num)), .one (.p (.val (.int .u64 (IntKind.u64.wrap a.Den))))], [], [.agg [.p (.val (.bool y2.neg)), .p (.val (.int .u64 y2.abs.hi)), .p (.val (.int .u64 y2.abs.lo))]], [], True, fun _ => ok_ratio_signedProduct b.Num (IntKind.u64.wrap a.Den) y2 h_2⟩]) 50 [⟨[(2, .x (.one (.ptr 102 0)))], [], [(15, .x (.one (.ptr 102 0)))], [], none⟩,
      ⟨[(15, .x (.one (.ptr 102 0)))], [(102, some (.var [.p (pi a.Num), .p (pi a.Den)]))], [(16, .x (.one (.p (pi a.Num))))], [], none⟩,
      ⟨[(3, .x (.one (.ptr 103 0)))], [], [(17, .x (.one (.ptr 103 1)))], [], none⟩,
      ⟨[(17, .x (.one (.ptr 103 1)))], [(103, some (.var [.p (pi b.Num), .p (pi b.Den)]))], [(18, .x (.one (.p (pi b.Den))))], [], none⟩,
      ⟨[(18, .x (.one (.p (pi b.Den))))], [], [(19, .x (.one (.p (.val (.int .u64 (IntKind.u64.wrap b.Den))))))], [], none⟩,
      ⟨[(16, .x (.one (.p (pi a.Num)))), (19, .x (.one (.p (.val (.int .u64 (IntKind.u64.wrap b.Den))))))], [], [(20, .x (.agg [.p (.val (.bool y1.neg)), .p (.val (.int .u64 y1.abs.hi)), .p (.val (.int .u64 y1.abs.lo))]))], [], none⟩,
      ⟨[(3, .x (.one (.ptr 103 0)))], [], [(21, .x (.one (.ptr 103 0)))], [], none⟩,
      ⟨[(21, .x (.one (.ptr 103 0)))], [(103, some (.var [.p (pi b.Num), .p (pi b.Den)]))], [(22, .x (.one (.p (pi b.Num))))], [], none⟩,
      ⟨[(2, .x (.one (.ptr 102 0)))], [], [(23, .x (.one (.ptr 102 1)))], [], none⟩,
      ⟨[(23, .x (.one (.ptr 102 1)))], [(102, some (.var [.p (pi a.Num), .p (pi a.Den)]))], [(24, .x (.one (.p (pi a.Den))))], [], none⟩,
      ⟨[(24, .x (.one (.p (pi a.Den))))], [], [(25, .x (.one (.p (.val (.int .u64 (IntKind.u64.wrap a.Den))))))], [], none⟩,
      ⟨[(22, .x (.one (.p (pi b.Num)))), (25, .x (.one (.p (.val (.int .u64 (IntKind.u64.wrap a.Den))))))], [], [(26, .x (.agg [.p (.val (.bool y2.neg)), .p (.val (.int .u64 y2.abs.hi)), .p (.val (.int .u64 y2.abs.lo))]))], [], none⟩,
      ⟨[], [(105, none)], [(5, .x (.one (.ptr 105 0)))], [(105, some (.var [.p (.val (.bool false)), .p (.val (.int .u64 (0 : Int))), .p (.val (.int .u64 (0 : Int)))]))], some 105⟩,
      ⟨[], [(106, none)], [(6, .x (.one (.ptr 106 0)))], [(106, some (.var [.p (.val (.bool false)), .p (.val (.int .u64 (0 : Int))), .p (.val (.int .u64 (0 : Int)))]))], some 106⟩] (⟨50, mkS [(5, .x (.one (.ptr 105 0))), (6, .x (.one (.ptr 106 0)))], mkH [(105, .var [.p (.val (.bool y1.neg)), .p (.val (.int .u64 y1.abs.hi)), .p (.val (.int .u64 y1.abs.lo))]), (106, .var [.p (.val (.bool y2.neg)), .p (.val (.int .u64 y2.abs.hi)), .p (.val (.int .u64 y2.abs.lo))])]⟩) (by kernel_rfl) (by kernel_rfl) (by kernel_rfl) rfl rfl rfl ?_
    refine lok_seq ?_
    refine lok_block ?_
    refine lok_rt E0 (⟨50, mkS [(5, .x (.one (.ptr 105 0))), (6, .x (.one (.ptr 106 0))), (27, .x (.one (.p (.val (.bool (y1.neg && y2.neg))))))], mkH [(105, .var [.p (.val (.bool y1.neg)), .p (.val (.int .u64 y1.abs.hi)), .p (.val (.int .u64 y1.abs.lo))]), (106, .var [.p (.val (.bool y2.neg)), .p (.val (.int .u64 y2.abs.hi)), .p (.val (.int .u64 y2.abs.lo))])]⟩) ?_
    refine lok_c (y1.neg && y2.neg) ?_ ?_
    · intro b_7
      replace H0 := cpos H0 b_7
      replace H0 := bind_some H0
      obtain ⟨y3, h_3, H0⟩ := H0
      refine lok_rt (Env.of E0 [⟨some 38, 62, [.agg [.p (.val (.int .u64 y2.abs.hi)), .p (.val (.int .u64 y2.abs.lo))], .agg [.p (.val (.int .u64 y1.abs.hi)), .p (.val (.int .u64 y1.abs.lo))]], [], [.one (.p (pi y3))], [], True, fun _ => ok_ratio_wide_compare y2.abs y1.abs y3 h_3⟩]) (⟨50, mkS [(4, .x (.one (.p (pi y3))))], mkH []⟩) ?_
      refine lok_ret ?_
      obtain rfl := Option.some.inj H0
      try simp only [thenL, blockL]
      exact fin_au _ (.inr rfl) [] (⟨50, mkS [(4, .x (.one (.p (pi y3))))], mkH []⟩) rfl rfl imp_au
    · intro b_7
      replace H0 := cneg H0 b_7
      refine lok_rt E0 (⟨50, mkS [(5, .x (.one (.ptr 105 0))), (6, .x (.one (.ptr 106 0))), (39, .x (.one (.p (.val (.bool y1.neg)))))], mkH [(105, .var [.p (.val (.bool y1.neg)), .p (.val (.int .u64 y1.abs.hi)), .p (.val (.int .u64 y1.abs.lo))]), (106, .var [.p (.val (.bool y2.neg)), .p (.val (.int .u64 y2.abs.hi)), .p (.val (.int .u64 y2.abs.lo))])]⟩) ?_
      refine lok_c y1.neg ?_ ?_
      · intro b_6
        replace H0 := cpos H0 b_6
        refine lok_rt E0 (⟨50, mkS [(4, .x (.one (.p (pi (-1 : Int)))))], mkH []⟩) ?_
        refine lok_ret ?_
        obtain rfl := Option.some.inj H0
        try simp only [thenL, blockL]
        exact fin_au _ (.inr rfl) [] (⟨50, mkS [(4, .x (.one (.p (pi (-1 : Int)))))], mkH []⟩) rfl rfl imp_au
      · intro b_6
        replace H0 := cneg H0 b_6
        refine lok_rt E0 (⟨50, mkS [(5, .x (.one (.ptr 105 0))), (6, .x (.one (.ptr 106 0))), (42, .x (.one (.p (.val (.bool y2.neg)))))], mkH [(105, .var [.p (.val (.bool y1.neg)), .p (.val (.int .u64 y1.abs.hi)), .p (.val (.int .u64 y1.abs.lo))]), (106, .var [.p (.val (.bool y2.neg)), .p (.val (.int .u64 y2.abs.hi)), .p (.val (.int .u64 y2.abs.lo))])]⟩) ?_
        refine lok_c y2.neg ?_ ?_
        · intro b_5
          replace H0 := cpos H0 b_5
          refine lok_rt E0 (⟨50, mkS [(4, .x (.one (.p (pi (1 : Int)))))], mkH []⟩) ?_
          refine lok_ret ?_
          obtain rfl := Option.some.inj H0
          try simp only [thenL, blockL]
          exact fin_au _ (.inr rfl) [] (⟨50, mkS [(4, .x (.one (.p (pi (1 : Int)))))], mkH []⟩) rfl rfl imp_au
        · intro b_5
          replace H0 := cneg H0 b_5
          refine lok_skip ?_
          try simp only [thenL, blockL, ↓reduceIte, reduceCtorEq]
          replace H0 := bind_some H0
          obtain ⟨y4, h_4, H0⟩ := H0
          refine lok_rt (Env.of E0 [⟨some 49, 62, [.agg [.p (.val (.int .u64 y1.abs.hi)), .p (.val (.int .u64 y1.abs.lo))], .agg [.p (.val (.int .u64 y2.abs.hi)), .p (.val (.int .u64 y2.abs.lo))]], [], [.one (.p (pi y4))], [], True, fun _ => ok_ratio_wide_compare y1.abs y2.abs y4 h_4⟩]) (⟨50, mkS [(4, .x (.one (.p (pi y4))))], mkH []⟩) ?_
          refine lok_ret ?_
          obtain rfl := Option.some.inj H0
          try simp only [thenL, blockL]
          exact fin_au _ (.inr rfl) [] (⟨50, mkS [(4, .x (.one (.p (pi y4))))], mkH []⟩) rfl rfl imp_au
theorem ok_boundary_compareShare (part : Int) (all : Int) (share : api_Ratio) (r_ : Int) (H0 : boundary_compareShare part all share = some r_) : CallOK Try.prog 37 [.one (.p (pi part)), .one (.p (pi all)), .agg [.p (pi share.Num), .p (pi share.Den)]] [] [.one (.p (pi r_))] [] := by
  refine callOK (n := 18) (rs := [.tmp 6]) (nb := 0) (V := []) Try.func37 rfl (by kernel_rfl) rfl rfl rfl rfl (Nat.le_of_ble_eq_true rfl) rfl (by decide) ?_
  unfold boundary_compareShare at H0
  refine lok_rt E0 (⟨18, mkS [(0, .x (.one (.p (pi part)))), (1, .x (.one (.p (pi all)))), (5, .x (.one (.ptr 105 0)))], mkH [(105, .var [.p (pi share.Num), .p (pi share.Den)])]⟩) ?_
  replace H0 := bind_some H0
  obtain ⟨⟨y, y1⟩, h_0, H0⟩ := H0
  try dsimp only at H0
  refine lok_rt (Env.of E0 [⟨some 12, 41, [.one (.p (pi part)), .one (.p (pi all))], [], [.agg [.p (pi y.Num), .p (pi y.Den)], .one (.p (pi y1))], [], True, fun _ => ok_ratio_New part all (y, y1) h_0⟩]) (⟨18, mkS [(5, .x (.one (.ptr 105 0))), (7, .x (.one (.ptr 107 0)))], mkH [(105, .var [.p (pi share.Num), .p (pi share.Den)]), (107, .var [.p (pi y.Num), .p (pi y.Den)])]⟩) ?_
  replace H0 := bind_some H0
  obtain ⟨y2, h_1, H0⟩ := H0
  refine lok_rt (Env.of E0 [⟨some 17, 49, [.agg [.p (pi y.Num), .p (pi y.Den)], .agg [.p (pi share.Num), .p (pi share.Den)]], [], [.one (.p (pi y2))], [], True, fun _ => ok_ratio_Compare y share y2 h_1⟩]) (⟨18, mkS [(6, .x (.one (.p (pi y2))))], mkH []⟩) ?_
  refine lok_ret ?_
  obtain rfl := Option.some.inj H0
  try simp only [thenL, blockL]
  exact fin_au _ (.inr rfl) [] (⟨18, mkS [(6, .x (.one (.p (pi y2))))], mkH []⟩) rfl rfl imp_au
theorem ok_boundary_Share (d : api_Distribution) (share : api_Ratio) (r_ : Int × Int) (H0 : boundary_Share d share = some r_) : CallOK Try.prog 19 [.agg [.p (.sl 1 (List.map encI d.Counts))], .agg [.p (pi share.Num), .p (pi share.Den)]] [] [.one (.p (pi r_.1)), .one (.p (pi r_.2))] [] := by
  refine callOK (n := 35) (rs := [.tmp 4, .tmp 5]) (nb := 0) (V := []) Try.func19 rfl (by kernel_rfl) rfl rfl rfl rfl (Nat.le_of_ble_eq_true rfl) rfl (by decide) ?_
  unfold boundary_Share at H0
  refine lok_rt E0 (⟨35, mkS [(2, .x (.one (.ptr 102 0))), (3, .x (.one (.ptr 103 0)))], mkH [(102, .var [.p (.sl 1 (List.map encI d.Counts))]), (103, .var [.p (pi share.Num), .p (pi share.Den)])]⟩) ?_
  refine lok_seq ?_
  replace H0 := bind_some H0
  obtain ⟨y, h_0, H0⟩ := H0
  refine lok_rt (Env.of E0 [⟨some 11, 35, [.agg [.p (.sl 1 (List.map encI d.Counts))], .agg [.p (pi share.Num), .p (pi share.Den)]], [], [.one (.p (pi y))], [], True, fun _ => ok_boundary_check d share y h_0⟩]) (⟨35, mkS [(2, .x (.one (.ptr 102 0))), (3, .x (.one (.ptr 103 0))), (6, .x (.one (.p (pi y))))], mkH [(102, .var [.p (.sl 1 (List.map encI d.Counts))]), (103, .var [.p (pi share.Num), .p (pi share.Den)])]⟩) ?_
  refine lok_rt E0 (⟨35, mkS [(2, .x (.one (.ptr 102 0))), (3, .x (.one (.ptr 103 0))), (6, .x (.one (.p (pi y)))), (13, .x (.one (.p (.val (.bool (y != (0 : Int)))))))], mkH [(102, .var [.p (.sl 1 (List.map encI d.Counts))]), (103, .var [.p (pi share.Num), .p (pi share.Den)])]⟩) ?_
  refine lok_c (y != (0 : Int)) ?_ ?_
  · intro b_8
    replace H0 := cpos H0 b_8
    refine lok_rt E0 (⟨35, mkS [(4, .x (.one (.p (pi (0 : Int))))), (5, .x (.one (.p (pi y))))], mkH []⟩) ?_
    refine lok_ret ?_
    obtain rfl := Option.some.inj H0
    try simp only [thenL, blockL]
    exact fin_au _ (.inr rfl) [] (⟨35, mkS [(4, .x (.one (.p (pi (0 : Int))))), (5, .x (.one (.p (pi y))))], mkH []⟩) rfl rfl imp_au
  · intro b_8
    replace H0 := cneg H0 b_8
    refine lok_skip ?_
    try simp only [thenL, blockL, ↓reduceIte, reduceCtorEq]
    replace H0 := bind_some H0
    obtain ⟨y1, h_1, H0⟩ := H0
    refine lok_rt (Env.of E0 [⟨some 16, 36, [.agg [.p (.sl 1 (List.map encI d.Counts))]], [], [.one (.p (.sl 1 (List.map encI y1)))], [], True, fun _ => ok_boundary_reaching d y1 h_1⟩]) (⟨35, mkS [(3, .x (.one (.ptr 103 0))), (7, .x (.one (.p (.sl 1 (List.map encI y1)))))], mkH [(103, .var [.p (pi share.Num), .p (pi share.Den)])]⟩) ?_
    refine lok_join (fun x_ : Unit => boundary_Share_j1 = some r_) (fun x_ => ⟨35, mkS [], mkH []⟩) ?hyboundary_Share_j1 ?hxboundary_Share_j1
    case hyboundary_Share_j1 =>
      rintro _ H0
      try dsimp only at H0 ⊢
      unfold boundary_Share_j1 at H0
      refine lok_rt E0 (⟨35, mkS [(4, .x (.one (.p (pi (0 : Int))))), (5, .x (.one (.p (pi (0 : Int)))))], mkH []⟩) ?_
      refine lok_ret ?_
      obtain rfl := Option.some.inj H0
      try simp only [thenL, blockL]
      exact fin_au _ (.inr rfl) [] (⟨35, mkS [(4, .x (.one (.p (pi (0 : Int))))), (5, .x (.one (.p (pi (0 : Int)))))], mkH []⟩) rfl rfl imp_au
    case hxboundary_Share_j1 =>
      refine lok_rt E0 (⟨35, mkS [(3, .x (.one (.ptr 103 0))), (7, .x (.one (.p (.sl 1 (List.map encI y1))))), (8, .x (.one (.p (pi (IntKind.i64.wrap ((y1.length : Int) - (1 : Int)))))))], mkH [(103, .var [.p (pi share.Num), .p (pi share.Den)])]⟩) ?_
      refine lok_block ?_
      replace H0 := bind_some H0
      obtain ⟨v_2, hv_2, H0⟩ := H0
      refine lok_iter (fun x_ => ⟨35, mkS [(3, .x (.one (.ptr 103 0))), (7, .x (.one (.p (.sl 1 (List.map encI y1))))), (8, .x (.one (.p (pi x_))))], mkH [(103, .var [.p (pi share.Num), .p (pi share.Den)])]⟩) hv_2 imp_au ?_
      · rintro b o_1 H1 k_1
        unfold boundary_Share_l2 at H1
        try dsimp only at H1 ⊢
        refine lok_seq ?_
        refine lok_rt E0 (⟨35, mkS [(3, .x (.one (.ptr 103 0))), (7, .x (.one (.p (.sl 1 (List.map encI y1))))), (8, .x (.one (.p (pi b)))), (21, .x (.one (.p (.val (.bool (decide ((0 : Int) < b)))))))], mkH [(103, .var [.p (pi share.Num), .p (pi share.Den)])]⟩) ?_
        refine lok_c (decide ((0 : Int) < b)) ?_ ?_
        · intro b_7
          replace H1 := cpos H1 b_7
          refine lok_skip ?_
          try simp only [thenL, blockL, ↓reduceIte, reduceCtorEq]
          refine lok_seq ?_
          refine lok_block ?_
          replace H1 := req_some H1
          obtain ⟨⟨q_5, q_6⟩, H1⟩ := H1
          replace H1 := bind_some H1
          obtain ⟨y2, h_3, H1⟩ := H1
          refine lok_dt (Env.of E0 [⟨some 32, 37, [.one (.p (pi (ix y1 b))), .one (.p (pi (ix y1 (0 : Int)))), .agg [.p (pi share.Num), .p (pi share.Den)]], [], [.one (.p (pi y2))], [], True, fun _ => ok_boundary_compareShare (ix y1 b) (ix y1 (0 : Int)) share y2 h_3⟩]) 8 (⟨35, mkS [(3, .x (.one (.ptr 103 0))), (7, .x (.one (.p (.sl 1 (List.map encI y1))))), (8, .x (.one (.p (pi b)))), (33, .x (.one (.p (.val (.bool (decide ((0 : Int) ≤ y2)))))))], mkH [(103, .var [.p (pi share.Num), .p (pi share.Den)])]⟩) (by kernel_rfl) (by kernel_rfl) ?_
          refine lok_c (decide ((0 : Int) ≤ y2)) ?_ ?_
          · intro b_4
            replace H1 := cpos H1 b_4
            refine lok_rt E0 (⟨35, mkS [(4, .x (.one (.p (pi b)))), (5, .x (.one (.p (pi (0 : Int)))))], mkH []⟩) ?_
            refine lok_ret ?_
            try simp only [thenL, blockL, ↓reduceIte, reduceCtorEq]
            have e_1 := k_1 _ (Option.some.inj H1).symm
            subst e_1
            try dsimp only at H0
            obtain rfl := Option.some.inj H0
            try simp only [thenL, blockL]
            exact fin_au _ (.inr rfl) [] (⟨35, mkS [(4, .x (.one (.p (pi b)))), (5, .x (.one (.p (pi (0 : Int)))))], mkH []⟩) rfl rfl imp_au
          · intro b_4
            replace H1 := cneg H1 b_4
            refine lok_skip ?_
            try simp only [thenL, blockL, ↓reduceIte, reduceCtorEq]
            refine lok_rl E0 (⟨35, mkS [(3, .x (.one (.ptr 103 0))), (7, .x (.one (.p (.sl 1 (List.map encI y1))))), (8, .x (.one (.p (pi (IntKind.i64.wrap (b - (1 : Int)))))))], mkH [(103, .var [.p (pi share.Num), .p (pi share.Den)])]⟩) ?_
            try simp only [thenL, blockL, ↓reduceIte, reduceCtorEq]
            exact ⟨(IntKind.i64.wrap (b - (1 : Int))), (Option.some.inj H1).symm, imp_au⟩
        · intro b_7
          replace H1 := cneg H1 b_7
          refine lok_exit ?_
          try simp only [thenL, blockL, ↓reduceIte, reduceCtorEq]
          have e_1 := k_1 _ (Option.some.inj H1).symm
          subst e_1
          try dsimp only at H0
          try simp only [thenL, blockL, ↓reduceIte, reduceCtorEq]
          exact ⟨(), H0, imp_au⟩
theorem ok_law35_sane  (r_ : Bool) (H0 : law35_sane = some r_) : CallOK Try.prog 9 [] [] [.one (.p (.val (.bool r_)))] [] := by
  refine callOK (n := 76) (rs := [.tmp 0]) (nb := 0) (V := []) Try.func9 rfl (by kernel_rfl) rfl rfl rfl rfl (Nat.le_of_ble_eq_true rfl) rfl (by decide) ?_
  unfold law35_sane at H0
  refine lok_rt E0 (⟨76, mkS [], mkH []⟩) ?_
  refine lok_rt E0 (⟨76, mkS [(1, .x (.one (.ptr 101 0)))], mkH [(101, .var [.fl 1 (List.map encI ([(1 : Int), (1 : Int), (1 : Int), (1 : Int)]))])]⟩) ?_
  replace H0 := bind_some H0
  obtain ⟨⟨y, y1⟩, h_0, H0⟩ := H0
  try dsimp only at H0
  refine lok_rt (Env.of E0 [⟨some 15, 19, [.agg [.p (.sl 1 (List.map encI ([(1 : Int), (1 : Int), (1 : Int), (1 : Int)])))], .agg [.p (pi (1 : Int)), .p (pi (2 : Int))]], [], [.one (.p (pi y)), .one (.p (pi y1))], [], True, fun _ => ok_boundary_Share (api_Distribution.mk ([(1 : Int), (1 : Int), (1 : Int), (1 : Int)])) (api_Ratio.mk (1 : Int) (2 : Int)) (y, y1) h_0⟩]) (⟨76, mkS [(1, .x (.one (.ptr 101 0))), (2, .x (.one (.p (pi y)))), (3, .x (.one (.p (pi y1))))], mkH [(101, .var [.fl 1 (List.map encI ([(1 : Int), (1 : Int), (1 : Int), (1 : Int)]))])]⟩) ?_
  replace H0 := bind_some H0
  obtain ⟨⟨y2, y3⟩, h_1, H0⟩ := H0
  try dsimp only at H0
  refine lok_rt (Env.of E0 [⟨some 21, 19, [.agg [.p (.sl 1 (List.map encI ([(1 : Int), (1 : Int), (1 : Int), (1 : Int)])))], .agg [.p (pi (0 : Int)), .p (pi (1 : Int))]], [], [.one (.p (pi y2)), .one (.p (pi y3))], [], True, fun _ => ok_boundary_Share (api_Distribution.mk ([(1 : Int), (1 : Int), (1 : Int), (1 : Int)])) (api_Ratio.mk (0 : Int) (1 : Int)) (y2, y3) h_1⟩]) (⟨76, mkS [(1, .x (.one (.ptr 101 0))), (2, .x (.one (.p (pi y)))), (3, .x (.one (.p (pi y1)))), (4, .x (.one (.p (pi y2)))), (5, .x (.one (.p (pi y3))))], mkH [(101, .var [.fl 1 (List.map encI ([(1 : Int), (1 : Int), (1 : Int), (1 : Int)]))])]⟩) ?_
  replace H0 := bind_some H0
  obtain ⟨⟨y4, y5⟩, h_2, H0⟩ := H0
  try dsimp only at H0
  refine lok_rt (Env.of E0 [⟨some 25, 17, [.one (.p (pi (70 : Int))), .one (.p (pi (40 : Int))), .one (.p (pi (4 : Int)))], [], [.one (.p (.sl 1 (List.map encI y4))), .one (.p (pi y5))], [], True, fun _ => ok_boundary_Interpolate (70 : Int) (40 : Int) (4 : Int) (y4, y5) h_2⟩]) (⟨76, mkS [(1, .x (.one (.ptr 101 0))), (2, .x (.one (.p (pi y)))), (3, .x (.one (.p (pi y1)))), (4, .x (.one (.p (pi y2)))), (5, .x (.one (.p (pi y3)))), (6, .x (.one (.p (.sl 1 (List.map encI y4))))), (7, .x (.one (.p (pi y5))))], mkH [(101, .var [.fl 1 (List.map encI ([(1 : Int), (1 : Int), (1 : Int), (1 : Int)]))])]⟩) ?_
  replace H0 := bind_some H0
  obtain ⟨⟨y6, y7⟩, h_3, H0⟩ := H0
  try dsimp only at H0
  refine lok_rt (Env.of E0 [⟨some 31, 13, [.agg [.p (.sl 1 (List.map encI ([(1 : Int), (1 : Int), (1 : Int), (1 : Int)])))], .one (.p (.sl 1 (List.map encI ([(3 : Int), (1 : Int)]))))], [], [.one (.p (.sl 1 (List.map encI y6))), .one (.p (pi y7))], [], True, fun _ => ok_boundary_Tally (api_Distribution.mk ([(1 : Int), (1 : Int), (1 : Int), (1 : Int)])) ([(3 : Int), (1 : Int)]) (y6, y7) h_3⟩]) (⟨76, mkS [(2, .x (.one (.p (pi y)))), (3, .x (.one (.p (pi y1)))), (4, .x (.one (.p (pi y2)))), (5, .x (.one (.p (pi y3)))), (6, .x (.one (.p (.sl 1 (List.map encI y4))))), (7, .x (.one (.p (pi y5)))), (8, .x (.one (.p (.sl 1 (List.map encI y6))))), (9, .x (.one (.p (pi y7))))], mkH []⟩) ?_
  replace H0 := req_some H0
  obtain ⟨⟨q_4, q_5, q_6, q_7⟩, H0⟩ := H0
  refine lok_rt (Env.of E0 [⟨some 59, 15, [.one (.p (.sl 1 (List.map encI y4))), .one (.p (.sl 1 (List.map encI ([(70 : Int), (62 : Int), (55 : Int), (47 : Int), (40 : Int)]))))], [], [.one (.p (.val (.bool ((law35_same y4 ([(70 : Int), (62 : Int), (55 : Int), (47 : Int), (40 : Int)])).getD default))))], [], (law35_same y4 ([(70 : Int), (62 : Int), (55 : Int), (47 : Int), (40 : Int)])).isSome = true, fun h => ok_law35_same y4 ([(70 : Int), (62 : Int), (55 : Int), (47 : Int), (40 : Int)]) _ (isSome_get h)⟩,
      ⟨some 64, 15, [.one (.p (.sl 1 (List.map encI y6))), .one (.p (.sl 1 (List.map encI ([(1 : Int), (2 : Int), (1 : Int)]))))], [], [.one (.p (.val (.bool ((law35_same y6 ([(1 : Int), (2 : Int), (1 : Int)])).getD default))))], [], (law35_same y6 ([(1 : Int), (2 : Int), (1 : Int)])).isSome = true, fun h => ok_law35_same y6 ([(1 : Int), (2 : Int), (1 : Int)]) _ (isSome_get h)⟩,
      ⟨some 68, 14, [.one (.p (.sl 1 (List.map encI ([(3 : Int), (1 : Int)])))), .one (.p (pi (2 : Int)))], [], [.one (.p (pi ((boundary_Grade ([(3 : Int), (1 : Int)]) (2 : Int)).getD default)))], [], (boundary_Grade ([(3 : Int), (1 : Int)]) (2 : Int)).isSome = true, fun h => ok_boundary_Grade ([(3 : Int), (1 : Int)]) (2 : Int) _ (isSome_get h)⟩,
      ⟨some 73, 27, [.one (.p (.sl 1 (List.map encI ([(3 : Int), (1 : Int)])))), .one (.p (pi (3 : Int)))], [], [.one (.p (pi ((boundary_Check ([(3 : Int), (1 : Int)]) (3 : Int)).getD default)))], [], (boundary_Check ([(3 : Int), (1 : Int)]) (3 : Int)).isSome = true, fun h => ok_boundary_Check ([(3 : Int), (1 : Int)]) (3 : Int) _ (isSome_get h)⟩]) (⟨76, mkS [(0, .x (.one (.p (.val (.bool ((((((((((y1 == (0 : Int)) && (y3 == (0 : Int))) && (y5 == (0 : Int))) && (y7 == (0 : Int))) && (y == (2 : Int))) && (y2 == (4 : Int))) && ((law35_same y4 ([(70 : Int), (62 : Int), (55 : Int), (47 : Int), (40 : Int)])).getD default)) && ((law35_same y6 ([(1 : Int), (2 : Int), (1 : Int)])).getD default)) && (((boundary_Grade ([(3 : Int), (1 : Int)]) (2 : Int)).getD default) == (1 : Int))) && (((boundary_Check ([(3 : Int), (1 : Int)]) (3 : Int)).getD default) == (0 : Int))))))))], mkH []⟩) ?_
  refine lok_ret ?_
  obtain rfl := Option.some.inj H0
  try simp only [thenL, blockL]
  exact fin_au _ (.inr rfl) [] (⟨76, mkS [(0, .x (.one (.p (.val (.bool ((((((((((y1 == (0 : Int)) && (y3 == (0 : Int))) && (y5 == (0 : Int))) && (y7 == (0 : Int))) && (y == (2 : Int))) && (y2 == (4 : Int))) && ((law35_same y4 ([(70 : Int), (62 : Int), (55 : Int), (47 : Int), (40 : Int)])).getD default)) && ((law35_same y6 ([(1 : Int), (2 : Int), (1 : Int)])).getD default)) && (((boundary_Grade ([(3 : Int), (1 : Int)]) (2 : Int)).getD default) == (1 : Int))) && (((boundary_Check ([(3 : Int), (1 : Int)]) (3 : Int)).getD default) == (0 : Int))))))))], mkH []⟩) rfl rfl imp_au
theorem ok_mark_Roll (l : List Int) (r_ : mark_Dice) (H0 : mark_Roll l = some r_) : CallOK Try.prog 10 [.one (.p (.sl 1 (List.map encI l)))] [] [.one (.ptr 0 0)] [some (.var [.p (.sl 1 (List.map encI r_.L)), .p (pi r_.At)])] := by
  refine callOK (n := 6) (rs := [.tmp 2]) (nb := 0) (V := []) Try.func10 rfl (by kernel_rfl) rfl rfl rfl rfl (Nat.le_of_ble_eq_true rfl) rfl (by decide) ?_
  unfold mark_Roll at H0
  refine lok_rt E0 (⟨6, mkS [(0, .x (.one (.p (.sl 1 (List.map encI l)))))], mkH []⟩) ?_
  refine lok_rt E0 (⟨6, mkS [(2, .x (.one (.ptr 105 0)))], mkH [(105, .var [.p (.sl 1 (List.map encI l)), .p (pi (0 : Int))])]⟩) ?_
  refine lok_ret ?_
  obtain rfl := Option.some.inj H0
  try simp only [thenL, blockL]
  exact fin_nu [105] _ (.inr rfl) [105] (⟨6, mkS [(2, .x (.one (.ptr 105 0)))], mkH [(105, .var [.p (.sl 1 (List.map encI l)), .p (pi (0 : Int))])]⟩) rfl rfl imp_au
theorem ok_mark_Dice_Next (d : mark_Dice) (n : Int) (r_ : Int × mark_Dice) (H0 : mark_Dice_Next d n = some r_) : CallOK Try.prog 29 [.one (.ptr 0 0), .one (.p (pi n))] [.var [.p (.sl 1 (List.map encI d.L)), .p (pi d.At)]] [.one (.p (pi r_.1))] [some (.var [.p (.sl 1 (List.map encI r_.2.L)), .p (pi r_.2.At)])] := by
  refine callOK (n := 45) (rs := [.tmp 4]) (nb := 1) (V := [0]) Try.func29 rfl (by kernel_rfl) rfl rfl rfl rfl (Nat.le_of_ble_eq_true rfl) rfl (by decide) ?_
  unfold mark_Dice_Next at H0
  refine lok_rt E0 (⟨45, mkS [(0, .x (.one (.ptr 0 0))), (1, .x (.one (.p (pi n))))], mkH [(0, .var [.p (.sl 1 (List.map encI d.L)), .p (pi d.At)])]⟩) ?_
  refine lok_seq ?_
  refine lok_dt E0 9 (⟨45, mkS [(0, .x (.one (.ptr 0 0))), (1, .x (.one (.p (pi n)))), (19, .x (.one (.p (.val (.bool ((decide ((d.L.length : Int) ≤ d.At)) || (decide (n < (1 : Int)))))))))], mkH [(0, .var [.p (.sl 1 (List.map encI d.L)), .p (pi d.At)])]⟩) (by kernel_rfl) (by kernel_rfl) ?_
  refine lok_c ((decide ((d.L.length : Int) ≤ d.At)) || (decide (n < (1 : Int)))) ?_ ?_
  · intro b_3
    replace H0 := cpos H0 b_3
    refine lok_rt E0 (⟨45, mkS [(4, .x (.one (.p (pi (0 : Int)))))], mkH [(0, .var [.p (.sl 1 (List.map encI d.L)), .p (pi d.At)])]⟩) ?_
    refine lok_ret ?_
    obtain rfl := Option.some.inj H0
    try simp only [thenL, blockL]
    exact fin_au _ (.inr rfl) [0] (⟨45, mkS [(4, .x (.one (.p (pi (0 : Int)))))], mkH [(0, .var [.p (.sl 1 (List.map encI d.L)), .p (pi d.At)])]⟩) rfl rfl imp_au
  · intro b_3
    replace H0 := cneg H0 b_3
    refine lok_skip ?_
    try simp only [thenL, blockL, ↓reduceIte, reduceCtorEq]
    replace H0 := req_some H0
    obtain ⟨⟨q_1, q_2⟩, H0⟩ := H0
    refine lok_dt E0 11 (⟨45, mkS [(0, .x (.one (.ptr 0 0))), (1, .x (.one (.p (pi n)))), (5, .x (.one (.p (pi (Int.tmod (ix d.L d.At) n)))))], mkH [(0, .var [.p (.sl 1 (List.map encI d.L)), .p (pi d.At)])]⟩) (by kernel_rfl) (by kernel_rfl) ?_
    refine lok_rt E0 (⟨45, mkS [(1, .x (.one (.p (pi n)))), (5, .x (.one (.p (pi (Int.tmod (ix d.L d.At) n)))))], mkH [(0, .var [.p (.sl 1 (List.map encI d.L)), .p (pi (IntKind.i64.wrap (d.At + (1 : Int))))])]⟩) ?_
    refine lok_join (fun x_ : Int => mark_Dice_Next_j1 d x_ = some r_) (fun x_ => ⟨45, mkS [(5, .x (.one (.p (pi x_))))], mkH [(0, .var [.p (.sl 1 (List.map encI d.L)), .p (pi (IntKind.i64.wrap (d.At + (1 : Int))))])]⟩) ?hymark_Dice_Next_j1 ?hxmark_Dice_Next_j1
    case hymark_Dice_Next_j1 =>
      rintro x H0
      try dsimp only at H0 ⊢
      unfold mark_Dice_Next_j1 at H0
      refine lok_rt E0 (⟨45, mkS [(4, .x (.one (.p (pi x))))], mkH [(0, .var [.p (.sl 1 (List.map encI d.L)), .p (pi (IntKind.i64.wrap (d.At + (1 : Int))))])]⟩) ?_
      refine lok_ret ?_
      obtain rfl := Option.some.inj H0
      try simp only [thenL, blockL]
      exact fin_au _ (.inr rfl) [0] (⟨45, mkS [(4, .x (.one (.p (pi x))))], mkH [(0, .var [.p (.sl 1 (List.map encI d.L)), .p (pi (IntKind.i64.wrap (d.At + (1 : Int))))])]⟩) rfl rfl imp_au
    case hxmark_Dice_Next_j1 =>
      refine lok_rt E0 (⟨45, mkS [(1, .x (.one (.p (pi n)))), (5, .x (.one (.p (pi (Int.tmod (ix d.L d.At) n))))), (40, .x (.one (.p (.val (.bool (decide ((Int.tmod (ix d.L d.At) n) < (0 : Int))))))))], mkH [(0, .var [.p (.sl 1 (List.map encI d.L)), .p (pi (IntKind.i64.wrap (d.At + (1 : Int))))])]⟩) ?_
      refine lok_c (decide ((Int.tmod (ix d.L d.At) n) < (0 : Int))) ?_ ?_
      · intro b_0
        replace H0 := cpos H0 b_0
        refine lok_rl E0 (⟨45, mkS [(5, .x (.one (.p (pi (IntKind.i64.wrap ((Int.tmod (ix d.L d.At) n) + n))))))], mkH [(0, .var [.p (.sl 1 (List.map encI d.L)), .p (pi (IntKind.i64.wrap (d.At + (1 : Int))))])]⟩) ?_
        try simp only [thenL, blockL, ↓reduceIte, reduceCtorEq]
        exact ⟨(IntKind.i64.wrap ((Int.tmod (ix d.L d.At) n) + n)), H0, imp_au⟩
      · intro b_0
        replace H0 := cneg H0 b_0
        refine lok_skip ?_
        try simp only [thenL, blockL, ↓reduceIte, reduceCtorEq]
        exact ⟨(Int.tmod (ix d.L d.At) n), H0, imp_au⟩
theorem ok_mark_Dice_Pick (d : mark_Dice) (l : List Int) (r_ : Int × mark_Dice) (H0 : mark_Dice_Pick d l = some r_) : CallOK Try.prog 30 [.one (.ptr 0 0), .one (.p (.sl 1 (List.map encI l)))] [.var [.p (.sl 1 (List.map encI d.L)), .p (pi d.At)]] [.one (.p (pi r_.1))] [some (.var [.p (.sl 1 (List.map encI r_.2.L)), .p (pi r_.2.At)])] := by
  refine callOK (n := 12) (rs := [.tmp 4]) (nb := 1) (V := [0]) Try.func30 rfl (by kernel_rfl) rfl rfl rfl rfl (Nat.le_of_ble_eq_true rfl) rfl (by decide) ?_
  unfold mark_Dice_Pick at H0
  refine lok_rt E0 (⟨12, mkS [(0, .x (.one (.ptr 0 0))), (1, .x (.one (.p (.sl 1 (List.map encI l)))))], mkH [(0, .var [.p (.sl 1 (List.map encI d.L)), .p (pi d.At)])]⟩) ?_
  replace H0 := bind_some H0
  obtain ⟨⟨y, y1⟩, h_0, H0⟩ := H0
  try dsimp only at H0
  replace H0 := req_some H0
  obtain ⟨q_1, H0⟩ := H0
  refine lok_rt (Env.of E0 [⟨some 9, 29, [.one (.ptr 0 0), .one (.p (pi (l.length : Int)))], [.var [.p (.sl 1 (List.map encI d.L)), .p (pi d.At)]], [.one (.p (pi y))], [some (.var [.p (.sl 1 (List.map encI y1.L)), .p (pi y1.At)])], True, fun _ => ok_mark_Dice_Next d (l.length : Int) (y, y1) h_0⟩]) (⟨12, mkS [(4, .x (.one (.p (pi (ix l y)))))], mkH [(0, .var [.p (.sl 1 (List.map encI y1.L)), .p (pi y1.At)])]⟩) ?_
  refine lok_ret ?_
  obtain rfl := Option.some.inj H0
  try simp only [thenL, blockL]
  exact fin_au _ (.inr rfl) [0] (⟨12, mkS [(4, .x (.one (.p (pi (ix l y)))))], mkH [(0, .var [.p (.sl 1 (List.map encI y1.L)), .p (pi y1.At)])]⟩) rfl rfl imp_au
theorem ok_mark_Dice_Distribution (d : mark_Dice) (n : Int) (full : Bool) (r_ : api_Distribution × mark_Dice) (H0 : mark_Dice_Distribution d n full = some r_) : CallOK Try.prog 11 [.one (.ptr 0 0), .one (.p (pi n)), .one (.p (.val (.bool full)))] [.var [.p (.sl 1 (List.map encI d.L)), .p (pi d.At)]] [.agg [.p (.sl 1 (List.map encI r_.1.Counts))]] [some (.var [.p (.sl 1 (List.map encI r_.2.L)), .p (pi r_.2.At)])] := by
  refine callOK (n := 31) (rs := [.cell 6 28]) (nb := 1) (V := [0]) Try.func11 rfl (by kernel_rfl) rfl rfl rfl rfl (Nat.le_of_ble_eq_true rfl) rfl (by decide) ?_
  unfold mark_Dice_Distribution at H0
  refine lok_rt E0 (⟨31, mkS [(0, .x (.one (.ptr 0 0))), (1, .x (.one (.p (pi n)))), (2, .x (.one (.p (.val (.bool full))))), (6, .x (.one (.ptr 106 0)))], mkH [(0, .var [.p (.sl 1 (List.map encI d.L)), .p (pi d.At)]), (106, .var [.p .nil])]⟩) ?_
  refine lok_rt E0 (⟨31, mkS [(0, .x (.one (.ptr 0 0))), (1, .x (.one (.p (pi n)))), (2, .x (.one (.p (.val (.bool full))))), (6, .x (.one (.ptr 106 0))), (7, .x (.one (.ptr 107 0)))], mkH [(0, .var [.p (.sl 1 (List.map encI d.L)), .p (pi d.At)]), (106, .var [.p .nil]), (107, .var [.p .nil])]⟩) ?_
  refine lok_rt E0 (⟨31, mkS [(0, .x (.one (.ptr 0 0))), (1, .x (.one (.p (pi n)))), (2, .x (.one (.p (.val (.bool full))))), (6, .x (.one (.ptr 106 0))), (7, .x (.one (.ptr 107 0))), (8, .x (.one (.p (pi (0 : Int)))))], mkH [(0, .var [.p (.sl 1 (List.map encI d.L)), .p (pi d.At)]), (106, .var [.p .nil]), (107, .var [.p .nil])]⟩) ?_
  refine lok_join (fun x_ : Int => mark_Dice_Distribution_j3 d n x_ = some r_) (fun x_ => ⟨31, mkS [(0, .x (.one (.ptr 0 0))), (1, .x (.one (.p (pi n)))), (6, .x (.one (.ptr 106 0))), (7, .x (.one (.ptr 107 0))), (8, .x (.one (.p (pi x_))))], mkH [(0, .var [.p (.sl 1 (List.map encI d.L)), .p (pi d.At)]), (106, .var [.p .nil]), (107, .var [.p .nil])]⟩) ?hymark_Dice_Distribution_j3 ?hxmark_Dice_Distribution_j3
  case hymark_Dice_Distribution_j3 =>
    rintro least H0
    try dsimp only at H0 ⊢
    unfold mark_Dice_Distribution_j3 at H0
    refine lok_join (fun x_ : (List Int) × Int × (List Int) => mark_Dice_Distribution_j1 x_.1 x_.2.1 x_.2.2 = some r_) (fun x_ => ⟨31, mkS [(6, .x (.one (.ptr 106 0))), (7, .x (.one (.ptr 107 0)))], mkH [(0, .var [.p (.sl 1 (List.map encI x_.1)), .p (pi x_.2.1)]), (106, .var [.p .nil]), (107, .var [.vw 128]), (128, .arr 1 (List.map encI x_.2.2))]⟩) ?hymark_Dice_Distribution_j1 ?hxmark_Dice_Distribution_j1
    case hymark_Dice_Distribution_j1 =>
      rintro ⟨d1, d2, w⟩ H0
      try dsimp only at H0 ⊢
      unfold mark_Dice_Distribution_j1 at H0
      refine lok_rt E0 (⟨31, mkS [(6, .x (.one (.ptr 106 0)))], mkH [(0, .var [.p (.sl 1 (List.map encI d1)), .p (pi d2)]), (106, .var [.vw 128]), (128, .arr 1 (List.map encI w))]⟩) ?_
      refine lok_ret ?_
      obtain rfl := Option.some.inj H0
      try simp only [thenL, blockL]
      exact fin_au _ (.inr rfl) [0] (⟨31, mkS [(6, .x (.one (.ptr 106 0)))], mkH [(0, .var [.p (.sl 1 (List.map encI d1)), .p (pi d2)]), (106, .var [.p (.sl 1 (List.map encI w))])]⟩) rfl rfl (Imp.trans (imp_frz 128 1 (List.map encI w)) imp_au)
    case hxmark_Dice_Distribution_j1 =>
      replace H0 := bind_some H0
      obtain ⟨⟨y, y1⟩, h_0, H0⟩ := H0
      try dsimp only at H0
      refine lok_rt (Env.of E0 [⟨some 14, 29, [.one (.ptr 0 0), .one (.p (pi (IntKind.i64.wrap (n + (1 : Int)))))], [.var [.p (.sl 1 (List.map encI d.L)), .p (pi d.At)]], [.one (.p (pi y))], [some (.var [.p (.sl 1 (List.map encI y1.L)), .p (pi y1.At)])], True, fun _ => ok_mark_Dice_Next d (IntKind.i64.wrap (n + (1 : Int))) (y, y1) h_0⟩]) (⟨31, mkS [(0, .x (.one (.ptr 0 0))), (6, .x (.one (.ptr 106 0))), (7, .x (.one (.ptr 107 0))), (8, .x (.one (.p (pi least)))), (9, .x (.one (.p (pi (IntKind.i64.wrap ((1 : Int) + y))))))], mkH [(0, .var [.p (.sl 1 (List.map encI y1.L)), .p (pi y1.At)]), (106, .var [.p .nil]), (107, .var [.p .nil])]⟩) ?_
      refine lok_block ?_
      replace H0 := bind_some H0
      obtain ⟨v_1, hv_1, H0⟩ := H0
      refine lok_iter (fun x_ => ⟨31, mkS [(0, .x (.one (.ptr 0 0))), (6, .x (.one (.ptr 106 0))), (7, .x (.one (.ptr 107 0))), (8, .x (.one (.p (pi least)))), (9, .x (.one (.p (pi x_.1))))], mkH [(0, .var [.p (.sl 1 (List.map encI x_.2.1)), .p (pi x_.2.2.1)]), (106, .var [.p .nil]), (107, .var [.vw 128]), (128, .arr 1 (List.map encI x_.2.2.2))]⟩) hv_1 imp_au ?_
      · rintro ⟨i, d3, d4, w1⟩ o_1 H1 k_1
        unfold mark_Dice_Distribution_l2 at H1
        try dsimp only at H1 ⊢
        refine lok_seq ?_
        refine lok_rt E0 (⟨31, mkS [(0, .x (.one (.ptr 0 0))), (6, .x (.one (.ptr 106 0))), (7, .x (.one (.ptr 107 0))), (8, .x (.one (.p (pi least)))), (9, .x (.one (.p (pi i)))), (17, .x (.one (.p (.val (.bool (decide ((0 : Int) < i)))))))], mkH [(0, .var [.p (.sl 1 (List.map encI d3)), .p (pi d4)]), (106, .var [.p .nil]), (107, .var [.vw 128]), (128, .arr 1 (List.map encI w1))]⟩) ?_
        refine lok_c (decide ((0 : Int) < i)) ?_ ?_
        · intro b_4
          replace H1 := cpos H1 b_4
          refine lok_skip ?_
          try simp only [thenL, blockL, ↓reduceIte, reduceCtorEq]
          refine lok_seq ?_
          refine lok_block ?_
          replace H1 := bind_some H1
          obtain ⟨⟨y2, y3⟩, h_2, H1⟩ := H1
          try dsimp only at H1
          replace H1 := req_some H1
          obtain ⟨q_3, H1⟩ := H1
          refine lok_el (Env.of E0 [⟨some 25, 30, [.one (.ptr 0 0), .one (.p (.sl 1 (List.map encI ([(0 : Int), (1 : Int), (2 : Int), (5 : Int), (0 : Int)]))))], [.var [.p (.sl 1 (List.map encI d3)), .p (pi d4)]], [.one (.p (pi y2))], [some (.var [.p (.sl 1 (List.map encI y3.L)), .p (pi y3.At)])], True, fun _ => ok_mark_Dice_Pick (mark_Dice.mk d3 d4) ([(0 : Int), (1 : Int), (2 : Int), (5 : Int), (0 : Int)]) (y2, y3) h_2⟩]) 31 [⟨[(7, .x (.one (.ptr 107 0)))], [], [(20, .x (.one (.ptr 107 0)))], [], none⟩,
      ⟨[(20, .x (.one (.ptr 107 0)))], [(107, some (.var [.vw 128]))], [(21, .x (.one (.vw 128)))], [], none⟩,
      ⟨[(8, .x (.one (.p (pi least))))], [], [(22, .x (.one (.p (pi least))))], [], none⟩,
      ⟨[(0, .x (.one (.ptr 0 0)))], [], [(23, .x (.one (.ptr 0 0)))], [], none⟩,
      ⟨[], [], [(24, .x (.one (.fl 1 (List.map encI ([(0 : Int), (1 : Int), (2 : Int), (5 : Int), (0 : Int)])))))], [], none⟩,
      ⟨[(23, .x (.one (.ptr 0 0))), (24, .x (.one (.fl 1 (List.map encI ([(0 : Int), (1 : Int), (2 : Int), (5 : Int), (0 : Int)])))))], [(0, some (.var [.p (.sl 1 (List.map encI d3)), .p (pi d4)]))], [(25, .x (.one (.p (pi y2))))], [(0, some (.var [.p (.sl 1 (List.map encI y3.L)), .p (pi y3.At)]))], none⟩,
      ⟨[(22, .x (.one (.p (pi least)))), (25, .x (.one (.p (pi y2))))], [], [(26, .x (.one (.p (pi (IntKind.i64.wrap (least + y2))))))], [], none⟩,
      ⟨[(26, .x (.one (.p (pi (IntKind.i64.wrap (least + y2))))))], [], [(27, .x (.one (.fl 1 (List.map encI ([(IntKind.i64.wrap (least + y2))])))))], [], none⟩] (⟨31, mkS [(0, .x (.one (.ptr 0 0))), (6, .x (.one (.ptr 106 0))), (7, .x (.one (.ptr 107 0))), (8, .x (.one (.p (pi least)))), (9, .x (.one (.p (pi i))))], mkH [(0, .var [.p (.sl 1 (List.map encI y3.L)), .p (pi y3.At)]), (106, .var [.p .nil]), (107, .var [.vw 128]), (128, .arr 1 (List.map encI (w1 ++ [(IntKind.i64.wrap (least + y2))])))]⟩) (by kernel_rfl) (by kernel_rfl) (by kernel_rfl) rfl rfl rfl ?_
          try simp only [thenL, blockL, ↓reduceIte, reduceCtorEq]
          refine lok_rl E0 (⟨31, mkS [(0, .x (.one (.ptr 0 0))), (6, .x (.one (.ptr 106 0))), (7, .x (.one (.ptr 107 0))), (8, .x (.one (.p (pi least)))), (9, .x (.one (.p (pi (IntKind.i64.wrap (i - (1 : Int)))))))], mkH [(0, .var [.p (.sl 1 (List.map encI y3.L)), .p (pi y3.At)]), (106, .var [.p .nil]), (107, .var [.vw 128]), (128, .arr 1 (List.map encI (w1 ++ [(IntKind.i64.wrap (least + y2))])))]⟩) ?_
          try simp only [thenL, blockL, ↓reduceIte, reduceCtorEq]
          exact ⟨((IntKind.i64.wrap (i - (1 : Int))), y3.L, y3.At, (w1 ++ [(IntKind.i64.wrap (least + y2))])), (Option.some.inj H1).symm, imp_au⟩
        · intro b_4
          replace H1 := cneg H1 b_4
          refine lok_exit ?_
          try simp only [thenL, blockL, ↓reduceIte, reduceCtorEq]
          have e_1 := k_1 _ (Option.some.inj H1).symm
          subst e_1
          try dsimp only at H0
          try simp only [thenL, blockL, ↓reduceIte, reduceCtorEq]
          exact ⟨(d3, d4, w1), H0, imp_au⟩
  case hxmark_Dice_Distribution_j3 =>
    refine lok_rt E0 (⟨31, mkS [(0, .x (.one (.ptr 0 0))), (1, .x (.one (.p (pi n)))), (6, .x (.one (.ptr 106 0))), (7, .x (.one (.ptr 107 0))), (8, .x (.one (.p (pi (0 : Int))))), (10, .x (.one (.p (.val (.bool full)))))], mkH [(0, .var [.p (.sl 1 (List.map encI d.L)), .p (pi d.At)]), (106, .var [.p .nil]), (107, .var [.p .nil])]⟩) ?_
    refine lok_c full ?_ ?_
    · intro b_5
      replace H0 := cpos H0 b_5
      refine lok_rl E0 (⟨31, mkS [(0, .x (.one (.ptr 0 0))), (1, .x (.one (.p (pi n)))), (6, .x (.one (.ptr 106 0))), (7, .x (.one (.ptr 107 0))), (8, .x (.one (.p (pi (1 : Int)))))], mkH [(0, .var [.p (.sl 1 (List.map encI d.L)), .p (pi d.At)]), (106, .var [.p .nil]), (107, .var [.p .nil])]⟩) ?_
      try simp only [thenL, blockL, ↓reduceIte, reduceCtorEq]
      exact ⟨(1 : Int), H0, imp_au⟩
    · intro b_5
      replace H0 := cneg H0 b_5
      refine lok_skip ?_
      try simp only [thenL, blockL, ↓reduceIte, reduceCtorEq]
      exact ⟨(0 : Int), H0, imp_au⟩
theorem ok_mark_Dice_Bounds (d : mark_Dice) (most : Int) (r_ : (List Int) × mark_Dice) (H0 : mark_Dice_Bounds d most = some r_) : CallOK Try.prog 12 [.one (.ptr 0 0), .one (.p (pi most))] [.var [.p (.sl 1 (List.map encI d.L)), .p (pi d.At)]] [.one (.p (.sl 1 (List.map encI r_.1)))] [some (.var [.p (.sl 1 (List.map encI r_.2.L)), .p (pi r_.2.At)])] := by
  refine callOK (n := 29) (rs := [.tmp 4]) (nb := 1) (V := [0]) Try.func12 rfl (by kernel_rfl) rfl rfl rfl rfl (Nat.le_of_ble_eq_true rfl) rfl (by decide) ?_
  unfold mark_Dice_Bounds at H0
  refine lok_rt E0 (⟨29, mkS [(0, .x (.one (.ptr 0 0))), (1, .x (.one (.p (pi most))))], mkH [(0, .var [.p (.sl 1 (List.map encI d.L)), .p (pi d.At)])]⟩) ?_
  refine lok_rt E0 (⟨29, mkS [(0, .x (.one (.ptr 0 0))), (1, .x (.one (.p (pi most)))), (5, .x (.one (.vw 105)))], mkH [(0, .var [.p (.sl 1 (List.map encI d.L)), .p (pi d.At)]), (105, .arr 1 (List.map encI ([] : List Int)))]⟩) ?_
  refine lok_rt E0 (⟨29, mkS [(0, .x (.one (.ptr 0 0))), (5, .x (.one (.vw 105))), (6, .x (.one (.p (pi (IntKind.i64.wrap (most + (1 : Int)))))))], mkH [(0, .var [.p (.sl 1 (List.map encI d.L)), .p (pi d.At)]), (105, .arr 1 (List.map encI ([] : List Int)))]⟩) ?_
  refine lok_join (fun x_ : (List Int) × Int × (List Int) => mark_Dice_Bounds_j1 x_.1 x_.2.1 x_.2.2 = some r_) (fun x_ => ⟨29, mkS [(5, .x (.one (.vw 105)))], mkH [(0, .var [.p (.sl 1 (List.map encI x_.1)), .p (pi x_.2.1)]), (105, .arr 1 (List.map encI x_.2.2))]⟩) ?hymark_Dice_Bounds_j1 ?hxmark_Dice_Bounds_j1
  case hymark_Dice_Bounds_j1 =>
    rintro ⟨d1, d2, out⟩ H0
    try dsimp only at H0 ⊢
    unfold mark_Dice_Bounds_j1 at H0
    refine lok_rt E0 (⟨29, mkS [(4, .x (.one (.vw 105)))], mkH [(0, .var [.p (.sl 1 (List.map encI d1)), .p (pi d2)]), (105, .arr 1 (List.map encI out))]⟩) ?_
    refine lok_ret ?_
    obtain rfl := Option.some.inj H0
    try simp only [thenL, blockL]
    exact fin_au _ (.inr rfl) [0] (⟨29, mkS [(4, .x (.one (.p (.sl 1 (List.map encI out)))))], mkH [(0, .var [.p (.sl 1 (List.map encI d1)), .p (pi d2)])]⟩) rfl rfl (Imp.trans (imp_frz 105 1 (List.map encI out)) imp_au)
  case hxmark_Dice_Bounds_j1 =>
    replace H0 := bind_some H0
    obtain ⟨⟨y, y1⟩, h_0, H0⟩ := H0
    try dsimp only at H0
    refine lok_rt (Env.of E0 [⟨some 11, 29, [.one (.ptr 0 0), .one (.p (pi (4 : Int)))], [.var [.p (.sl 1 (List.map encI d.L)), .p (pi d.At)]], [.one (.p (pi y))], [some (.var [.p (.sl 1 (List.map encI y1.L)), .p (pi y1.At)])], True, fun _ => ok_mark_Dice_Next d (4 : Int) (y, y1) h_0⟩]) (⟨29, mkS [(0, .x (.one (.ptr 0 0))), (5, .x (.one (.vw 105))), (6, .x (.one (.p (pi (IntKind.i64.wrap (most + (1 : Int))))))), (7, .x (.one (.p (pi (IntKind.i64.wrap ((1 : Int) + y))))))], mkH [(0, .var [.p (.sl 1 (List.map encI y1.L)), .p (pi y1.At)]), (105, .arr 1 (List.map encI ([] : List Int)))]⟩) ?_
    refine lok_block ?_
    replace H0 := bind_some H0
    obtain ⟨v_1, hv_1, H0⟩ := H0
    refine lok_iter (fun x_ => ⟨29, mkS [(0, .x (.one (.ptr 0 0))), (5, .x (.one (.vw 105))), (6, .x (.one (.p (pi x_.1)))), (7, .x (.one (.p (pi x_.2.1))))], mkH [(0, .var [.p (.sl 1 (List.map encI x_.2.2.1)), .p (pi x_.2.2.2.1)]), (105, .arr 1 (List.map encI x_.2.2.2.2))]⟩) hv_1 imp_au ?_
    · rintro ⟨b, i, d3, d4, out1⟩ o_1 H1 k_1
      unfold mark_Dice_Bounds_l2 at H1
      try dsimp only at H1 ⊢
      refine lok_seq ?_
      refine lok_rt E0 (⟨29, mkS [(0, .x (.one (.ptr 0 0))), (5, .x (.one (.vw 105))), (6, .x (.one (.p (pi b)))), (7, .x (.one (.p (pi i)))), (14, .x (.one (.p (.val (.bool (decide ((0 : Int) < i)))))))], mkH [(0, .var [.p (.sl 1 (List.map encI d3)), .p (pi d4)]), (105, .arr 1 (List.map encI out1))]⟩) ?_
      refine lok_c (decide ((0 : Int) < i)) ?_ ?_
      · intro b_4
        replace H1 := cpos H1 b_4
        refine lok_skip ?_
        try simp only [thenL, blockL, ↓reduceIte, reduceCtorEq]
        refine lok_seq ?_
        refine lok_block ?_
        replace H1 := bind_some H1
        obtain ⟨⟨y2, y3⟩, h_2, H1⟩ := H1
        try dsimp only at H1
        refine lok_rt (Env.of E0 [⟨some 22, 29, [.one (.ptr 0 0), .one (.p (pi (IntKind.i64.wrap ((IntKind.i64.wrap (Int.tdiv b (2 : Int))) + (1 : Int)))))], [.var [.p (.sl 1 (List.map encI d3)), .p (pi d4)]], [.one (.p (pi y2))], [some (.var [.p (.sl 1 (List.map encI y3.L)), .p (pi y3.At)])], True, fun _ => ok_mark_Dice_Next (mark_Dice.mk d3 d4) (IntKind.i64.wrap ((IntKind.i64.wrap (Int.tdiv b (2 : Int))) + (1 : Int))) (y2, y3) h_2⟩]) (⟨29, mkS [(0, .x (.one (.ptr 0 0))), (5, .x (.one (.vw 105))), (6, .x (.one (.p (pi (IntKind.i64.wrap (b - y2)))))), (7, .x (.one (.p (pi i))))], mkH [(0, .var [.p (.sl 1 (List.map encI y3.L)), .p (pi y3.At)]), (105, .arr 1 (List.map encI out1))]⟩) ?_
        replace H1 := req_some H1
        obtain ⟨q_3, H1⟩ := H1
        refine lok_rl E0 (⟨29, mkS [(0, .x (.one (.ptr 0 0))), (5, .x (.one (.vw 105))), (6, .x (.one (.p (pi (IntKind.i64.wrap (b - y2)))))), (7, .x (.one (.p (pi i))))], mkH [(0, .var [.p (.sl 1 (List.map encI y3.L)), .p (pi y3.At)]), (105, .arr 1 (List.map encI (out1 ++ [(IntKind.i64.wrap (b - y2))])))]⟩) ?_
        try simp only [thenL, blockL, ↓reduceIte, reduceCtorEq]
        refine lok_rl E0 (⟨29, mkS [(0, .x (.one (.ptr 0 0))), (5, .x (.one (.vw 105))), (6, .x (.one (.p (pi (IntKind.i64.wrap (b - y2)))))), (7, .x (.one (.p (pi (IntKind.i64.wrap (i - (1 : Int)))))))], mkH [(0, .var [.p (.sl 1 (List.map encI y3.L)), .p (pi y3.At)]), (105, .arr 1 (List.map encI (out1 ++ [(IntKind.i64.wrap (b - y2))])))]⟩) ?_
        try simp only [thenL, blockL, ↓reduceIte, reduceCtorEq]
        exact ⟨((IntKind.i64.wrap (b - y2)), (IntKind.i64.wrap (i - (1 : Int))), y3.L, y3.At, (out1 ++ [(IntKind.i64.wrap (b - y2))])), (Option.some.inj H1).symm, imp_au⟩
      · intro b_4
        replace H1 := cneg H1 b_4
        refine lok_exit ?_
        try simp only [thenL, blockL, ↓reduceIte, reduceCtorEq]
        have e_1 := k_1 _ (Option.some.inj H1).symm
        subst e_1
        try dsimp only at H0
        try simp only [thenL, blockL, ↓reduceIte, reduceCtorEq]
        exact ⟨(d3, d4, out1), H0, imp_au⟩
theorem ok_ref32_Valid (d : api_Distribution) (r_ : Bool) (H0 : ref32_Valid d = some r_) : CallOK Try.prog 39 [.agg [.p (.sl 1 (List.map encI d.Counts))]] [] [.one (.p (.val (.bool r_)))] [] := by
  refine callOK (n := 45) (rs := [.tmp 2]) (nb := 0) (V := []) Try.func39 rfl (by kernel_rfl) rfl rfl rfl rfl (Nat.le_of_ble_eq_true rfl) rfl (by decide) ?_
  unfold ref32_Valid at H0
  refine lok_rt E0 (⟨45, mkS [(1, .x (.one (.ptr 101 0)))], mkH [(101, .var [.p (.sl 1 (List.map encI d.Counts))])]⟩) ?_
  refine lok_seq ?_
  refine lok_rt E0 (⟨45, mkS [(1, .x (.one (.ptr 101 0))), (14, .x (.one (.p (.val (.bool ((decide ((d.Counts.length : Int) < (1 : Int))) || (decide ((201 : Int) < (d.Counts.length : Int)))))))))], mkH [(101, .var [.p (.sl 1 (List.map encI d.Counts))])]⟩) ?_
  refine lok_c ((decide ((d.Counts.length : Int) < (1 : Int))) || (decide ((201 : Int) < (d.Counts.length : Int)))) ?_ ?_
  · intro b_6
    replace H0 := cpos H0 b_6
    refine lok_rt E0 (⟨45, mkS [(2, .x (.one (.p (.val (.bool false)))))], mkH []⟩) ?_
    refine lok_ret ?_
    obtain rfl := Option.some.inj H0
    try simp only [thenL, blockL]
    exact fin_au _ (.inr rfl) [] (⟨45, mkS [(2, .x (.one (.p (.val (.bool false)))))], mkH []⟩) rfl rfl imp_au
  · intro b_6
    replace H0 := cneg H0 b_6
    refine lok_skip ?_
    try simp only [thenL, blockL, ↓reduceIte, reduceCtorEq]
    refine lok_rt E0 (⟨45, mkS [(1, .x (.one (.ptr 101 0))), (3, .x (.one (.p (pi (0 : Int)))))], mkH [(101, .var [.p (.sl 1 (List.map encI d.Counts))])]⟩) ?_
    refine lok_join (fun x_ : Unit => ref32_Valid_j1 = some r_) (fun x_ => ⟨45, mkS [], mkH []⟩) ?hyref32_Valid_j1 ?hxref32_Valid_j1
    case hyref32_Valid_j1 =>
      rintro _ H0
      try dsimp only at H0 ⊢
      unfold ref32_Valid_j1 at H0
      refine lok_rt E0 (⟨45, mkS [(2, .x (.one (.p (.val (.bool true)))))], mkH []⟩) ?_
      refine lok_ret ?_
      obtain rfl := Option.some.inj H0
      try simp only [thenL, blockL]
      exact fin_au _ (.inr rfl) [] (⟨45, mkS [(2, .x (.one (.p (.val (.bool true)))))], mkH []⟩) rfl rfl imp_au
    case hxref32_Valid_j1 =>
      refine lok_rt E0 (⟨45, mkS [(1, .x (.one (.ptr 101 0))), (3, .x (.one (.p (pi (0 : Int))))), (4, .x (.one (.p (pi (0 : Int)))))], mkH [(101, .var [.p (.sl 1 (List.map encI d.Counts))])]⟩) ?_
      refine lok_block ?_
      replace H0 := bind_some H0
      obtain ⟨v_0, hv_0, H0⟩ := H0
      refine lok_iter (fun x_ => ⟨45, mkS [(1, .x (.one (.ptr 101 0))), (3, .x (.one (.p (pi x_.1)))), (4, .x (.one (.p (pi x_.2))))], mkH [(101, .var [.p (.sl 1 (List.map encI d.Counts))])]⟩) hv_0 imp_au ?_
      · rintro ⟨n, i⟩ o_1 H1 k_1
        unfold ref32_Valid_l2 at H1
        try dsimp only at H1 ⊢
        refine lok_seq ?_
        refine lok_rt E0 (⟨45, mkS [(1, .x (.one (.ptr 101 0))), (3, .x (.one (.p (pi n)))), (4, .x (.one (.p (pi i)))), (19, .x (.one (.p (.val (.bool (decide (i < (d.Counts.length : Int))))))))], mkH [(101, .var [.p (.sl 1 (List.map encI d.Counts))])]⟩) ?_
        refine lok_c (decide (i < (d.Counts.length : Int))) ?_ ?_
        · intro b_5
          replace H1 := cpos H1 b_5
          refine lok_skip ?_
          try simp only [thenL, blockL, ↓reduceIte, reduceCtorEq]
          refine lok_seq ?_
          refine lok_block ?_
          refine lok_seq ?_
          replace H1 := req_some H1
          obtain ⟨⟨q_3, q_4⟩, H1⟩ := H1
          refine lok_rt E0 (⟨45, mkS [(1, .x (.one (.ptr 101 0))), (3, .x (.one (.p (pi n)))), (4, .x (.one (.p (pi i)))), (37, .x (.one (.p (.val (.bool ((decide ((ix d.Counts i) < (0 : Int))) || (decide ((IntKind.i64.wrap ((1048576 : Int) - n)) < (ix d.Counts i)))))))))], mkH [(101, .var [.p (.sl 1 (List.map encI d.Counts))])]⟩) ?_
          refine lok_c ((decide ((ix d.Counts i) < (0 : Int))) || (decide ((IntKind.i64.wrap ((1048576 : Int) - n)) < (ix d.Counts i)))) ?_ ?_
          · intro b_2
            replace H1 := cpos H1 b_2
            refine lok_rt E0 (⟨45, mkS [(2, .x (.one (.p (.val (.bool false)))))], mkH []⟩) ?_
            refine lok_ret ?_
            try simp only [thenL, blockL, ↓reduceIte, reduceCtorEq]
            have e_1 := k_1 _ (Option.some.inj H1).symm
            subst e_1
            try dsimp only at H0
            obtain rfl := Option.some.inj H0
            try simp only [thenL, blockL]
            exact fin_au _ (.inr rfl) [] (⟨45, mkS [(2, .x (.one (.p (.val (.bool false)))))], mkH []⟩) rfl rfl imp_au
          · intro b_2
            replace H1 := cneg H1 b_2
            refine lok_skip ?_
            try simp only [thenL, blockL, ↓reduceIte, reduceCtorEq]
            replace H1 := req_some H1
            obtain ⟨q_1, H1⟩ := H1
            refine lok_rl E0 (⟨45, mkS [(1, .x (.one (.ptr 101 0))), (3, .x (.one (.p (pi (IntKind.i64.wrap (n + (ix d.Counts i))))))), (4, .x (.one (.p (pi i))))], mkH [(101, .var [.p (.sl 1 (List.map encI d.Counts))])]⟩) ?_
            try simp only [thenL, blockL, ↓reduceIte, reduceCtorEq]
            refine lok_rl E0 (⟨45, mkS [(1, .x (.one (.ptr 101 0))), (3, .x (.one (.p (pi (IntKind.i64.wrap (n + (ix d.Counts i))))))), (4, .x (.one (.p (pi (IntKind.i64.wrap (i + (1 : Int)))))))], mkH [(101, .var [.p (.sl 1 (List.map encI d.Counts))])]⟩) ?_
            try simp only [thenL, blockL, ↓reduceIte, reduceCtorEq]
            exact ⟨((IntKind.i64.wrap (n + (ix d.Counts i))), (IntKind.i64.wrap (i + (1 : Int)))), (Option.some.inj H1).symm, imp_au⟩
        · intro b_5
          replace H1 := cneg H1 b_5
          refine lok_exit ?_
          try simp only [thenL, blockL, ↓reduceIte, reduceCtorEq]
          have e_1 := k_1 _ (Option.some.inj H1).symm
          subst e_1
          try dsimp only at H0
          try simp only [thenL, blockL, ↓reduceIte, reduceCtorEq]
          exact ⟨(), H0, imp_au⟩
theorem ok_ref32_Below (d : api_Distribution) (score : Int) (r_ : Int) (H0 : ref32_Below d score = some r_) : CallOK Try.prog 22 [.agg [.p (.sl 1 (List.map encI d.Counts))], .one (.p (pi score))] [] [.one (.p (pi r_))] [] := by
  refine callOK (n := 31) (rs := [.tmp 4]) (nb := 0) (V := []) Try.func22 rfl (by kernel_rfl) rfl rfl rfl rfl (Nat.le_of_ble_eq_true rfl) rfl (by decide) ?_
  unfold ref32_Below at H0
  refine lok_rt E0 (⟨31, mkS [(1, .x (.one (.p (pi score)))), (2, .x (.one (.ptr 102 0)))], mkH [(102, .var [.p (.sl 1 (List.map encI d.Counts))])]⟩) ?_
  refine lok_rt E0 (⟨31, mkS [(1, .x (.one (.p (pi score)))), (2, .x (.one (.ptr 102 0))), (5, .x (.one (.p (pi (0 : Int)))))], mkH [(102, .var [.p (.sl 1 (List.map encI d.Counts))])]⟩) ?_
  refine lok_join (fun x_ : Int => ref32_Below_j1 x_ = some r_) (fun x_ => ⟨31, mkS [(5, .x (.one (.p (pi x_))))], mkH []⟩) ?hyref32_Below_j1 ?hxref32_Below_j1
  case hyref32_Below_j1 =>
    rintro n H0
    try dsimp only at H0 ⊢
    unfold ref32_Below_j1 at H0
    refine lok_rt E0 (⟨31, mkS [(4, .x (.one (.p (pi n))))], mkH []⟩) ?_
    refine lok_ret ?_
    obtain rfl := Option.some.inj H0
    try simp only [thenL, blockL]
    exact fin_au _ (.inr rfl) [] (⟨31, mkS [(4, .x (.one (.p (pi n))))], mkH []⟩) rfl rfl imp_au
  case hxref32_Below_j1 =>
    refine lok_rt E0 (⟨31, mkS [(1, .x (.one (.p (pi score)))), (2, .x (.one (.ptr 102 0))), (5, .x (.one (.p (pi (0 : Int))))), (6, .x (.one (.p (pi (0 : Int)))))], mkH [(102, .var [.p (.sl 1 (List.map encI d.Counts))])]⟩) ?_
    refine lok_block ?_
    replace H0 := bind_some H0
    obtain ⟨v_0, hv_0, H0⟩ := H0
    refine lok_iter (fun x_ => ⟨31, mkS [(1, .x (.one (.p (pi score)))), (2, .x (.one (.ptr 102 0))), (5, .x (.one (.p (pi x_.1)))), (6, .x (.one (.p (pi x_.2))))], mkH [(102, .var [.p (.sl 1 (List.map encI d.Counts))])]⟩) hv_0 imp_au ?_
    · rintro ⟨n1, i⟩ o_1 H1 k_1
      unfold ref32_Below_l2 at H1
      try dsimp only at H1 ⊢
      refine lok_seq ?_
      replace H1 := req_some H1
      obtain ⟨q_3, H1⟩ := H1
      refine lok_rt (Env.of E0 [⟨some 19, 39, [.agg [.p (.sl 1 (List.map encI d.Counts))]], [], [.one (.p (.val (.bool ((ref32_Valid d).getD default))))], [], (ref32_Valid d).isSome = true, fun h => ok_ref32_Valid d _ (isSome_get h)⟩]) (⟨31, mkS [(1, .x (.one (.p (pi score)))), (2, .x (.one (.ptr 102 0))), (5, .x (.one (.p (pi n1)))), (6, .x (.one (.p (pi i)))), (20, .x (.one (.p (.val (.bool (((decide (i < (d.Counts.length : Int))) && (decide (i < score))) && ((ref32_Valid d).getD default)))))))], mkH [(102, .var [.p (.sl 1 (List.map encI d.Counts))])]⟩) ?_
      refine lok_c (((decide (i < (d.Counts.length : Int))) && (decide (i < score))) && ((ref32_Valid d).getD default)) ?_ ?_
      · intro b_2
        replace H1 := cpos H1 b_2
        refine lok_skip ?_
        try simp only [thenL, blockL, ↓reduceIte, reduceCtorEq]
        refine lok_seq ?_
        refine lok_block ?_
        replace H1 := req_some H1
        obtain ⟨q_1, H1⟩ := H1
        refine lok_rl E0 (⟨31, mkS [(1, .x (.one (.p (pi score)))), (2, .x (.one (.ptr 102 0))), (5, .x (.one (.p (pi (IntKind.i64.wrap (n1 + (ix d.Counts i))))))), (6, .x (.one (.p (pi i))))], mkH [(102, .var [.p (.sl 1 (List.map encI d.Counts))])]⟩) ?_
        try simp only [thenL, blockL, ↓reduceIte, reduceCtorEq]
        refine lok_rl E0 (⟨31, mkS [(1, .x (.one (.p (pi score)))), (2, .x (.one (.ptr 102 0))), (5, .x (.one (.p (pi (IntKind.i64.wrap (n1 + (ix d.Counts i))))))), (6, .x (.one (.p (pi (IntKind.i64.wrap (i + (1 : Int)))))))], mkH [(102, .var [.p (.sl 1 (List.map encI d.Counts))])]⟩) ?_
        try simp only [thenL, blockL, ↓reduceIte, reduceCtorEq]
        exact ⟨((IntKind.i64.wrap (n1 + (ix d.Counts i))), (IntKind.i64.wrap (i + (1 : Int)))), (Option.some.inj H1).symm, imp_au⟩
      · intro b_2
        replace H1 := cneg H1 b_2
        refine lok_exit ?_
        try simp only [thenL, blockL, ↓reduceIte, reduceCtorEq]
        have e_1 := k_1 _ (Option.some.inj H1).symm
        subst e_1
        try dsimp only at H0
        try simp only [thenL, blockL, ↓reduceIte, reduceCtorEq]
        exact ⟨n1, H0, imp_au⟩
end Go.LS
