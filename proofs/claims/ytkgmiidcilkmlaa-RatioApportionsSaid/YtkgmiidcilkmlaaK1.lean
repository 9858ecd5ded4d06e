/-
  The walks: the functions compute what the plain ones say. Condition: the plain function has a value.
-/
import Derived.Test.YtkgmiidcilkmlaaK0
import Derived.Test.YtkgmiidcilkmlaaD1
namespace Go.LS
open Go.Proofs
set_option linter.all false
set_option linter.unusedSimpArgs false
set_option linter.unusedVariables false
set_option maxRecDepth 20000

theorem ok_cmp_isNaN_int (x : Int) (r_ : Bool) (H0 : cmp_isNaN_int x = some r_) : CallOK Try.prog 13 [.one (.p (pi x))] [] [.one (.p (.val (.bool r_)))] [] := by
  refine callOK (n := 6) (rs := [.tmp 2]) (nb := 0) (V := []) Try.func13 rfl (by kernel_rfl) rfl rfl rfl rfl (Nat.le_of_ble_eq_true rfl) (by decide) ?_
  unfold cmp_isNaN_int at H0
  refine lok_rt E0 (⟨6, mkS [(0, .x (.one (.p (pi x))))], mkH []⟩) ?_
  refine lok_rt E0 (⟨6, mkS [(2, .x (.one (.p (.val (.bool (x != x))))))], mkH []⟩) ?_
  refine lok_ret ?_
  try obtain rfl := Option.some.inj H0
  try simp only [thenL, blockL]
  exact fin_au _ (.inr rfl) [] (⟨6, mkS [(2, .x (.one (.p (.val (.bool (x != x))))))], mkH []⟩) rfl rfl imp_au
theorem ok_cmp_Compare_int (x : Int) (y : Int) (r_ : Int) (H0 : cmp_Compare_int x y = some r_) : CallOK Try.prog 10 [.one (.p (pi x)), .one (.p (pi y))] [] [.one (.p (pi r_))] [] := by
  refine callOK (n := 20) (rs := [.tmp 4]) (nb := 0) (V := []) Try.func10 rfl (by kernel_rfl) rfl rfl rfl rfl (Nat.le_of_ble_eq_true rfl) (by decide) ?_
  unfold cmp_Compare_int at H0
  refine lok_rt E0 (⟨20, mkS [(0, .x (.one (.p (pi x)))), (1, .x (.one (.p (pi y))))], mkH []⟩) ?_
  replace H0 := bind_some H0
  obtain ⟨y1, h_0, H0⟩ := H0
  refine lok_rt (Env.of E0 [⟨some 8, 13, [.one (.p (pi x))], [], [.one (.p (.val (.bool y1)))], [], True, fun _ => ok_cmp_isNaN_int x y1 h_0, []⟩]) (⟨20, mkS [(0, .x (.one (.p (pi x)))), (1, .x (.one (.p (pi y)))), (5, .x (.one (.p (.val (.bool y1)))))], mkH []⟩) ?_
  replace H0 := bind_some H0
  obtain ⟨y2, h_1, H0⟩ := H0
  refine lok_rt (Env.of E0 [⟨some 10, 13, [.one (.p (pi y))], [], [.one (.p (.val (.bool y2)))], [], True, fun _ => ok_cmp_isNaN_int y y2 h_1, []⟩]) (⟨20, mkS [(0, .x (.one (.p (pi x)))), (1, .x (.one (.p (pi y)))), (5, .x (.one (.p (.val (.bool y1))))), (6, .x (.one (.p (.val (.bool y2)))))], mkH []⟩) ?_
  refine lok_seq ?_
  refine lok_rt E0 (⟨20, mkS [(0, .x (.one (.p (pi x)))), (1, .x (.one (.p (pi y)))), (6, .x (.one (.p (.val (.bool y2))))), (11, .x (.one (.p (.val (.bool y1)))))], mkH []⟩) ?_
  refine lok_c y1 ?_ ?_
  · intro b_6
    replace H0 := cpos H0 b_6
    refine lok_seq ?_
    refine lok_rt E0 (⟨20, mkS [(12, .x (.one (.p (.val (.bool y2)))))], mkH []⟩) ?_
    refine lok_c y2 ?_ ?_
    · intro b_2
      replace H0 := cpos H0 b_2
      refine lok_rt E0 (⟨20, mkS [(4, .x (.one (.p (pi (0 : Int)))))], mkH []⟩) ?_
      refine lok_ret ?_
      try obtain rfl := Option.some.inj H0
      try simp only [thenL, blockL]
      exact fin_au _ (.inr rfl) [] (⟨20, mkS [(4, .x (.one (.p (pi (0 : Int)))))], mkH []⟩) rfl rfl imp_au
    · intro b_2
      replace H0 := cneg H0 b_2
      refine lok_skip ?_
      try simp only [thenL, blockL, ↓reduceIte, reduceCtorEq]
      refine lok_rt E0 (⟨20, mkS [(4, .x (.one (.p (pi (-1 : Int)))))], mkH []⟩) ?_
      refine lok_ret ?_
      try obtain rfl := Option.some.inj H0
      try simp only [thenL, blockL]
      exact fin_au _ (.inr rfl) [] (⟨20, mkS [(4, .x (.one (.p (pi (-1 : Int)))))], mkH []⟩) rfl rfl imp_au
  · intro b_6
    replace H0 := cneg H0 b_6
    refine lok_skip ?_
    try simp only [thenL, blockL, ↓reduceIte, reduceCtorEq]
    refine lok_seq ?_
    refine lok_rt E0 (⟨20, mkS [(0, .x (.one (.p (pi x)))), (1, .x (.one (.p (pi y)))), (13, .x (.one (.p (.val (.bool y2)))))], mkH []⟩) ?_
    refine lok_c y2 ?_ ?_
    · intro b_5
      replace H0 := cpos H0 b_5
      refine lok_rt E0 (⟨20, mkS [(4, .x (.one (.p (pi (1 : Int)))))], mkH []⟩) ?_
      refine lok_ret ?_
      try obtain rfl := Option.some.inj H0
      try simp only [thenL, blockL]
      exact fin_au _ (.inr rfl) [] (⟨20, mkS [(4, .x (.one (.p (pi (1 : Int)))))], mkH []⟩) rfl rfl imp_au
    · intro b_5
      replace H0 := cneg H0 b_5
      refine lok_skip ?_
      try simp only [thenL, blockL, ↓reduceIte, reduceCtorEq]
      refine lok_seq ?_
      refine lok_rt E0 (⟨20, mkS [(0, .x (.one (.p (pi x)))), (1, .x (.one (.p (pi y)))), (16, .x (.one (.p (.val (.bool (decide (x < y)))))))], mkH []⟩) ?_
      refine lok_c (decide (x < y)) ?_ ?_
      · intro b_4
        replace H0 := cpos H0 b_4
        refine lok_rt E0 (⟨20, mkS [(4, .x (.one (.p (pi (-1 : Int)))))], mkH []⟩) ?_
        refine lok_ret ?_
        try obtain rfl := Option.some.inj H0
        try simp only [thenL, blockL]
        exact fin_au _ (.inr rfl) [] (⟨20, mkS [(4, .x (.one (.p (pi (-1 : Int)))))], mkH []⟩) rfl rfl imp_au
      · intro b_4
        replace H0 := cneg H0 b_4
        refine lok_skip ?_
        try simp only [thenL, blockL, ↓reduceIte, reduceCtorEq]
        refine lok_seq ?_
        refine lok_rt E0 (⟨20, mkS [(19, .x (.one (.p (.val (.bool (decide (y < x)))))))], mkH []⟩) ?_
        refine lok_c (decide (y < x)) ?_ ?_
        · intro b_3
          replace H0 := cpos H0 b_3
          refine lok_rt E0 (⟨20, mkS [(4, .x (.one (.p (pi (1 : Int)))))], mkH []⟩) ?_
          refine lok_ret ?_
          try obtain rfl := Option.some.inj H0
          try simp only [thenL, blockL]
          exact fin_au _ (.inr rfl) [] (⟨20, mkS [(4, .x (.one (.p (pi (1 : Int)))))], mkH []⟩) rfl rfl imp_au
        · intro b_3
          replace H0 := cneg H0 b_3
          refine lok_skip ?_
          try simp only [thenL, blockL, ↓reduceIte, reduceCtorEq]
          refine lok_rt E0 (⟨20, mkS [(4, .x (.one (.p (pi (0 : Int)))))], mkH []⟩) ?_
          refine lok_ret ?_
          try obtain rfl := Option.some.inj H0
          try simp only [thenL, blockL]
          exact fin_au _ (.inr rfl) [] (⟨20, mkS [(4, .x (.one (.p (pi (0 : Int)))))], mkH []⟩) rfl rfl imp_au
theorem ok_ratio_Apportion_f1 (i : Int) (j : Int) (c : Int) (c_1 : List Int) (c_2 : Int) (r_ : Int) (H0 : ratio_Apportion_f1 i j c c_1 c_2 = some r_) : CallOK Try.prog 9 [.one (.p (pi i)), .one (.p (pi j)), .one (.ptr 0 0), .one (.ptr 1 0), .one (.ptr 2 0)] [.var [.p (pi c)], .var [.p (.sl 1 (List.map encI c_1))], .var [.p (pi c_2)]] [.one (.p (pi r_))] [some (.var [.p (pi c)]), some (.var [.p (.sl 1 (List.map encI c_1))]), some (.var [.p (pi c_2)])] := by
  refine callOK (n := 25) (rs := [.tmp 7]) (nb := 3) (V := [0, 1, 2]) Try.func9 rfl (by kernel_rfl) rfl rfl rfl rfl (Nat.le_of_ble_eq_true rfl) (by decide) ?_
  unfold ratio_Apportion_f1 at H0
  refine lok_rt E0 (⟨25, mkS [(0, .x (.one (.p (pi i)))), (1, .x (.one (.p (pi j)))), (2, .x (.one (.ptr 0 0))), (3, .x (.one (.ptr 1 0))), (4, .x (.one (.ptr 2 0)))], mkH [(0, .var [.p (pi c)]), (1, .var [.p (.sl 1 (List.map encI c_1))]), (2, .var [.p (pi c_2)])]⟩) ?_
  replace H0 := req_some H0
  obtain ⟨⟨q_1, q_2, q_3⟩, H0⟩ := H0
  replace H0 := bind_some H0
  obtain ⟨y, h_0, H0⟩ := H0
  refine lok_dt (Env.of E0 [⟨some 24, 10, [.one (.p (pi (Int.tmod (IntKind.i64.wrap (c * (ix c_1 j))) c_2))), .one (.p (pi (Int.tmod (IntKind.i64.wrap (c * (ix c_1 i))) c_2)))], [], [.one (.p (pi y))], [], True, fun _ => ok_cmp_Compare_int (Int.tmod (IntKind.i64.wrap (c * (ix c_1 j))) c_2) (Int.tmod (IntKind.i64.wrap (c * (ix c_1 i))) c_2) y h_0, []⟩]) 16 (⟨25, mkS [(7, .x (.one (.p (pi y))))], mkH [(0, .var [.p (pi c)]), (1, .var [.p (.sl 1 (List.map encI c_1))]), (2, .var [.p (pi c_2)])]⟩) (by kernel_rfl) (by kernel_rfl) ?_
  refine lok_ret ?_
  try obtain rfl := Option.some.inj H0
  try simp only [thenL, blockL]
  exact fin_au _ (.inr rfl) [0, 1, 2] (⟨25, mkS [(7, .x (.one (.p (pi y))))], mkH [(0, .var [.p (pi c)]), (1, .var [.p (.sl 1 (List.map encI c_1))]), (2, .var [.p (pi c_2)])]⟩) rfl rfl imp_au
set_option maxHeartbeats 4000000 in
theorem ok_slices_insertionSortCmpFunc_int_ratio_Apportion_f1 (data : List Int) (a : Int) (b : Int) (cmp_c : Int) (cmp_c_1 : List Int) (cmp_c_2 : Int) (r_ : (List Int)) (H0 : slices_insertionSortCmpFunc_int_ratio_Apportion_f1 data a b cmp_c cmp_c_1 cmp_c_2 = some r_) : CallOK Try.prog 16 [.one (.vw 0), .one (.p (pi a)), .one (.p (pi b)), .one (.fn 9 [1, 2, 3])] [.arr 1 (List.map encI data), .var [.p (pi cmp_c)], .var [.p (.sl 1 (List.map encI cmp_c_1))], .var [.p (pi cmp_c_2)]] [] [some (.arr 1 (List.map encI r_)), some (.var [.p (pi cmp_c)]), some (.var [.p (.sl 1 (List.map encI cmp_c_1))]), some (.var [.p (pi cmp_c_2)])] := by
  refine callOK (n := 53) (rs := []) (nb := 4) (V := [0, 1, 2, 3]) Try.func16 rfl (by kernel_rfl) rfl rfl rfl rfl (Nat.le_of_ble_eq_true rfl) (by decide) ?_
  unfold slices_insertionSortCmpFunc_int_ratio_Apportion_f1 at H0
  refine lok_rt E0 (⟨53, mkS [(0, .x (.one (.vw 0))), (1, .x (.one (.p (pi a)))), (2, .x (.one (.p (pi b)))), (3, .x (.one (.fn 9 [1, 2, 3]))), (8, .x (.one (.p (pi (IntKind.i64.wrap (a + (1 : Int)))))))], mkH [(0, .arr 1 (List.map encI data)), (1, .var [.p (pi cmp_c)]), (2, .var [.p (.sl 1 (List.map encI cmp_c_1))]), (3, .var [.p (pi cmp_c_2)])]⟩) ?_
  refine lok_block ?_
  replace H0 := bind_some H0
  obtain ⟨v_0, hv_0, H0⟩ := H0
  refine lok_iter (fun x_ => ⟨53, mkS [(0, .x (.one (.vw 0))), (1, .x (.one (.p (pi a)))), (2, .x (.one (.p (pi b)))), (3, .x (.one (.fn 9 [1, 2, 3]))), (8, .x (.one (.p (pi x_.1))))], mkH [(0, .arr 1 (List.map encI x_.2)), (1, .var [.p (pi cmp_c)]), (2, .var [.p (.sl 1 (List.map encI cmp_c_1))]), (3, .var [.p (pi cmp_c_2)])]⟩) hv_0 imp_au ?_
  · rintro ⟨i, data1⟩ o_1 H1 k_1
    unfold slices_insertionSortCmpFunc_int_ratio_Apportion_f1_l3 at H1
    try dsimp only at H1 ⊢
    refine lok_seq ?_
    refine lok_rt E0 (⟨53, mkS [(0, .x (.one (.vw 0))), (1, .x (.one (.p (pi a)))), (2, .x (.one (.p (pi b)))), (3, .x (.one (.fn 9 [1, 2, 3]))), (8, .x (.one (.p (pi i)))), (14, .x (.one (.p (.val (.bool (decide (i < b)))))))], mkH [(0, .arr 1 (List.map encI data1)), (1, .var [.p (pi cmp_c)]), (2, .var [.p (.sl 1 (List.map encI cmp_c_1))]), (3, .var [.p (pi cmp_c_2)])]⟩) ?_
    refine lok_c (decide (i < b)) ?_ ?_
    · intro b_6
      replace H1 := cpos H1 b_6
      refine lok_skip ?_
      try simp only [thenL, blockL, ↓reduceIte, reduceCtorEq]
      refine lok_join (fun x_ : (List Int) => slices_insertionSortCmpFunc_int_ratio_Apportion_f1_j1 i x_ = some o_1) (fun x_ => ⟨53, mkS [(0, .x (.one (.vw 0))), (1, .x (.one (.p (pi a)))), (2, .x (.one (.p (pi b)))), (3, .x (.one (.fn 9 [1, 2, 3]))), (8, .x (.one (.p (pi i))))], mkH [(0, .arr 1 (List.map encI x_)), (1, .var [.p (pi cmp_c)]), (2, .var [.p (.sl 1 (List.map encI cmp_c_1))]), (3, .var [.p (pi cmp_c_2)])]⟩) ?hyslices_insertionSortCmpFunc_int_ratio_Apportion_f1_j1 ?hxslices_insertionSortCmpFunc_int_ratio_Apportion_f1_j1
      case hyslices_insertionSortCmpFunc_int_ratio_Apportion_f1_j1 =>
        rintro data3 H1
        try dsimp only at H1 ⊢
        unfold slices_insertionSortCmpFunc_int_ratio_Apportion_f1_j1 at H1
        refine lok_rl E0 (⟨53, mkS [(0, .x (.one (.vw 0))), (1, .x (.one (.p (pi a)))), (2, .x (.one (.p (pi b)))), (3, .x (.one (.fn 9 [1, 2, 3]))), (8, .x (.one (.p (pi (IntKind.i64.wrap (i + (1 : Int)))))))], mkH [(0, .arr 1 (List.map encI data3)), (1, .var [.p (pi cmp_c)]), (2, .var [.p (.sl 1 (List.map encI cmp_c_1))]), (3, .var [.p (pi cmp_c_2)])]⟩) ?_
        try simp only [thenL, blockL, ↓reduceIte, reduceCtorEq]
        exact ⟨((IntKind.i64.wrap (i + (1 : Int))), data3), (Option.some.inj H1).symm, imp_au⟩
      case hxslices_insertionSortCmpFunc_int_ratio_Apportion_f1_j1 =>
        refine lok_block ?_
        refine lok_rt E0 (⟨53, mkS [(0, .x (.one (.vw 0))), (1, .x (.one (.p (pi a)))), (2, .x (.one (.p (pi b)))), (3, .x (.one (.fn 9 [1, 2, 3]))), (8, .x (.one (.p (pi i)))), (9, .x (.one (.p (pi i))))], mkH [(0, .arr 1 (List.map encI data1)), (1, .var [.p (pi cmp_c)]), (2, .var [.p (.sl 1 (List.map encI cmp_c_1))]), (3, .var [.p (pi cmp_c_2)])]⟩) ?_
        refine lok_block ?_
        replace H1 := bind_some H1
        obtain ⟨v_1, hv_1, H1⟩ := H1
        refine lok_iter (fun x_ => ⟨53, mkS [(0, .x (.one (.vw 0))), (1, .x (.one (.p (pi a)))), (2, .x (.one (.p (pi b)))), (3, .x (.one (.fn 9 [1, 2, 3]))), (8, .x (.one (.p (pi i)))), (9, .x (.one (.p (pi x_.1))))], mkH [(0, .arr 1 (List.map encI x_.2)), (1, .var [.p (pi cmp_c)]), (2, .var [.p (.sl 1 (List.map encI cmp_c_1))]), (3, .var [.p (pi cmp_c_2)])]⟩) hv_1 imp_au ?_
        · rintro ⟨j, data4⟩ o_2 H2 k_2
          unfold slices_insertionSortCmpFunc_int_ratio_Apportion_f1_l2 at H2
          try dsimp only at H2 ⊢
          refine lok_seq ?_
          replace H2 := req_some H2
          obtain ⟨⟨q1_3, q1_4⟩, H2⟩ := H2
          rcases bcases (decide (a < j)) with g_2_0 | g_2_0
          · replace H2 := cpos H2 g_2_0
            replace H2 := bind_some H2
            obtain ⟨y, h_2, H2⟩ := H2
            refine lok_dtg (Env.of E0 [⟨some 32, 9, [.one (.p (pi (ix data4 j))), .one (.p (pi (ix data4 (IntKind.i64.wrap (j - (1 : Int)))))), .one (.ptr 0 0), .one (.ptr 1 0), .one (.ptr 2 0)], [.var [.p (pi cmp_c)], .var [.p (.sl 1 (List.map encI cmp_c_1))], .var [.p (pi cmp_c_2)]], [.one (.p (pi y))], [some (.var [.p (pi cmp_c)]), some (.var [.p (.sl 1 (List.map encI cmp_c_1))]), some (.var [.p (pi cmp_c_2)])], True, fun _ => ok_ratio_Apportion_f1 (ix data4 j) (ix data4 (IntKind.i64.wrap (j - (1 : Int)))) cmp_c cmp_c_1 cmp_c_2 y h_2, []⟩]) 14 g_2_0 (⟨53, mkS [(0, .x (.one (.vw 0))), (1, .x (.one (.p (pi a)))), (2, .x (.one (.p (pi b)))), (3, .x (.one (.fn 9 [1, 2, 3]))), (8, .x (.one (.p (pi i)))), (9, .x (.one (.p (pi j)))), (32, .x (.one (.p (pi y)))), (34, .x (.one (.p (.val (.bool (decide (y < (0 : Int))))))))], mkH [(0, .arr 1 (List.map encI data4)), (1, .var [.p (pi cmp_c)]), (2, .var [.p (.sl 1 (List.map encI cmp_c_1))]), (3, .var [.p (pi cmp_c_2)])]⟩) (by kernel_rfl) (by kernel_rfl) ?_
            refine lok_c (decide (y < (0 : Int))) ?_ ?_
            · intro b_6
              replace H2 := cpos H2 b_6
              refine lok_skip ?_
              try simp only [thenL, blockL, ↓reduceIte, reduceCtorEq]
              refine lok_seq ?_
              refine lok_block ?_
              replace H2 := req_some H2
              obtain ⟨⟨q_4, q_5⟩, H2⟩ := H2
              replace H2 := bindV_some H2
              obtain ⟨data6, a_3, H2⟩ := H2
              refine lok_elg E0 53 [⟨[(0, .x (.one (.vw 0)))], [], [(37, .x (.one (.vw 0)))], [], none⟩,
      ⟨[(9, .x (.one (.p (pi j))))], [], [(38, .x (.one (.p (pi j))))], [], none⟩,
      ⟨[(0, .x (.one (.vw 0)))], [], [(39, .x (.one (.vw 0)))], [], none⟩,
      ⟨[(9, .x (.one (.p (pi j))))], [], [(40, .x (.one (.p (pi j))))], [], none⟩,
      ⟨[(40, .x (.one (.p (pi j))))], [], [(41, .x (.one (.p (pi (IntKind.i64.wrap (j - (1 : Int)))))))], [], none⟩,
      ⟨[(0, .x (.one (.vw 0)))], [], [(42, .x (.one (.vw 0)))], [], none⟩,
      ⟨[(9, .x (.one (.p (pi j))))], [], [(43, .x (.one (.p (pi j))))], [], none⟩,
      ⟨[(43, .x (.one (.p (pi j))))], [], [(44, .x (.one (.p (pi (IntKind.i64.wrap (j - (1 : Int)))))))], [], none⟩,
      ⟨[(42, .x (.one (.vw 0))), (44, .x (.one (.p (pi (IntKind.i64.wrap (j - (1 : Int)))))))], [(0, some (.arr 1 (List.map encI data4)))], [(45, .x (.one (.ap 0 ((IntKind.i64.wrap (j - (1 : Int))).toNat) 0)))], [], none⟩,
      ⟨[(45, .x (.one (.ap 0 ((IntKind.i64.wrap (j - (1 : Int))).toNat) 0)))], [(0, some (.arr 1 (List.map encI data4)))], [(46, .x (.one (.p (pi (ix data4 (IntKind.i64.wrap (j - (1 : Int))))))))], [], none⟩,
      ⟨[(0, .x (.one (.vw 0)))], [], [(47, .x (.one (.vw 0)))], [], none⟩,
      ⟨[(9, .x (.one (.p (pi j))))], [], [(48, .x (.one (.p (pi j))))], [], none⟩,
      ⟨[(47, .x (.one (.vw 0))), (48, .x (.one (.p (pi j))))], [(0, some (.arr 1 (List.map encI data4)))], [(49, .x (.one (.ap 0 (j.toNat) 0)))], [], none⟩,
      ⟨[(49, .x (.one (.ap 0 (j.toNat) 0)))], [(0, some (.arr 1 (List.map encI data4)))], [(50, .x (.one (.p (pi (ix data4 j)))))], [], none⟩,
      ⟨[(37, .x (.one (.vw 0))), (38, .x (.one (.p (pi j))))], [(0, some (.arr 1 (List.map encI data4)))], [(51, .x (.one (.ap 0 (j.toNat) 0)))], [], none⟩,
      ⟨[(46, .x (.one (.p (pi (ix data4 (IntKind.i64.wrap (j - (1 : Int)))))))), (51, .x (.one (.ap 0 (j.toNat) 0)))], [(0, some (.arr 1 (List.map encI data4)))], [], [(0, some (.arr 1 (List.map encI (setI data4 j (ix data4 (IntKind.i64.wrap (j - (1 : Int))))))))], none⟩] a_3 (⟨53, mkS [(0, .x (.one (.vw 0))), (1, .x (.one (.p (pi a)))), (2, .x (.one (.p (pi b)))), (3, .x (.one (.fn 9 [1, 2, 3]))), (8, .x (.one (.p (pi i)))), (9, .x (.one (.p (pi j)))), (32, .x (.one (.p (pi y))))], mkH [(0, .arr 1 (List.map encI data6)), (1, .var [.p (pi cmp_c)]), (2, .var [.p (.sl 1 (List.map encI cmp_c_1))]), (3, .var [.p (pi cmp_c_2)])]⟩) (by kernel_rfl) (by kernel_rfl) (by kernel_rfl) rfl rfl rfl ?_
              try simp only [thenL, blockL, ↓reduceIte, reduceCtorEq]
              refine lok_rl E0 (⟨53, mkS [(0, .x (.one (.vw 0))), (1, .x (.one (.p (pi a)))), (2, .x (.one (.p (pi b)))), (3, .x (.one (.fn 9 [1, 2, 3]))), (8, .x (.one (.p (pi i)))), (9, .x (.one (.p (pi (IntKind.i64.wrap (j - (1 : Int))))))), (32, .x (.one (.p (pi y))))], mkH [(0, .arr 1 (List.map encI data6)), (1, .var [.p (pi cmp_c)]), (2, .var [.p (.sl 1 (List.map encI cmp_c_1))]), (3, .var [.p (pi cmp_c_2)])]⟩) ?_
              try simp only [thenL, blockL, ↓reduceIte, reduceCtorEq]
              exact ⟨((IntKind.i64.wrap (j - (1 : Int))), data6), (Option.some.inj H2).symm, imp_au⟩
            · intro b_6
              replace H2 := cneg H2 b_6
              refine lok_exit ?_
              try simp only [thenL, blockL, ↓reduceIte, reduceCtorEq]
              have e_2 := k_2 _ (Option.some.inj H2).symm
              subst e_2
              try dsimp only at H1
              try simp only [thenL, blockL, ↓reduceIte, reduceCtorEq]
              exact ⟨data4, H1, imp_au⟩
          · replace H2 := cneg H2 g_2_0
            refine lok_dtg E0 14 g_2_0 (⟨53, mkS [(0, .x (.one (.vw 0))), (1, .x (.one (.p (pi a)))), (2, .x (.one (.p (pi b)))), (3, .x (.one (.fn 9 [1, 2, 3]))), (8, .x (.one (.p (pi i)))), (9, .x (.one (.p (pi j)))), (34, .x (.one (.p (.val (.bool false)))))], mkH [(0, .arr 1 (List.map encI data4)), (1, .var [.p (pi cmp_c)]), (2, .var [.p (.sl 1 (List.map encI cmp_c_1))]), (3, .var [.p (pi cmp_c_2)])]⟩) (by kernel_rfl) (by kernel_rfl) ?_
            refine lok_c false ?_ ?_
            · intro h; exact absurd h (by decide)
            · intro _
              refine lok_exit ?_
              try simp only [thenL, blockL, ↓reduceIte, reduceCtorEq]
              have e_2 := k_2 _ (Option.some.inj H2).symm
              subst e_2
              try dsimp only at H1
              try simp only [thenL, blockL, ↓reduceIte, reduceCtorEq]
              exact ⟨data4, H1, imp_au⟩
    · intro b_6
      replace H1 := cneg H1 b_6
      refine lok_exit ?_
      try simp only [thenL, blockL, ↓reduceIte, reduceCtorEq]
      have e_1 := k_1 _ (Option.some.inj H1).symm
      subst e_1
      try dsimp only at H0
      try obtain rfl := Option.some.inj H0
      try simp only [thenL, blockL]
      exact fin_au _ (.inl rfl) [0, 1, 2, 3] (⟨53, mkS [], mkH [(0, .arr 1 (List.map encI data1)), (1, .var [.p (pi cmp_c)]), (2, .var [.p (.sl 1 (List.map encI cmp_c_1))]), (3, .var [.p (pi cmp_c_2)])]⟩) rfl rfl imp_au
theorem ok_slices_swapRangeCmpFunc_int_ratio_Apportion_f1 (data : List Int) (a : Int) (b : Int) (n : Int) (cmp_c : Int) (cmp_c_1 : List Int) (cmp_c_2 : Int) (r_ : (List Int)) (H0 : slices_swapRangeCmpFunc_int_ratio_Apportion_f1 data a b n cmp_c cmp_c_1 cmp_c_2 = some r_) : CallOK Try.prog 25 [.one (.vw 0), .one (.p (pi a)), .one (.p (pi b)), .one (.p (pi n)), .one (.fn 9 [1, 2, 3])] [.arr 1 (List.map encI data), .var [.p (pi cmp_c)], .var [.p (.sl 1 (List.map encI cmp_c_1))], .var [.p (pi cmp_c_2)]] [] [some (.arr 1 (List.map encI r_)), some (.var [.p (pi cmp_c)]), some (.var [.p (.sl 1 (List.map encI cmp_c_1))]), some (.var [.p (pi cmp_c_2)])] := by
  refine callOK (n := 38) (rs := []) (nb := 4) (V := [0, 1, 2, 3]) Try.func25 rfl (by kernel_rfl) rfl rfl rfl rfl (Nat.le_of_ble_eq_true rfl) (by decide) ?_
  unfold slices_swapRangeCmpFunc_int_ratio_Apportion_f1 at H0
  refine lok_rt E0 (⟨38, mkS [(0, .x (.one (.vw 0))), (1, .x (.one (.p (pi a)))), (2, .x (.one (.p (pi b)))), (3, .x (.one (.p (pi n)))), (10, .x (.one (.p (pi (0 : Int)))))], mkH [(0, .arr 1 (List.map encI data)), (1, .var [.p (pi cmp_c)]), (2, .var [.p (.sl 1 (List.map encI cmp_c_1))]), (3, .var [.p (pi cmp_c_2)])]⟩) ?_
  refine lok_block ?_
  replace H0 := bind_some H0
  obtain ⟨v_0, hv_0, H0⟩ := H0
  refine lok_iter (fun x_ => ⟨38, mkS [(0, .x (.one (.vw 0))), (1, .x (.one (.p (pi a)))), (2, .x (.one (.p (pi b)))), (3, .x (.one (.p (pi n)))), (10, .x (.one (.p (pi x_.1))))], mkH [(0, .arr 1 (List.map encI x_.2)), (1, .var [.p (pi cmp_c)]), (2, .var [.p (.sl 1 (List.map encI cmp_c_1))]), (3, .var [.p (pi cmp_c_2)])]⟩) hv_0 imp_au ?_
  · rintro ⟨i, data1⟩ o_1 H1 k_1
    unfold slices_swapRangeCmpFunc_int_ratio_Apportion_f1_l1 at H1
    try dsimp only at H1 ⊢
    refine lok_seq ?_
    refine lok_rt E0 (⟨38, mkS [(0, .x (.one (.vw 0))), (1, .x (.one (.p (pi a)))), (2, .x (.one (.p (pi b)))), (3, .x (.one (.p (pi n)))), (10, .x (.one (.p (pi i)))), (13, .x (.one (.p (.val (.bool (decide (i < n)))))))], mkH [(0, .arr 1 (List.map encI data1)), (1, .var [.p (pi cmp_c)]), (2, .var [.p (.sl 1 (List.map encI cmp_c_1))]), (3, .var [.p (pi cmp_c_2)])]⟩) ?_
    refine lok_c (decide (i < n)) ?_ ?_
    · intro b_4
      replace H1 := cpos H1 b_4
      refine lok_skip ?_
      try simp only [thenL, blockL, ↓reduceIte, reduceCtorEq]
      refine lok_seq ?_
      refine lok_block ?_
      replace H1 := req_some H1
      obtain ⟨⟨q_2, q_3⟩, H1⟩ := H1
      replace H1 := bindV_some H1
      obtain ⟨data3, a_1, H1⟩ := H1
      refine lok_elg E0 38 [⟨[(0, .x (.one (.vw 0)))], [], [(16, .x (.one (.vw 0)))], [], none⟩,
      ⟨[(1, .x (.one (.p (pi a))))], [], [(17, .x (.one (.p (pi a))))], [], none⟩,
      ⟨[(10, .x (.one (.p (pi i))))], [], [(18, .x (.one (.p (pi i))))], [], none⟩,
      ⟨[(17, .x (.one (.p (pi a)))), (18, .x (.one (.p (pi i))))], [], [(19, .x (.one (.p (pi (IntKind.i64.wrap (a + i))))))], [], none⟩,
      ⟨[(0, .x (.one (.vw 0)))], [], [(20, .x (.one (.vw 0)))], [], none⟩,
      ⟨[(2, .x (.one (.p (pi b))))], [], [(21, .x (.one (.p (pi b))))], [], none⟩,
      ⟨[(10, .x (.one (.p (pi i))))], [], [(22, .x (.one (.p (pi i))))], [], none⟩,
      ⟨[(21, .x (.one (.p (pi b)))), (22, .x (.one (.p (pi i))))], [], [(23, .x (.one (.p (pi (IntKind.i64.wrap (b + i))))))], [], none⟩,
      ⟨[(0, .x (.one (.vw 0)))], [], [(24, .x (.one (.vw 0)))], [], none⟩,
      ⟨[(2, .x (.one (.p (pi b))))], [], [(25, .x (.one (.p (pi b))))], [], none⟩,
      ⟨[(10, .x (.one (.p (pi i))))], [], [(26, .x (.one (.p (pi i))))], [], none⟩,
      ⟨[(25, .x (.one (.p (pi b)))), (26, .x (.one (.p (pi i))))], [], [(27, .x (.one (.p (pi (IntKind.i64.wrap (b + i))))))], [], none⟩,
      ⟨[(24, .x (.one (.vw 0))), (27, .x (.one (.p (pi (IntKind.i64.wrap (b + i))))))], [(0, some (.arr 1 (List.map encI data1)))], [(28, .x (.one (.ap 0 ((IntKind.i64.wrap (b + i)).toNat) 0)))], [], none⟩,
      ⟨[(28, .x (.one (.ap 0 ((IntKind.i64.wrap (b + i)).toNat) 0)))], [(0, some (.arr 1 (List.map encI data1)))], [(29, .x (.one (.p (pi (ix data1 (IntKind.i64.wrap (b + i)))))))], [], none⟩,
      ⟨[(0, .x (.one (.vw 0)))], [], [(30, .x (.one (.vw 0)))], [], none⟩,
      ⟨[(1, .x (.one (.p (pi a))))], [], [(31, .x (.one (.p (pi a))))], [], none⟩,
      ⟨[(10, .x (.one (.p (pi i))))], [], [(32, .x (.one (.p (pi i))))], [], none⟩,
      ⟨[(31, .x (.one (.p (pi a)))), (32, .x (.one (.p (pi i))))], [], [(33, .x (.one (.p (pi (IntKind.i64.wrap (a + i))))))], [], none⟩,
      ⟨[(30, .x (.one (.vw 0))), (33, .x (.one (.p (pi (IntKind.i64.wrap (a + i))))))], [(0, some (.arr 1 (List.map encI data1)))], [(34, .x (.one (.ap 0 ((IntKind.i64.wrap (a + i)).toNat) 0)))], [], none⟩,
      ⟨[(34, .x (.one (.ap 0 ((IntKind.i64.wrap (a + i)).toNat) 0)))], [(0, some (.arr 1 (List.map encI data1)))], [(35, .x (.one (.p (pi (ix data1 (IntKind.i64.wrap (a + i)))))))], [], none⟩,
      ⟨[(16, .x (.one (.vw 0))), (19, .x (.one (.p (pi (IntKind.i64.wrap (a + i))))))], [(0, some (.arr 1 (List.map encI data1)))], [(36, .x (.one (.ap 0 ((IntKind.i64.wrap (a + i)).toNat) 0)))], [], none⟩,
      ⟨[(29, .x (.one (.p (pi (ix data1 (IntKind.i64.wrap (b + i))))))), (36, .x (.one (.ap 0 ((IntKind.i64.wrap (a + i)).toNat) 0)))], [(0, some (.arr 1 (List.map encI data1)))], [], [(0, some (.arr 1 (List.map encI (setI data1 (IntKind.i64.wrap (a + i)) (ix data1 (IntKind.i64.wrap (b + i)))))))], none⟩] a_1 (⟨38, mkS [(0, .x (.one (.vw 0))), (1, .x (.one (.p (pi a)))), (2, .x (.one (.p (pi b)))), (3, .x (.one (.p (pi n)))), (10, .x (.one (.p (pi i))))], mkH [(0, .arr 1 (List.map encI data3)), (1, .var [.p (pi cmp_c)]), (2, .var [.p (.sl 1 (List.map encI cmp_c_1))]), (3, .var [.p (pi cmp_c_2)])]⟩) (by kernel_rfl) (by kernel_rfl) (by kernel_rfl) rfl rfl rfl ?_
      try simp only [thenL, blockL, ↓reduceIte, reduceCtorEq]
      refine lok_rl E0 (⟨38, mkS [(0, .x (.one (.vw 0))), (1, .x (.one (.p (pi a)))), (2, .x (.one (.p (pi b)))), (3, .x (.one (.p (pi n)))), (10, .x (.one (.p (pi (IntKind.i64.wrap (i + (1 : Int)))))))], mkH [(0, .arr 1 (List.map encI data3)), (1, .var [.p (pi cmp_c)]), (2, .var [.p (.sl 1 (List.map encI cmp_c_1))]), (3, .var [.p (pi cmp_c_2)])]⟩) ?_
      try simp only [thenL, blockL, ↓reduceIte, reduceCtorEq]
      exact ⟨((IntKind.i64.wrap (i + (1 : Int))), data3), (Option.some.inj H1).symm, imp_au⟩
    · intro b_4
      replace H1 := cneg H1 b_4
      refine lok_exit ?_
      try simp only [thenL, blockL, ↓reduceIte, reduceCtorEq]
      have e_1 := k_1 _ (Option.some.inj H1).symm
      subst e_1
      try dsimp only at H0
      try obtain rfl := Option.some.inj H0
      try simp only [thenL, blockL]
      exact fin_au _ (.inl rfl) [0, 1, 2, 3] (⟨38, mkS [], mkH [(0, .arr 1 (List.map encI data1)), (1, .var [.p (pi cmp_c)]), (2, .var [.p (.sl 1 (List.map encI cmp_c_1))]), (3, .var [.p (pi cmp_c_2)])]⟩) rfl rfl imp_au
set_option maxHeartbeats 4000000 in
theorem ok_slices_rotateCmpFunc_int_ratio_Apportion_f1 (data : List Int) (a : Int) (m : Int) (b : Int) (cmp_c : Int) (cmp_c_1 : List Int) (cmp_c_2 : Int) (r_ : (List Int)) (H0 : slices_rotateCmpFunc_int_ratio_Apportion_f1 data a m b cmp_c cmp_c_1 cmp_c_2 = some r_) : CallOK Try.prog 22 [.one (.vw 0), .one (.p (pi a)), .one (.p (pi m)), .one (.p (pi b)), .one (.fn 9 [1, 2, 3])] [.arr 1 (List.map encI data), .var [.p (pi cmp_c)], .var [.p (.sl 1 (List.map encI cmp_c_1))], .var [.p (pi cmp_c_2)]] [] [some (.arr 1 (List.map encI r_)), some (.var [.p (pi cmp_c)]), some (.var [.p (.sl 1 (List.map encI cmp_c_1))]), some (.var [.p (pi cmp_c_2)])] := by
  refine callOK (n := 58) (rs := []) (nb := 4) (V := [0, 1, 2, 3]) Try.func22 rfl (by kernel_rfl) rfl rfl rfl rfl (Nat.le_of_ble_eq_true rfl) (by decide) ?_
  unfold slices_rotateCmpFunc_int_ratio_Apportion_f1 at H0
  refine lok_rt E0 (⟨58, mkS [(0, .x (.one (.vw 0))), (2, .x (.one (.p (pi m)))), (3, .x (.one (.p (pi b)))), (4, .x (.one (.fn 9 [1, 2, 3]))), (10, .x (.one (.p (pi (IntKind.i64.wrap (m - a))))))], mkH [(0, .arr 1 (List.map encI data)), (1, .var [.p (pi cmp_c)]), (2, .var [.p (.sl 1 (List.map encI cmp_c_1))]), (3, .var [.p (pi cmp_c_2)])]⟩) ?_
  refine lok_rt E0 (⟨58, mkS [(0, .x (.one (.vw 0))), (2, .x (.one (.p (pi m)))), (4, .x (.one (.fn 9 [1, 2, 3]))), (10, .x (.one (.p (pi (IntKind.i64.wrap (m - a)))))), (11, .x (.one (.p (pi (IntKind.i64.wrap (b - m))))))], mkH [(0, .arr 1 (List.map encI data)), (1, .var [.p (pi cmp_c)]), (2, .var [.p (.sl 1 (List.map encI cmp_c_1))]), (3, .var [.p (pi cmp_c_2)])]⟩) ?_
  refine lok_join (fun x_ : Int × (List Int) => slices_rotateCmpFunc_int_ratio_Apportion_f1_j1 m cmp_c cmp_c_1 cmp_c_2 x_.1 x_.2 = some r_) (fun x_ => ⟨58, mkS [(0, .x (.one (.vw 0))), (2, .x (.one (.p (pi m)))), (4, .x (.one (.fn 9 [1, 2, 3]))), (10, .x (.one (.p (pi x_.1))))], mkH [(0, .arr 1 (List.map encI x_.2)), (1, .var [.p (pi cmp_c)]), (2, .var [.p (.sl 1 (List.map encI cmp_c_1))]), (3, .var [.p (pi cmp_c_2)])]⟩) ?hyslices_rotateCmpFunc_int_ratio_Apportion_f1_j1 ?hxslices_rotateCmpFunc_int_ratio_Apportion_f1_j1
  case hyslices_rotateCmpFunc_int_ratio_Apportion_f1_j1 =>
    rintro ⟨i, data1⟩ H0
    try dsimp only at H0 ⊢
    unfold slices_rotateCmpFunc_int_ratio_Apportion_f1_j1 at H0
    replace H0 := bind_some H0
    obtain ⟨y, h_0, H0⟩ := H0
    replace H0 := req_some H0
    obtain ⟨q_1, H0⟩ := H0
    refine lok_rl (Env.of E0 [⟨some 57, 25, [.one (.vw 0), .one (.p (pi (IntKind.i64.wrap (m - i)))), .one (.p (pi m)), .one (.p (pi i)), .one (.fn 9 [1, 2, 3])], [.arr 1 (List.map encI data1), .var [.p (pi cmp_c)], .var [.p (.sl 1 (List.map encI cmp_c_1))], .var [.p (pi cmp_c_2)]], [], [some (.arr 1 (List.map encI y)), some (.var [.p (pi cmp_c)]), some (.var [.p (.sl 1 (List.map encI cmp_c_1))]), some (.var [.p (pi cmp_c_2)])], True, fun _ => ok_slices_swapRangeCmpFunc_int_ratio_Apportion_f1 data1 (IntKind.i64.wrap (m - i)) m i cmp_c cmp_c_1 cmp_c_2 y h_0, [true, false, false, false, false]⟩]) (⟨58, mkS [], mkH [(0, .arr 1 (List.map encI y)), (1, .var [.p (pi cmp_c)]), (2, .var [.p (.sl 1 (List.map encI cmp_c_1))]), (3, .var [.p (pi cmp_c_2)])]⟩) ?_
    try obtain rfl := Option.some.inj H0
    try simp only [thenL, blockL]
    exact fin_au _ (.inl rfl) [0, 1, 2, 3] (⟨58, mkS [], mkH [(0, .arr 1 (List.map encI y)), (1, .var [.p (pi cmp_c)]), (2, .var [.p (.sl 1 (List.map encI cmp_c_1))]), (3, .var [.p (pi cmp_c_2)])]⟩) rfl rfl imp_au
  case hxslices_rotateCmpFunc_int_ratio_Apportion_f1_j1 =>
    refine lok_block ?_
    replace H0 := bind_some H0
    obtain ⟨v_2, hv_2, H0⟩ := H0
    refine lok_iter (fun x_ => ⟨58, mkS [(0, .x (.one (.vw 0))), (2, .x (.one (.p (pi m)))), (4, .x (.one (.fn 9 [1, 2, 3]))), (10, .x (.one (.p (pi x_.1)))), (11, .x (.one (.p (pi x_.2.1))))], mkH [(0, .arr 1 (List.map encI x_.2.2)), (1, .var [.p (pi cmp_c)]), (2, .var [.p (.sl 1 (List.map encI cmp_c_1))]), (3, .var [.p (pi cmp_c_2)])]⟩) hv_2 imp_au ?_
    · rintro ⟨i1, j, data2⟩ o_1 H1 k_1
      unfold slices_rotateCmpFunc_int_ratio_Apportion_f1_l2 at H1
      try dsimp only at H1 ⊢
      refine lok_seq ?_
      refine lok_rt E0 (⟨58, mkS [(0, .x (.one (.vw 0))), (2, .x (.one (.p (pi m)))), (4, .x (.one (.fn 9 [1, 2, 3]))), (10, .x (.one (.p (pi i1)))), (11, .x (.one (.p (pi j)))), (20, .x (.one (.p (.val (.bool (i1 != j))))))], mkH [(0, .arr 1 (List.map encI data2)), (1, .var [.p (pi cmp_c)]), (2, .var [.p (.sl 1 (List.map encI cmp_c_1))]), (3, .var [.p (pi cmp_c_2)])]⟩) ?_
      refine lok_c (i1 != j) ?_ ?_
      · intro b_8
        replace H1 := cpos H1 b_8
        refine lok_skip ?_
        try simp only [thenL, blockL, ↓reduceIte, reduceCtorEq]
        refine lok_block ?_
        refine lok_rt E0 (⟨58, mkS [(0, .x (.one (.vw 0))), (2, .x (.one (.p (pi m)))), (4, .x (.one (.fn 9 [1, 2, 3]))), (10, .x (.one (.p (pi i1)))), (11, .x (.one (.p (pi j)))), (23, .x (.one (.p (.val (.bool (decide (j < i1)))))))], mkH [(0, .arr 1 (List.map encI data2)), (1, .var [.p (pi cmp_c)]), (2, .var [.p (.sl 1 (List.map encI cmp_c_1))]), (3, .var [.p (pi cmp_c_2)])]⟩) ?_
        refine lok_c (decide (j < i1)) ?_ ?_
        · intro b_7
          replace H1 := cpos H1 b_7
          replace H1 := bind_some H1
          obtain ⟨y1, h_3, H1⟩ := H1
          replace H1 := req_some H1
          obtain ⟨q_4, H1⟩ := H1
          refine lok_rt (Env.of E0 [⟨some 31, 25, [.one (.vw 0), .one (.p (pi (IntKind.i64.wrap (m - i1)))), .one (.p (pi m)), .one (.p (pi j)), .one (.fn 9 [1, 2, 3])], [.arr 1 (List.map encI data2), .var [.p (pi cmp_c)], .var [.p (.sl 1 (List.map encI cmp_c_1))], .var [.p (pi cmp_c_2)]], [], [some (.arr 1 (List.map encI y1)), some (.var [.p (pi cmp_c)]), some (.var [.p (.sl 1 (List.map encI cmp_c_1))]), some (.var [.p (pi cmp_c_2)])], True, fun _ => ok_slices_swapRangeCmpFunc_int_ratio_Apportion_f1 data2 (IntKind.i64.wrap (m - i1)) m j cmp_c cmp_c_1 cmp_c_2 y1 h_3, [true, false, false, false, false]⟩]) (⟨58, mkS [(0, .x (.one (.vw 0))), (2, .x (.one (.p (pi m)))), (4, .x (.one (.fn 9 [1, 2, 3]))), (10, .x (.one (.p (pi i1)))), (11, .x (.one (.p (pi j))))], mkH [(0, .arr 1 (List.map encI y1)), (1, .var [.p (pi cmp_c)]), (2, .var [.p (.sl 1 (List.map encI cmp_c_1))]), (3, .var [.p (pi cmp_c_2)])]⟩) ?_
          refine lok_rl E0 (⟨58, mkS [(0, .x (.one (.vw 0))), (2, .x (.one (.p (pi m)))), (4, .x (.one (.fn 9 [1, 2, 3]))), (10, .x (.one (.p (pi (IntKind.i64.wrap (i1 - j)))))), (11, .x (.one (.p (pi j))))], mkH [(0, .arr 1 (List.map encI y1)), (1, .var [.p (pi cmp_c)]), (2, .var [.p (.sl 1 (List.map encI cmp_c_1))]), (3, .var [.p (pi cmp_c_2)])]⟩) ?_
          try simp only [thenL, blockL, ↓reduceIte, reduceCtorEq]
          exact ⟨((IntKind.i64.wrap (i1 - j)), j, y1), (Option.some.inj H1).symm, imp_au⟩
        · intro b_7
          replace H1 := cneg H1 b_7
          replace H1 := bind_some H1
          obtain ⟨y2, h_5, H1⟩ := H1
          replace H1 := req_some H1
          obtain ⟨q_6, H1⟩ := H1
          refine lok_rt (Env.of E0 [⟨some 46, 25, [.one (.vw 0), .one (.p (pi (IntKind.i64.wrap (m - i1)))), .one (.p (pi (IntKind.i64.wrap ((IntKind.i64.wrap (m + j)) - i1)))), .one (.p (pi i1)), .one (.fn 9 [1, 2, 3])], [.arr 1 (List.map encI data2), .var [.p (pi cmp_c)], .var [.p (.sl 1 (List.map encI cmp_c_1))], .var [.p (pi cmp_c_2)]], [], [some (.arr 1 (List.map encI y2)), some (.var [.p (pi cmp_c)]), some (.var [.p (.sl 1 (List.map encI cmp_c_1))]), some (.var [.p (pi cmp_c_2)])], True, fun _ => ok_slices_swapRangeCmpFunc_int_ratio_Apportion_f1 data2 (IntKind.i64.wrap (m - i1)) (IntKind.i64.wrap ((IntKind.i64.wrap (m + j)) - i1)) i1 cmp_c cmp_c_1 cmp_c_2 y2 h_5, [true, false, false, false, false]⟩]) (⟨58, mkS [(0, .x (.one (.vw 0))), (2, .x (.one (.p (pi m)))), (4, .x (.one (.fn 9 [1, 2, 3]))), (10, .x (.one (.p (pi i1)))), (11, .x (.one (.p (pi j))))], mkH [(0, .arr 1 (List.map encI y2)), (1, .var [.p (pi cmp_c)]), (2, .var [.p (.sl 1 (List.map encI cmp_c_1))]), (3, .var [.p (pi cmp_c_2)])]⟩) ?_
          refine lok_rl E0 (⟨58, mkS [(0, .x (.one (.vw 0))), (2, .x (.one (.p (pi m)))), (4, .x (.one (.fn 9 [1, 2, 3]))), (10, .x (.one (.p (pi i1)))), (11, .x (.one (.p (pi (IntKind.i64.wrap (j - i1))))))], mkH [(0, .arr 1 (List.map encI y2)), (1, .var [.p (pi cmp_c)]), (2, .var [.p (.sl 1 (List.map encI cmp_c_1))]), (3, .var [.p (pi cmp_c_2)])]⟩) ?_
          try simp only [thenL, blockL, ↓reduceIte, reduceCtorEq]
          exact ⟨(i1, (IntKind.i64.wrap (j - i1)), y2), (Option.some.inj H1).symm, imp_au⟩
      · intro b_8
        replace H1 := cneg H1 b_8
        refine lok_exit ?_
        try simp only [thenL, blockL, ↓reduceIte, reduceCtorEq]
        have e_1 := k_1 _ (Option.some.inj H1).symm
        subst e_1
        try dsimp only at H0
        try simp only [thenL, blockL, ↓reduceIte, reduceCtorEq]
        exact ⟨(i1, data2), H0, imp_au⟩
set_option maxHeartbeats 4000000 in
theorem ok_slices_symMergeCmpFunc_int_ratio_Apportion_f1_b (rec_ : (List Int) → Int → Int → Int → Int → (List Int) → Int → Option (List Int)) (ih_ : ∀ (data : List Int) (a : Int) (m : Int) (b : Int) (cmp_c : Int) (cmp_c_1 : List Int) (cmp_c_2 : Int) (r_ : (List Int)), rec_ data a m b cmp_c cmp_c_1 cmp_c_2 = some r_ → CallOK Try.prog 17 [.one (.vw 0), .one (.p (pi a)), .one (.p (pi m)), .one (.p (pi b)), .one (.fn 9 [1, 2, 3])] [.arr 1 (List.map encI data), .var [.p (pi cmp_c)], .var [.p (.sl 1 (List.map encI cmp_c_1))], .var [.p (pi cmp_c_2)]] [] [some (.arr 1 (List.map encI r_)), some (.var [.p (pi cmp_c)]), some (.var [.p (.sl 1 (List.map encI cmp_c_1))]), some (.var [.p (pi cmp_c_2)])]) (data : List Int) (a : Int) (m : Int) (b : Int) (cmp_c : Int) (cmp_c_1 : List Int) (cmp_c_2 : Int) (r_ : (List Int)) (H0 : slices_symMergeCmpFunc_int_ratio_Apportion_f1_b rec_ data a m b cmp_c cmp_c_1 cmp_c_2 = some r_) : CallOK Try.prog 17 [.one (.vw 0), .one (.p (pi a)), .one (.p (pi m)), .one (.p (pi b)), .one (.fn 9 [1, 2, 3])] [.arr 1 (List.map encI data), .var [.p (pi cmp_c)], .var [.p (.sl 1 (List.map encI cmp_c_1))], .var [.p (pi cmp_c_2)]] [] [some (.arr 1 (List.map encI r_)), some (.var [.p (pi cmp_c)]), some (.var [.p (.sl 1 (List.map encI cmp_c_1))]), some (.var [.p (pi cmp_c_2)])] := by
  refine callOK (n := 220) (rs := []) (nb := 4) (V := [0, 1, 2, 3]) Try.func17 rfl (by kernel_rfl) rfl rfl rfl rfl (Nat.le_of_ble_eq_true rfl) (by decide) ?_
  unfold slices_symMergeCmpFunc_int_ratio_Apportion_f1_b at H0
  refine lok_join (fun x_ : Unit => slices_symMergeCmpFunc_int_ratio_Apportion_f1_j11 data a m b cmp_c cmp_c_1 cmp_c_2 rec_ = some r_) (fun x_ => ⟨220, mkS [(0, .x (.one (.vw 0))), (1, .x (.one (.p (pi a)))), (2, .x (.one (.p (pi m)))), (3, .x (.one (.p (pi b)))), (4, .x (.one (.fn 9 [1, 2, 3])))], mkH [(0, .arr 1 (List.map encI data)), (1, .var [.p (pi cmp_c)]), (2, .var [.p (.sl 1 (List.map encI cmp_c_1))]), (3, .var [.p (pi cmp_c_2)])]⟩) ?hyslices_symMergeCmpFunc_int_ratio_Apportion_f1_j11 ?hxslices_symMergeCmpFunc_int_ratio_Apportion_f1_j11
  case hyslices_symMergeCmpFunc_int_ratio_Apportion_f1_j11 =>
    rintro _ H0
    try dsimp only at H0 ⊢
    unfold slices_symMergeCmpFunc_int_ratio_Apportion_f1_j11 at H0
    refine lok_join (fun x_ : Unit => slices_symMergeCmpFunc_int_ratio_Apportion_f1_j6 data a m b cmp_c cmp_c_1 cmp_c_2 rec_ = some r_) (fun x_ => ⟨220, mkS [(0, .x (.one (.vw 0))), (1, .x (.one (.p (pi a)))), (2, .x (.one (.p (pi m)))), (3, .x (.one (.p (pi b)))), (4, .x (.one (.fn 9 [1, 2, 3])))], mkH [(0, .arr 1 (List.map encI data)), (1, .var [.p (pi cmp_c)]), (2, .var [.p (.sl 1 (List.map encI cmp_c_1))]), (3, .var [.p (pi cmp_c_2)])]⟩) ?hyslices_symMergeCmpFunc_int_ratio_Apportion_f1_j6 ?hxslices_symMergeCmpFunc_int_ratio_Apportion_f1_j6
    case hyslices_symMergeCmpFunc_int_ratio_Apportion_f1_j6 =>
      rintro _ H0
      try dsimp only at H0 ⊢
      unfold slices_symMergeCmpFunc_int_ratio_Apportion_f1_j6 at H0
      replace H0 := bindV_some H0
      obtain ⟨mid, a_0, H0⟩ := H0
      refine lok_rtg E0 a_0 (⟨220, mkS [(0, .x (.one (.vw 0))), (1, .x (.one (.p (pi a)))), (2, .x (.one (.p (pi m)))), (3, .x (.one (.p (pi b)))), (4, .x (.one (.fn 9 [1, 2, 3]))), (18, .x (.one (.p (pi mid))))], mkH [(0, .arr 1 (List.map encI data)), (1, .var [.p (pi cmp_c)]), (2, .var [.p (.sl 1 (List.map encI cmp_c_1))]), (3, .var [.p (pi cmp_c_2)])]⟩) ?_
      refine lok_rt E0 (⟨220, mkS [(0, .x (.one (.vw 0))), (1, .x (.one (.p (pi a)))), (2, .x (.one (.p (pi m)))), (3, .x (.one (.p (pi b)))), (4, .x (.one (.fn 9 [1, 2, 3]))), (18, .x (.one (.p (pi mid)))), (19, .x (.one (.p (pi (IntKind.i64.wrap (mid + m))))))], mkH [(0, .arr 1 (List.map encI data)), (1, .var [.p (pi cmp_c)]), (2, .var [.p (.sl 1 (List.map encI cmp_c_1))]), (3, .var [.p (pi cmp_c_2)])]⟩) ?_
      refine lok_rt E0 (⟨220, mkS [(0, .x (.one (.vw 0))), (1, .x (.one (.p (pi a)))), (2, .x (.one (.p (pi m)))), (3, .x (.one (.p (pi b)))), (4, .x (.one (.fn 9 [1, 2, 3]))), (18, .x (.one (.p (pi mid)))), (19, .x (.one (.p (pi (IntKind.i64.wrap (mid + m))))))], mkH [(0, .arr 1 (List.map encI data)), (1, .var [.p (pi cmp_c)]), (2, .var [.p (.sl 1 (List.map encI cmp_c_1))]), (3, .var [.p (pi cmp_c_2)])]⟩) ?_
      refine lok_join (fun x_ : Int × Int => slices_symMergeCmpFunc_int_ratio_Apportion_f1_j5 data a m b cmp_c cmp_c_1 cmp_c_2 rec_ mid x_.1 x_.2 = some r_) (fun x_ => ⟨220, mkS [(0, .x (.one (.vw 0))), (1, .x (.one (.p (pi a)))), (2, .x (.one (.p (pi m)))), (3, .x (.one (.p (pi b)))), (4, .x (.one (.fn 9 [1, 2, 3]))), (18, .x (.one (.p (pi mid)))), (19, .x (.one (.p (pi (IntKind.i64.wrap (mid + m)))))), (20, .x (.one (.p (pi x_.1)))), (21, .x (.one (.p (pi x_.2))))], mkH [(0, .arr 1 (List.map encI data)), (1, .var [.p (pi cmp_c)]), (2, .var [.p (.sl 1 (List.map encI cmp_c_1))]), (3, .var [.p (pi cmp_c_2)])]⟩) ?hyslices_symMergeCmpFunc_int_ratio_Apportion_f1_j5 ?hxslices_symMergeCmpFunc_int_ratio_Apportion_f1_j5
      case hyslices_symMergeCmpFunc_int_ratio_Apportion_f1_j5 =>
        rintro ⟨start, r⟩ H0
        try dsimp only at H0 ⊢
        unfold slices_symMergeCmpFunc_int_ratio_Apportion_f1_j5 at H0
        refine lok_rt E0 (⟨220, mkS [(0, .x (.one (.vw 0))), (1, .x (.one (.p (pi a)))), (2, .x (.one (.p (pi m)))), (3, .x (.one (.p (pi b)))), (4, .x (.one (.fn 9 [1, 2, 3]))), (18, .x (.one (.p (pi mid)))), (19, .x (.one (.p (pi (IntKind.i64.wrap (mid + m)))))), (20, .x (.one (.p (pi start)))), (21, .x (.one (.p (pi r)))), (22, .x (.one (.p (pi (IntKind.i64.wrap ((IntKind.i64.wrap (mid + m)) - (1 : Int)))))))], mkH [(0, .arr 1 (List.map encI data)), (1, .var [.p (pi cmp_c)]), (2, .var [.p (.sl 1 (List.map encI cmp_c_1))]), (3, .var [.p (pi cmp_c_2)])]⟩) ?_
        refine lok_join (fun x_ : Int => slices_symMergeCmpFunc_int_ratio_Apportion_f1_j3 data a m b cmp_c cmp_c_1 cmp_c_2 rec_ mid x_ = some r_) (fun x_ => ⟨220, mkS [(0, .x (.one (.vw 0))), (1, .x (.one (.p (pi a)))), (2, .x (.one (.p (pi m)))), (3, .x (.one (.p (pi b)))), (4, .x (.one (.fn 9 [1, 2, 3]))), (18, .x (.one (.p (pi mid)))), (19, .x (.one (.p (pi (IntKind.i64.wrap (mid + m)))))), (20, .x (.one (.p (pi x_))))], mkH [(0, .arr 1 (List.map encI data)), (1, .var [.p (pi cmp_c)]), (2, .var [.p (.sl 1 (List.map encI cmp_c_1))]), (3, .var [.p (pi cmp_c_2)])]⟩) ?hyslices_symMergeCmpFunc_int_ratio_Apportion_f1_j3 ?hxslices_symMergeCmpFunc_int_ratio_Apportion_f1_j3
        case hyslices_symMergeCmpFunc_int_ratio_Apportion_f1_j3 =>
          rintro start1 H0
          try dsimp only at H0 ⊢
          unfold slices_symMergeCmpFunc_int_ratio_Apportion_f1_j3 at H0
          refine lok_rt E0 (⟨220, mkS [(0, .x (.one (.vw 0))), (1, .x (.one (.p (pi a)))), (2, .x (.one (.p (pi m)))), (3, .x (.one (.p (pi b)))), (4, .x (.one (.fn 9 [1, 2, 3]))), (18, .x (.one (.p (pi mid)))), (20, .x (.one (.p (pi start1)))), (24, .x (.one (.p (pi (IntKind.i64.wrap ((IntKind.i64.wrap (mid + m)) - start1))))))], mkH [(0, .arr 1 (List.map encI data)), (1, .var [.p (pi cmp_c)]), (2, .var [.p (.sl 1 (List.map encI cmp_c_1))]), (3, .var [.p (pi cmp_c_2)])]⟩) ?_
          refine lok_join (fun x_ : (List Int) => slices_symMergeCmpFunc_int_ratio_Apportion_f1_j2 a m b cmp_c cmp_c_1 cmp_c_2 rec_ mid start1 x_ = some r_) (fun x_ => ⟨220, mkS [(0, .x (.one (.vw 0))), (1, .x (.one (.p (pi a)))), (3, .x (.one (.p (pi b)))), (4, .x (.one (.fn 9 [1, 2, 3]))), (18, .x (.one (.p (pi mid)))), (20, .x (.one (.p (pi start1)))), (24, .x (.one (.p (pi (IntKind.i64.wrap ((IntKind.i64.wrap (mid + m)) - start1))))))], mkH [(0, .arr 1 (List.map encI x_)), (1, .var [.p (pi cmp_c)]), (2, .var [.p (.sl 1 (List.map encI cmp_c_1))]), (3, .var [.p (pi cmp_c_2)])]⟩) ?hyslices_symMergeCmpFunc_int_ratio_Apportion_f1_j2 ?hxslices_symMergeCmpFunc_int_ratio_Apportion_f1_j2
          case hyslices_symMergeCmpFunc_int_ratio_Apportion_f1_j2 =>
            rintro data1 H0
            try dsimp only at H0 ⊢
            unfold slices_symMergeCmpFunc_int_ratio_Apportion_f1_j2 at H0
            refine lok_join (fun x_ : (List Int) => slices_symMergeCmpFunc_int_ratio_Apportion_f1_j1 m b cmp_c cmp_c_1 cmp_c_2 rec_ mid start1 x_ = some r_) (fun x_ => ⟨220, mkS [(0, .x (.one (.vw 0))), (3, .x (.one (.p (pi b)))), (4, .x (.one (.fn 9 [1, 2, 3]))), (18, .x (.one (.p (pi mid)))), (24, .x (.one (.p (pi (IntKind.i64.wrap ((IntKind.i64.wrap (mid + m)) - start1))))))], mkH [(0, .arr 1 (List.map encI x_)), (1, .var [.p (pi cmp_c)]), (2, .var [.p (.sl 1 (List.map encI cmp_c_1))]), (3, .var [.p (pi cmp_c_2)])]⟩) ?hyslices_symMergeCmpFunc_int_ratio_Apportion_f1_j1 ?hxslices_symMergeCmpFunc_int_ratio_Apportion_f1_j1
            case hyslices_symMergeCmpFunc_int_ratio_Apportion_f1_j1 =>
              rintro data2 H0
              try dsimp only at H0 ⊢
              unfold slices_symMergeCmpFunc_int_ratio_Apportion_f1_j1 at H0
              refine lok_rt E0 (⟨220, mkS [(0, .x (.one (.vw 0))), (3, .x (.one (.p (pi b)))), (4, .x (.one (.fn 9 [1, 2, 3]))), (18, .x (.one (.p (pi mid)))), (24, .x (.one (.p (pi (IntKind.i64.wrap ((IntKind.i64.wrap (mid + m)) - start1)))))), (213, .x (.one (.p (.val (.bool ((decide (mid < (IntKind.i64.wrap ((IntKind.i64.wrap (mid + m)) - start1)))) && (decide ((IntKind.i64.wrap ((IntKind.i64.wrap (mid + m)) - start1)) < b))))))))], mkH [(0, .arr 1 (List.map encI data2)), (1, .var [.p (pi cmp_c)]), (2, .var [.p (.sl 1 (List.map encI cmp_c_1))]), (3, .var [.p (pi cmp_c_2)])]⟩) ?_
              refine lok_c ((decide (mid < (IntKind.i64.wrap ((IntKind.i64.wrap (mid + m)) - start1)))) && (decide ((IntKind.i64.wrap ((IntKind.i64.wrap (mid + m)) - start1)) < b))) ?_ ?_
              · intro b_3
                replace H0 := cpos H0 b_3
                replace H0 := bind_some H0
                obtain ⟨y, h_1, H0⟩ := H0
                replace H0 := req_some H0
                obtain ⟨q_2, H0⟩ := H0
                refine lok_rl (Env.of E0 [⟨some 219, 17, [.one (.vw 0), .one (.p (pi mid)), .one (.p (pi (IntKind.i64.wrap ((IntKind.i64.wrap (mid + m)) - start1)))), .one (.p (pi b)), .one (.fn 9 [1, 2, 3])], [.arr 1 (List.map encI data2), .var [.p (pi cmp_c)], .var [.p (.sl 1 (List.map encI cmp_c_1))], .var [.p (pi cmp_c_2)]], [], [some (.arr 1 (List.map encI y)), some (.var [.p (pi cmp_c)]), some (.var [.p (.sl 1 (List.map encI cmp_c_1))]), some (.var [.p (pi cmp_c_2)])], True, fun _ => ih_ data2 mid (IntKind.i64.wrap ((IntKind.i64.wrap (mid + m)) - start1)) b cmp_c cmp_c_1 cmp_c_2 y h_1, [true, false, false, false, false]⟩]) (⟨220, mkS [], mkH [(0, .arr 1 (List.map encI y)), (1, .var [.p (pi cmp_c)]), (2, .var [.p (.sl 1 (List.map encI cmp_c_1))]), (3, .var [.p (pi cmp_c_2)])]⟩) ?_
                try obtain rfl := Option.some.inj H0
                try simp only [thenL, blockL]
                exact fin_au _ (.inl rfl) [0, 1, 2, 3] (⟨220, mkS [], mkH [(0, .arr 1 (List.map encI y)), (1, .var [.p (pi cmp_c)]), (2, .var [.p (.sl 1 (List.map encI cmp_c_1))]), (3, .var [.p (pi cmp_c_2)])]⟩) rfl rfl imp_au
              · intro b_3
                replace H0 := cneg H0 b_3
                refine lok_skip ?_
                try obtain rfl := Option.some.inj H0
                try simp only [thenL, blockL]
                exact fin_au _ (.inl rfl) [0, 1, 2, 3] (⟨220, mkS [], mkH [(0, .arr 1 (List.map encI data2)), (1, .var [.p (pi cmp_c)]), (2, .var [.p (.sl 1 (List.map encI cmp_c_1))]), (3, .var [.p (pi cmp_c_2)])]⟩) rfl rfl imp_au
            case hxslices_symMergeCmpFunc_int_ratio_Apportion_f1_j1 =>
              refine lok_rt E0 (⟨220, mkS [(0, .x (.one (.vw 0))), (1, .x (.one (.p (pi a)))), (3, .x (.one (.p (pi b)))), (4, .x (.one (.fn 9 [1, 2, 3]))), (18, .x (.one (.p (pi mid)))), (20, .x (.one (.p (pi start1)))), (24, .x (.one (.p (pi (IntKind.i64.wrap ((IntKind.i64.wrap (mid + m)) - start1)))))), (199, .x (.one (.p (.val (.bool ((decide (a < start1)) && (decide (start1 < mid))))))))], mkH [(0, .arr 1 (List.map encI data1)), (1, .var [.p (pi cmp_c)]), (2, .var [.p (.sl 1 (List.map encI cmp_c_1))]), (3, .var [.p (pi cmp_c_2)])]⟩) ?_
              refine lok_c ((decide (a < start1)) && (decide (start1 < mid))) ?_ ?_
              · intro b_6
                replace H0 := cpos H0 b_6
                replace H0 := bind_some H0
                obtain ⟨y1, h_4, H0⟩ := H0
                replace H0 := req_some H0
                obtain ⟨q_5, H0⟩ := H0
                refine lok_rl (Env.of E0 [⟨some 205, 17, [.one (.vw 0), .one (.p (pi a)), .one (.p (pi start1)), .one (.p (pi mid)), .one (.fn 9 [1, 2, 3])], [.arr 1 (List.map encI data1), .var [.p (pi cmp_c)], .var [.p (.sl 1 (List.map encI cmp_c_1))], .var [.p (pi cmp_c_2)]], [], [some (.arr 1 (List.map encI y1)), some (.var [.p (pi cmp_c)]), some (.var [.p (.sl 1 (List.map encI cmp_c_1))]), some (.var [.p (pi cmp_c_2)])], True, fun _ => ih_ data1 a start1 mid cmp_c cmp_c_1 cmp_c_2 y1 h_4, [true, false, false, false, false]⟩]) (⟨220, mkS [(0, .x (.one (.vw 0))), (3, .x (.one (.p (pi b)))), (4, .x (.one (.fn 9 [1, 2, 3]))), (18, .x (.one (.p (pi mid)))), (24, .x (.one (.p (pi (IntKind.i64.wrap ((IntKind.i64.wrap (mid + m)) - start1))))))], mkH [(0, .arr 1 (List.map encI y1)), (1, .var [.p (pi cmp_c)]), (2, .var [.p (.sl 1 (List.map encI cmp_c_1))]), (3, .var [.p (pi cmp_c_2)])]⟩) ?_
                try simp only [thenL, blockL, ↓reduceIte, reduceCtorEq]
                exact ⟨y1, H0, imp_au⟩
              · intro b_6
                replace H0 := cneg H0 b_6
                refine lok_skip ?_
                try simp only [thenL, blockL, ↓reduceIte, reduceCtorEq]
                exact ⟨data1, H0, imp_au⟩
          case hxslices_symMergeCmpFunc_int_ratio_Apportion_f1_j2 =>
            refine lok_rt E0 (⟨220, mkS [(0, .x (.one (.vw 0))), (1, .x (.one (.p (pi a)))), (2, .x (.one (.p (pi m)))), (3, .x (.one (.p (pi b)))), (4, .x (.one (.fn 9 [1, 2, 3]))), (18, .x (.one (.p (pi mid)))), (20, .x (.one (.p (pi start1)))), (24, .x (.one (.p (pi (IntKind.i64.wrap ((IntKind.i64.wrap (mid + m)) - start1)))))), (185, .x (.one (.p (.val (.bool ((decide (start1 < m)) && (decide (m < (IntKind.i64.wrap ((IntKind.i64.wrap (mid + m)) - start1))))))))))], mkH [(0, .arr 1 (List.map encI data)), (1, .var [.p (pi cmp_c)]), (2, .var [.p (.sl 1 (List.map encI cmp_c_1))]), (3, .var [.p (pi cmp_c_2)])]⟩) ?_
            refine lok_c ((decide (start1 < m)) && (decide (m < (IntKind.i64.wrap ((IntKind.i64.wrap (mid + m)) - start1))))) ?_ ?_
            · intro b_9
              replace H0 := cpos H0 b_9
              replace H0 := bind_some H0
              obtain ⟨y2, h_7, H0⟩ := H0
              replace H0 := req_some H0
              obtain ⟨q_8, H0⟩ := H0
              refine lok_rl (Env.of E0 [⟨some 191, 22, [.one (.vw 0), .one (.p (pi start1)), .one (.p (pi m)), .one (.p (pi (IntKind.i64.wrap ((IntKind.i64.wrap (mid + m)) - start1)))), .one (.fn 9 [1, 2, 3])], [.arr 1 (List.map encI data), .var [.p (pi cmp_c)], .var [.p (.sl 1 (List.map encI cmp_c_1))], .var [.p (pi cmp_c_2)]], [], [some (.arr 1 (List.map encI y2)), some (.var [.p (pi cmp_c)]), some (.var [.p (.sl 1 (List.map encI cmp_c_1))]), some (.var [.p (pi cmp_c_2)])], True, fun _ => ok_slices_rotateCmpFunc_int_ratio_Apportion_f1 data start1 m (IntKind.i64.wrap ((IntKind.i64.wrap (mid + m)) - start1)) cmp_c cmp_c_1 cmp_c_2 y2 h_7, [true, false, false, false, false]⟩]) (⟨220, mkS [(0, .x (.one (.vw 0))), (1, .x (.one (.p (pi a)))), (3, .x (.one (.p (pi b)))), (4, .x (.one (.fn 9 [1, 2, 3]))), (18, .x (.one (.p (pi mid)))), (20, .x (.one (.p (pi start1)))), (24, .x (.one (.p (pi (IntKind.i64.wrap ((IntKind.i64.wrap (mid + m)) - start1))))))], mkH [(0, .arr 1 (List.map encI y2)), (1, .var [.p (pi cmp_c)]), (2, .var [.p (.sl 1 (List.map encI cmp_c_1))]), (3, .var [.p (pi cmp_c_2)])]⟩) ?_
              try simp only [thenL, blockL, ↓reduceIte, reduceCtorEq]
              exact ⟨y2, H0, imp_au⟩
            · intro b_9
              replace H0 := cneg H0 b_9
              refine lok_skip ?_
              try simp only [thenL, blockL, ↓reduceIte, reduceCtorEq]
              exact ⟨data, H0, imp_au⟩
        case hxslices_symMergeCmpFunc_int_ratio_Apportion_f1_j3 =>
          refine lok_block ?_
          replace H0 := bind_some H0
          obtain ⟨v_10, hv_10, H0⟩ := H0
          refine lok_iter (fun x_ => ⟨220, mkS [(0, .x (.one (.vw 0))), (1, .x (.one (.p (pi a)))), (2, .x (.one (.p (pi m)))), (3, .x (.one (.p (pi b)))), (4, .x (.one (.fn 9 [1, 2, 3]))), (18, .x (.one (.p (pi mid)))), (19, .x (.one (.p (pi (IntKind.i64.wrap (mid + m)))))), (20, .x (.one (.p (pi x_.1)))), (21, .x (.one (.p (pi x_.2)))), (22, .x (.one (.p (pi (IntKind.i64.wrap ((IntKind.i64.wrap (mid + m)) - (1 : Int)))))))], mkH [(0, .arr 1 (List.map encI data)), (1, .var [.p (pi cmp_c)]), (2, .var [.p (.sl 1 (List.map encI cmp_c_1))]), (3, .var [.p (pi cmp_c_2)])]⟩) hv_10 imp_au ?_
          · rintro ⟨start2, r1⟩ o_1 H1 k_1
            unfold slices_symMergeCmpFunc_int_ratio_Apportion_f1_l4 at H1
            try dsimp only at H1 ⊢
            refine lok_seq ?_
            refine lok_rt E0 (⟨220, mkS [(0, .x (.one (.vw 0))), (1, .x (.one (.p (pi a)))), (2, .x (.one (.p (pi m)))), (3, .x (.one (.p (pi b)))), (4, .x (.one (.fn 9 [1, 2, 3]))), (18, .x (.one (.p (pi mid)))), (19, .x (.one (.p (pi (IntKind.i64.wrap (mid + m)))))), (20, .x (.one (.p (pi start2)))), (21, .x (.one (.p (pi r1)))), (22, .x (.one (.p (pi (IntKind.i64.wrap ((IntKind.i64.wrap (mid + m)) - (1 : Int))))))), (151, .x (.one (.p (.val (.bool (decide (start2 < r1)))))))], mkH [(0, .arr 1 (List.map encI data)), (1, .var [.p (pi cmp_c)]), (2, .var [.p (.sl 1 (List.map encI cmp_c_1))]), (3, .var [.p (pi cmp_c_2)])]⟩) ?_
            refine lok_c (decide (start2 < r1)) ?_ ?_
            · intro b_16
              replace H1 := cpos H1 b_16
              refine lok_skip ?_
              try simp only [thenL, blockL, ↓reduceIte, reduceCtorEq]
              refine lok_block ?_
              replace H1 := bindV_some H1
              obtain ⟨c, a_11, H1⟩ := H1
              refine lok_rtg E0 a_11 (⟨220, mkS [(0, .x (.one (.vw 0))), (1, .x (.one (.p (pi a)))), (2, .x (.one (.p (pi m)))), (3, .x (.one (.p (pi b)))), (4, .x (.one (.fn 9 [1, 2, 3]))), (18, .x (.one (.p (pi mid)))), (19, .x (.one (.p (pi (IntKind.i64.wrap (mid + m)))))), (20, .x (.one (.p (pi start2)))), (21, .x (.one (.p (pi r1)))), (22, .x (.one (.p (pi (IntKind.i64.wrap ((IntKind.i64.wrap (mid + m)) - (1 : Int))))))), (23, .x (.one (.p (pi c))))], mkH [(0, .arr 1 (List.map encI data)), (1, .var [.p (pi cmp_c)]), (2, .var [.p (.sl 1 (List.map encI cmp_c_1))]), (3, .var [.p (pi cmp_c_2)])]⟩) ?_
              replace H1 := req_some H1
              obtain ⟨⟨q_14, q_15⟩, H1⟩ := H1
              replace H1 := bind_some H1
              obtain ⟨y3, h_12, H1⟩ := H1
              refine lok_dt (Env.of E0 [⟨some 169, 9, [.one (.p (pi (ix data (IntKind.i64.wrap ((IntKind.i64.wrap ((IntKind.i64.wrap (mid + m)) - (1 : Int))) - c))))), .one (.p (pi (ix data c))), .one (.ptr 0 0), .one (.ptr 1 0), .one (.ptr 2 0)], [.var [.p (pi cmp_c)], .var [.p (.sl 1 (List.map encI cmp_c_1))], .var [.p (pi cmp_c_2)]], [.one (.p (pi y3))], [some (.var [.p (pi cmp_c)]), some (.var [.p (.sl 1 (List.map encI cmp_c_1))]), some (.var [.p (pi cmp_c_2)])], True, fun _ => ok_ratio_Apportion_f1 (ix data (IntKind.i64.wrap ((IntKind.i64.wrap ((IntKind.i64.wrap (mid + m)) - (1 : Int))) - c))) (ix data c) cmp_c cmp_c_1 cmp_c_2 y3 h_12, []⟩]) 11 (⟨220, mkS [(0, .x (.one (.vw 0))), (1, .x (.one (.p (pi a)))), (2, .x (.one (.p (pi m)))), (3, .x (.one (.p (pi b)))), (4, .x (.one (.fn 9 [1, 2, 3]))), (18, .x (.one (.p (pi mid)))), (19, .x (.one (.p (pi (IntKind.i64.wrap (mid + m)))))), (20, .x (.one (.p (pi start2)))), (21, .x (.one (.p (pi r1)))), (22, .x (.one (.p (pi (IntKind.i64.wrap ((IntKind.i64.wrap (mid + m)) - (1 : Int))))))), (23, .x (.one (.p (pi c)))), (171, .x (.one (.p (.val (.bool (!(decide (y3 < (0 : Int)))))))))], mkH [(0, .arr 1 (List.map encI data)), (1, .var [.p (pi cmp_c)]), (2, .var [.p (.sl 1 (List.map encI cmp_c_1))]), (3, .var [.p (pi cmp_c_2)])]⟩) (by kernel_rfl) (by kernel_rfl) ?_
              refine lok_c (!(decide (y3 < (0 : Int)))) ?_ ?_
              · intro b_13
                replace H1 := cpos H1 b_13
                refine lok_rl E0 (⟨220, mkS [(0, .x (.one (.vw 0))), (1, .x (.one (.p (pi a)))), (2, .x (.one (.p (pi m)))), (3, .x (.one (.p (pi b)))), (4, .x (.one (.fn 9 [1, 2, 3]))), (18, .x (.one (.p (pi mid)))), (19, .x (.one (.p (pi (IntKind.i64.wrap (mid + m)))))), (20, .x (.one (.p (pi (IntKind.i64.wrap (c + (1 : Int))))))), (21, .x (.one (.p (pi r1)))), (22, .x (.one (.p (pi (IntKind.i64.wrap ((IntKind.i64.wrap (mid + m)) - (1 : Int)))))))], mkH [(0, .arr 1 (List.map encI data)), (1, .var [.p (pi cmp_c)]), (2, .var [.p (.sl 1 (List.map encI cmp_c_1))]), (3, .var [.p (pi cmp_c_2)])]⟩) ?_
                try simp only [thenL, blockL, ↓reduceIte, reduceCtorEq]
                exact ⟨((IntKind.i64.wrap (c + (1 : Int))), r1), (Option.some.inj H1).symm, imp_au⟩
              · intro b_13
                replace H1 := cneg H1 b_13
                refine lok_rl E0 (⟨220, mkS [(0, .x (.one (.vw 0))), (1, .x (.one (.p (pi a)))), (2, .x (.one (.p (pi m)))), (3, .x (.one (.p (pi b)))), (4, .x (.one (.fn 9 [1, 2, 3]))), (18, .x (.one (.p (pi mid)))), (19, .x (.one (.p (pi (IntKind.i64.wrap (mid + m)))))), (20, .x (.one (.p (pi start2)))), (21, .x (.one (.p (pi c)))), (22, .x (.one (.p (pi (IntKind.i64.wrap ((IntKind.i64.wrap (mid + m)) - (1 : Int)))))))], mkH [(0, .arr 1 (List.map encI data)), (1, .var [.p (pi cmp_c)]), (2, .var [.p (.sl 1 (List.map encI cmp_c_1))]), (3, .var [.p (pi cmp_c_2)])]⟩) ?_
                try simp only [thenL, blockL, ↓reduceIte, reduceCtorEq]
                exact ⟨(start2, c), (Option.some.inj H1).symm, imp_au⟩
            · intro b_16
              replace H1 := cneg H1 b_16
              refine lok_exit ?_
              try simp only [thenL, blockL, ↓reduceIte, reduceCtorEq]
              have e_1 := k_1 _ (Option.some.inj H1).symm
              subst e_1
              try dsimp only at H0
              try simp only [thenL, blockL, ↓reduceIte, reduceCtorEq]
              exact ⟨start2, H0, imp_au⟩
      case hxslices_symMergeCmpFunc_int_ratio_Apportion_f1_j5 =>
        refine lok_rt E0 (⟨220, mkS [(0, .x (.one (.vw 0))), (1, .x (.one (.p (pi a)))), (2, .x (.one (.p (pi m)))), (3, .x (.one (.p (pi b)))), (4, .x (.one (.fn 9 [1, 2, 3]))), (18, .x (.one (.p (pi mid)))), (19, .x (.one (.p (pi (IntKind.i64.wrap (mid + m)))))), (140, .x (.one (.p (.val (.bool (decide (mid < m)))))))], mkH [(0, .arr 1 (List.map encI data)), (1, .var [.p (pi cmp_c)]), (2, .var [.p (.sl 1 (List.map encI cmp_c_1))]), (3, .var [.p (pi cmp_c_2)])]⟩) ?_
        refine lok_c (decide (mid < m)) ?_ ?_
        · intro b_17
          replace H0 := cpos H0 b_17
          refine lok_rt E0 (⟨220, mkS [(0, .x (.one (.vw 0))), (1, .x (.one (.p (pi a)))), (2, .x (.one (.p (pi m)))), (3, .x (.one (.p (pi b)))), (4, .x (.one (.fn 9 [1, 2, 3]))), (18, .x (.one (.p (pi mid)))), (19, .x (.one (.p (pi (IntKind.i64.wrap (mid + m)))))), (20, .x (.one (.p (pi (IntKind.i64.wrap ((IntKind.i64.wrap (mid + m)) - b))))))], mkH [(0, .arr 1 (List.map encI data)), (1, .var [.p (pi cmp_c)]), (2, .var [.p (.sl 1 (List.map encI cmp_c_1))]), (3, .var [.p (pi cmp_c_2)])]⟩) ?_
          refine lok_rl E0 (⟨220, mkS [(0, .x (.one (.vw 0))), (1, .x (.one (.p (pi a)))), (2, .x (.one (.p (pi m)))), (3, .x (.one (.p (pi b)))), (4, .x (.one (.fn 9 [1, 2, 3]))), (18, .x (.one (.p (pi mid)))), (19, .x (.one (.p (pi (IntKind.i64.wrap (mid + m)))))), (20, .x (.one (.p (pi (IntKind.i64.wrap ((IntKind.i64.wrap (mid + m)) - b)))))), (21, .x (.one (.p (pi mid))))], mkH [(0, .arr 1 (List.map encI data)), (1, .var [.p (pi cmp_c)]), (2, .var [.p (.sl 1 (List.map encI cmp_c_1))]), (3, .var [.p (pi cmp_c_2)])]⟩) ?_
          try simp only [thenL, blockL, ↓reduceIte, reduceCtorEq]
          exact ⟨((IntKind.i64.wrap ((IntKind.i64.wrap (mid + m)) - b)), mid), H0, imp_au⟩
        · intro b_17
          replace H0 := cneg H0 b_17
          refine lok_rt E0 (⟨220, mkS [(0, .x (.one (.vw 0))), (1, .x (.one (.p (pi a)))), (2, .x (.one (.p (pi m)))), (3, .x (.one (.p (pi b)))), (4, .x (.one (.fn 9 [1, 2, 3]))), (18, .x (.one (.p (pi mid)))), (19, .x (.one (.p (pi (IntKind.i64.wrap (mid + m)))))), (20, .x (.one (.p (pi a))))], mkH [(0, .arr 1 (List.map encI data)), (1, .var [.p (pi cmp_c)]), (2, .var [.p (.sl 1 (List.map encI cmp_c_1))]), (3, .var [.p (pi cmp_c_2)])]⟩) ?_
          refine lok_rl E0 (⟨220, mkS [(0, .x (.one (.vw 0))), (1, .x (.one (.p (pi a)))), (2, .x (.one (.p (pi m)))), (3, .x (.one (.p (pi b)))), (4, .x (.one (.fn 9 [1, 2, 3]))), (18, .x (.one (.p (pi mid)))), (19, .x (.one (.p (pi (IntKind.i64.wrap (mid + m)))))), (20, .x (.one (.p (pi a)))), (21, .x (.one (.p (pi m))))], mkH [(0, .arr 1 (List.map encI data)), (1, .var [.p (pi cmp_c)]), (2, .var [.p (.sl 1 (List.map encI cmp_c_1))]), (3, .var [.p (pi cmp_c_2)])]⟩) ?_
          try simp only [thenL, blockL, ↓reduceIte, reduceCtorEq]
          exact ⟨(a, m), H0, imp_au⟩
    case hxslices_symMergeCmpFunc_int_ratio_Apportion_f1_j6 =>
      refine lok_rt E0 (⟨220, mkS [(0, .x (.one (.vw 0))), (1, .x (.one (.p (pi a)))), (2, .x (.one (.p (pi m)))), (3, .x (.one (.p (pi b)))), (4, .x (.one (.fn 9 [1, 2, 3]))), (80, .x (.one (.p (.val (.bool ((IntKind.i64.wrap (b - m)) == (1 : Int)))))))], mkH [(0, .arr 1 (List.map encI data)), (1, .var [.p (pi cmp_c)]), (2, .var [.p (.sl 1 (List.map encI cmp_c_1))]), (3, .var [.p (pi cmp_c_2)])]⟩) ?_
      refine lok_c ((IntKind.i64.wrap (b - m)) == (1 : Int)) ?_ ?_
      · intro b_30
        replace H0 := cpos H0 b_30
        refine lok_rt E0 (⟨220, mkS [(0, .x (.one (.vw 0))), (2, .x (.one (.p (pi m)))), (4, .x (.one (.fn 9 [1, 2, 3]))), (14, .x (.one (.p (pi a))))], mkH [(0, .arr 1 (List.map encI data)), (1, .var [.p (pi cmp_c)]), (2, .var [.p (.sl 1 (List.map encI cmp_c_1))]), (3, .var [.p (pi cmp_c_2)])]⟩) ?_
        refine lok_rt E0 (⟨220, mkS [(0, .x (.one (.vw 0))), (2, .x (.one (.p (pi m)))), (4, .x (.one (.fn 9 [1, 2, 3]))), (14, .x (.one (.p (pi a)))), (15, .x (.one (.p (pi m))))], mkH [(0, .arr 1 (List.map encI data)), (1, .var [.p (pi cmp_c)]), (2, .var [.p (.sl 1 (List.map encI cmp_c_1))]), (3, .var [.p (pi cmp_c_2)])]⟩) ?_
        refine lok_join (fun x_ : Int => slices_symMergeCmpFunc_int_ratio_Apportion_f1_j9 data m x_ = some r_) (fun x_ => ⟨220, mkS [(0, .x (.one (.vw 0))), (2, .x (.one (.p (pi m)))), (14, .x (.one (.p (pi x_))))], mkH [(0, .arr 1 (List.map encI data)), (1, .var [.p (pi cmp_c)]), (2, .var [.p (.sl 1 (List.map encI cmp_c_1))]), (3, .var [.p (pi cmp_c_2)])]⟩) ?hyslices_symMergeCmpFunc_int_ratio_Apportion_f1_j9 ?hxslices_symMergeCmpFunc_int_ratio_Apportion_f1_j9
        case hyslices_symMergeCmpFunc_int_ratio_Apportion_f1_j9 =>
          rintro i H0
          try dsimp only at H0 ⊢
          unfold slices_symMergeCmpFunc_int_ratio_Apportion_f1_j9 at H0
          refine lok_join (fun x_ : (List Int) => slices_symMergeCmpFunc_int_ratio_Apportion_f1_j7 x_ = some r_) (fun x_ => ⟨220, mkS [], mkH [(0, .arr 1 (List.map encI x_)), (1, .var [.p (pi cmp_c)]), (2, .var [.p (.sl 1 (List.map encI cmp_c_1))]), (3, .var [.p (pi cmp_c_2)])]⟩) ?hyslices_symMergeCmpFunc_int_ratio_Apportion_f1_j7 ?hxslices_symMergeCmpFunc_int_ratio_Apportion_f1_j7
          case hyslices_symMergeCmpFunc_int_ratio_Apportion_f1_j7 =>
            rintro data3 H0
            try dsimp only at H0 ⊢
            unfold slices_symMergeCmpFunc_int_ratio_Apportion_f1_j7 at H0
            refine lok_ret ?_
            try obtain rfl := Option.some.inj H0
            try simp only [thenL, blockL]
            exact fin_au _ (.inr rfl) [0, 1, 2, 3] (⟨220, mkS [], mkH [(0, .arr 1 (List.map encI data3)), (1, .var [.p (pi cmp_c)]), (2, .var [.p (.sl 1 (List.map encI cmp_c_1))]), (3, .var [.p (pi cmp_c_2)])]⟩) rfl rfl imp_au
          case hxslices_symMergeCmpFunc_int_ratio_Apportion_f1_j7 =>
            refine lok_rt E0 (⟨220, mkS [(0, .x (.one (.vw 0))), (14, .x (.one (.p (pi i)))), (17, .x (.one (.p (pi m))))], mkH [(0, .arr 1 (List.map encI data)), (1, .var [.p (pi cmp_c)]), (2, .var [.p (.sl 1 (List.map encI cmp_c_1))]), (3, .var [.p (pi cmp_c_2)])]⟩) ?_
            refine lok_block ?_
            replace H0 := bind_some H0
            obtain ⟨v_18, hv_18, H0⟩ := H0
            refine lok_iter (fun x_ => ⟨220, mkS [(0, .x (.one (.vw 0))), (14, .x (.one (.p (pi i)))), (17, .x (.one (.p (pi x_.1))))], mkH [(0, .arr 1 (List.map encI x_.2)), (1, .var [.p (pi cmp_c)]), (2, .var [.p (.sl 1 (List.map encI cmp_c_1))]), (3, .var [.p (pi cmp_c_2)])]⟩) hv_18 imp_au ?_
            · rintro ⟨k, data4⟩ o_1 H1 k_1
              unfold slices_symMergeCmpFunc_int_ratio_Apportion_f1_l8 at H1
              try dsimp only at H1 ⊢
              refine lok_seq ?_
              refine lok_rt E0 (⟨220, mkS [(0, .x (.one (.vw 0))), (14, .x (.one (.p (pi i)))), (17, .x (.one (.p (pi k)))), (110, .x (.one (.p (.val (.bool (decide (i < k)))))))], mkH [(0, .arr 1 (List.map encI data4)), (1, .var [.p (pi cmp_c)]), (2, .var [.p (.sl 1 (List.map encI cmp_c_1))]), (3, .var [.p (pi cmp_c_2)])]⟩) ?_
              refine lok_c (decide (i < k)) ?_ ?_
              · intro b_22
                replace H1 := cpos H1 b_22
                refine lok_skip ?_
                try simp only [thenL, blockL, ↓reduceIte, reduceCtorEq]
                refine lok_seq ?_
                refine lok_block ?_
                replace H1 := req_some H1
                obtain ⟨⟨q_20, q_21⟩, H1⟩ := H1
                replace H1 := bindV_some H1
                obtain ⟨data6, a_19, H1⟩ := H1
                refine lok_elg E0 220 [⟨[(0, .x (.one (.vw 0)))], [], [(113, .x (.one (.vw 0)))], [], none⟩,
      ⟨[(17, .x (.one (.p (pi k))))], [], [(114, .x (.one (.p (pi k))))], [], none⟩,
      ⟨[(0, .x (.one (.vw 0)))], [], [(115, .x (.one (.vw 0)))], [], none⟩,
      ⟨[(17, .x (.one (.p (pi k))))], [], [(116, .x (.one (.p (pi k))))], [], none⟩,
      ⟨[(116, .x (.one (.p (pi k))))], [], [(117, .x (.one (.p (pi (IntKind.i64.wrap (k - (1 : Int)))))))], [], none⟩,
      ⟨[(0, .x (.one (.vw 0)))], [], [(118, .x (.one (.vw 0)))], [], none⟩,
      ⟨[(17, .x (.one (.p (pi k))))], [], [(119, .x (.one (.p (pi k))))], [], none⟩,
      ⟨[(119, .x (.one (.p (pi k))))], [], [(120, .x (.one (.p (pi (IntKind.i64.wrap (k - (1 : Int)))))))], [], none⟩,
      ⟨[(118, .x (.one (.vw 0))), (120, .x (.one (.p (pi (IntKind.i64.wrap (k - (1 : Int)))))))], [(0, some (.arr 1 (List.map encI data4)))], [(121, .x (.one (.ap 0 ((IntKind.i64.wrap (k - (1 : Int))).toNat) 0)))], [], none⟩,
      ⟨[(121, .x (.one (.ap 0 ((IntKind.i64.wrap (k - (1 : Int))).toNat) 0)))], [(0, some (.arr 1 (List.map encI data4)))], [(122, .x (.one (.p (pi (ix data4 (IntKind.i64.wrap (k - (1 : Int))))))))], [], none⟩,
      ⟨[(0, .x (.one (.vw 0)))], [], [(123, .x (.one (.vw 0)))], [], none⟩,
      ⟨[(17, .x (.one (.p (pi k))))], [], [(124, .x (.one (.p (pi k))))], [], none⟩,
      ⟨[(123, .x (.one (.vw 0))), (124, .x (.one (.p (pi k))))], [(0, some (.arr 1 (List.map encI data4)))], [(125, .x (.one (.ap 0 (k.toNat) 0)))], [], none⟩,
      ⟨[(125, .x (.one (.ap 0 (k.toNat) 0)))], [(0, some (.arr 1 (List.map encI data4)))], [(126, .x (.one (.p (pi (ix data4 k)))))], [], none⟩,
      ⟨[(113, .x (.one (.vw 0))), (114, .x (.one (.p (pi k))))], [(0, some (.arr 1 (List.map encI data4)))], [(127, .x (.one (.ap 0 (k.toNat) 0)))], [], none⟩,
      ⟨[(122, .x (.one (.p (pi (ix data4 (IntKind.i64.wrap (k - (1 : Int)))))))), (127, .x (.one (.ap 0 (k.toNat) 0)))], [(0, some (.arr 1 (List.map encI data4)))], [], [(0, some (.arr 1 (List.map encI (setI data4 k (ix data4 (IntKind.i64.wrap (k - (1 : Int))))))))], none⟩] a_19 (⟨220, mkS [(0, .x (.one (.vw 0))), (14, .x (.one (.p (pi i)))), (17, .x (.one (.p (pi k))))], mkH [(0, .arr 1 (List.map encI data6)), (1, .var [.p (pi cmp_c)]), (2, .var [.p (.sl 1 (List.map encI cmp_c_1))]), (3, .var [.p (pi cmp_c_2)])]⟩) (by kernel_rfl) (by kernel_rfl) (by kernel_rfl) rfl rfl rfl ?_
                try simp only [thenL, blockL, ↓reduceIte, reduceCtorEq]
                refine lok_rl E0 (⟨220, mkS [(0, .x (.one (.vw 0))), (14, .x (.one (.p (pi i)))), (17, .x (.one (.p (pi (IntKind.i64.wrap (k - (1 : Int)))))))], mkH [(0, .arr 1 (List.map encI data6)), (1, .var [.p (pi cmp_c)]), (2, .var [.p (.sl 1 (List.map encI cmp_c_1))]), (3, .var [.p (pi cmp_c_2)])]⟩) ?_
                try simp only [thenL, blockL, ↓reduceIte, reduceCtorEq]
                exact ⟨((IntKind.i64.wrap (k - (1 : Int))), data6), (Option.some.inj H1).symm, imp_au⟩
              · intro b_22
                replace H1 := cneg H1 b_22
                refine lok_exit ?_
                try simp only [thenL, blockL, ↓reduceIte, reduceCtorEq]
                have e_1 := k_1 _ (Option.some.inj H1).symm
                subst e_1
                try dsimp only at H0
                try simp only [thenL, blockL, ↓reduceIte, reduceCtorEq]
                exact ⟨data4, H0, imp_au⟩
        case hxslices_symMergeCmpFunc_int_ratio_Apportion_f1_j9 =>
          refine lok_block ?_
          replace H0 := bind_some H0
          obtain ⟨v_23, hv_23, H0⟩ := H0
          refine lok_iter (fun x_ => ⟨220, mkS [(0, .x (.one (.vw 0))), (2, .x (.one (.p (pi m)))), (4, .x (.one (.fn 9 [1, 2, 3]))), (14, .x (.one (.p (pi x_.1)))), (15, .x (.one (.p (pi x_.2))))], mkH [(0, .arr 1 (List.map encI data)), (1, .var [.p (pi cmp_c)]), (2, .var [.p (.sl 1 (List.map encI cmp_c_1))]), (3, .var [.p (pi cmp_c_2)])]⟩) hv_23 imp_au ?_
          · rintro ⟨i1, j⟩ o_1 H1 k_1
            unfold slices_symMergeCmpFunc_int_ratio_Apportion_f1_l10 at H1
            try dsimp only at H1 ⊢
            refine lok_seq ?_
            refine lok_rt E0 (⟨220, mkS [(0, .x (.one (.vw 0))), (2, .x (.one (.p (pi m)))), (4, .x (.one (.fn 9 [1, 2, 3]))), (14, .x (.one (.p (pi i1)))), (15, .x (.one (.p (pi j)))), (85, .x (.one (.p (.val (.bool (decide (i1 < j)))))))], mkH [(0, .arr 1 (List.map encI data)), (1, .var [.p (pi cmp_c)]), (2, .var [.p (.sl 1 (List.map encI cmp_c_1))]), (3, .var [.p (pi cmp_c_2)])]⟩) ?_
            refine lok_c (decide (i1 < j)) ?_ ?_
            · intro b_29
              replace H1 := cpos H1 b_29
              refine lok_skip ?_
              try simp only [thenL, blockL, ↓reduceIte, reduceCtorEq]
              refine lok_block ?_
              replace H1 := bindV_some H1
              obtain ⟨h, a_24, H1⟩ := H1
              refine lok_rtg E0 a_24 (⟨220, mkS [(0, .x (.one (.vw 0))), (2, .x (.one (.p (pi m)))), (4, .x (.one (.fn 9 [1, 2, 3]))), (14, .x (.one (.p (pi i1)))), (15, .x (.one (.p (pi j)))), (16, .x (.one (.p (pi h))))], mkH [(0, .arr 1 (List.map encI data)), (1, .var [.p (pi cmp_c)]), (2, .var [.p (.sl 1 (List.map encI cmp_c_1))]), (3, .var [.p (pi cmp_c_2)])]⟩) ?_
              replace H1 := req_some H1
              obtain ⟨⟨q_27, q_28⟩, H1⟩ := H1
              replace H1 := bind_some H1
              obtain ⟨y4, h_25, H1⟩ := H1
              refine lok_dt (Env.of E0 [⟨some 101, 9, [.one (.p (pi (ix data m))), .one (.p (pi (ix data h))), .one (.ptr 0 0), .one (.ptr 1 0), .one (.ptr 2 0)], [.var [.p (pi cmp_c)], .var [.p (.sl 1 (List.map encI cmp_c_1))], .var [.p (pi cmp_c_2)]], [.one (.p (pi y4))], [some (.var [.p (pi cmp_c)]), some (.var [.p (.sl 1 (List.map encI cmp_c_1))]), some (.var [.p (pi cmp_c_2)])], True, fun _ => ok_ratio_Apportion_f1 (ix data m) (ix data h) cmp_c cmp_c_1 cmp_c_2 y4 h_25, []⟩]) 9 (⟨220, mkS [(0, .x (.one (.vw 0))), (2, .x (.one (.p (pi m)))), (4, .x (.one (.fn 9 [1, 2, 3]))), (14, .x (.one (.p (pi i1)))), (15, .x (.one (.p (pi j)))), (16, .x (.one (.p (pi h)))), (103, .x (.one (.p (.val (.bool (!(decide (y4 < (0 : Int)))))))))], mkH [(0, .arr 1 (List.map encI data)), (1, .var [.p (pi cmp_c)]), (2, .var [.p (.sl 1 (List.map encI cmp_c_1))]), (3, .var [.p (pi cmp_c_2)])]⟩) (by kernel_rfl) (by kernel_rfl) ?_
              refine lok_c (!(decide (y4 < (0 : Int)))) ?_ ?_
              · intro b_26
                replace H1 := cpos H1 b_26
                refine lok_rl E0 (⟨220, mkS [(0, .x (.one (.vw 0))), (2, .x (.one (.p (pi m)))), (4, .x (.one (.fn 9 [1, 2, 3]))), (14, .x (.one (.p (pi (IntKind.i64.wrap (h + (1 : Int))))))), (15, .x (.one (.p (pi j))))], mkH [(0, .arr 1 (List.map encI data)), (1, .var [.p (pi cmp_c)]), (2, .var [.p (.sl 1 (List.map encI cmp_c_1))]), (3, .var [.p (pi cmp_c_2)])]⟩) ?_
                try simp only [thenL, blockL, ↓reduceIte, reduceCtorEq]
                exact ⟨((IntKind.i64.wrap (h + (1 : Int))), j), (Option.some.inj H1).symm, imp_au⟩
              · intro b_26
                replace H1 := cneg H1 b_26
                refine lok_rl E0 (⟨220, mkS [(0, .x (.one (.vw 0))), (2, .x (.one (.p (pi m)))), (4, .x (.one (.fn 9 [1, 2, 3]))), (14, .x (.one (.p (pi i1)))), (15, .x (.one (.p (pi h))))], mkH [(0, .arr 1 (List.map encI data)), (1, .var [.p (pi cmp_c)]), (2, .var [.p (.sl 1 (List.map encI cmp_c_1))]), (3, .var [.p (pi cmp_c_2)])]⟩) ?_
                try simp only [thenL, blockL, ↓reduceIte, reduceCtorEq]
                exact ⟨(i1, h), (Option.some.inj H1).symm, imp_au⟩
            · intro b_29
              replace H1 := cneg H1 b_29
              refine lok_exit ?_
              try simp only [thenL, blockL, ↓reduceIte, reduceCtorEq]
              have e_1 := k_1 _ (Option.some.inj H1).symm
              subst e_1
              try dsimp only at H0
              try simp only [thenL, blockL, ↓reduceIte, reduceCtorEq]
              exact ⟨i1, H0, imp_au⟩
      · intro b_30
        replace H0 := cneg H0 b_30
        refine lok_skip ?_
        try simp only [thenL, blockL, ↓reduceIte, reduceCtorEq]
        exact ⟨(), H0, imp_au⟩
  case hxslices_symMergeCmpFunc_int_ratio_Apportion_f1_j11 =>
    refine lok_rt E0 (⟨220, mkS [(0, .x (.one (.vw 0))), (1, .x (.one (.p (pi a)))), (2, .x (.one (.p (pi m)))), (3, .x (.one (.p (pi b)))), (4, .x (.one (.fn 9 [1, 2, 3]))), (28, .x (.one (.p (.val (.bool ((IntKind.i64.wrap (m - a)) == (1 : Int)))))))], mkH [(0, .arr 1 (List.map encI data)), (1, .var [.p (pi cmp_c)]), (2, .var [.p (.sl 1 (List.map encI cmp_c_1))]), (3, .var [.p (pi cmp_c_2)])]⟩) ?_
    refine lok_c ((IntKind.i64.wrap (m - a)) == (1 : Int)) ?_ ?_
    · intro b_43
      replace H0 := cpos H0 b_43
      refine lok_rt E0 (⟨220, mkS [(0, .x (.one (.vw 0))), (1, .x (.one (.p (pi a)))), (3, .x (.one (.p (pi b)))), (4, .x (.one (.fn 9 [1, 2, 3]))), (10, .x (.one (.p (pi m))))], mkH [(0, .arr 1 (List.map encI data)), (1, .var [.p (pi cmp_c)]), (2, .var [.p (.sl 1 (List.map encI cmp_c_1))]), (3, .var [.p (pi cmp_c_2)])]⟩) ?_
      refine lok_rt E0 (⟨220, mkS [(0, .x (.one (.vw 0))), (1, .x (.one (.p (pi a)))), (4, .x (.one (.fn 9 [1, 2, 3]))), (10, .x (.one (.p (pi m)))), (11, .x (.one (.p (pi b))))], mkH [(0, .arr 1 (List.map encI data)), (1, .var [.p (pi cmp_c)]), (2, .var [.p (.sl 1 (List.map encI cmp_c_1))]), (3, .var [.p (pi cmp_c_2)])]⟩) ?_
      refine lok_join (fun x_ : Int => slices_symMergeCmpFunc_int_ratio_Apportion_f1_j14 data a x_ = some r_) (fun x_ => ⟨220, mkS [(0, .x (.one (.vw 0))), (1, .x (.one (.p (pi a)))), (10, .x (.one (.p (pi x_))))], mkH [(0, .arr 1 (List.map encI data)), (1, .var [.p (pi cmp_c)]), (2, .var [.p (.sl 1 (List.map encI cmp_c_1))]), (3, .var [.p (pi cmp_c_2)])]⟩) ?hyslices_symMergeCmpFunc_int_ratio_Apportion_f1_j14 ?hxslices_symMergeCmpFunc_int_ratio_Apportion_f1_j14
      case hyslices_symMergeCmpFunc_int_ratio_Apportion_f1_j14 =>
        rintro i3 H0
        try dsimp only at H0 ⊢
        unfold slices_symMergeCmpFunc_int_ratio_Apportion_f1_j14 at H0
        refine lok_join (fun x_ : (List Int) => slices_symMergeCmpFunc_int_ratio_Apportion_f1_j12 x_ = some r_) (fun x_ => ⟨220, mkS [], mkH [(0, .arr 1 (List.map encI x_)), (1, .var [.p (pi cmp_c)]), (2, .var [.p (.sl 1 (List.map encI cmp_c_1))]), (3, .var [.p (pi cmp_c_2)])]⟩) ?hyslices_symMergeCmpFunc_int_ratio_Apportion_f1_j12 ?hxslices_symMergeCmpFunc_int_ratio_Apportion_f1_j12
        case hyslices_symMergeCmpFunc_int_ratio_Apportion_f1_j12 =>
          rintro data7 H0
          try dsimp only at H0 ⊢
          unfold slices_symMergeCmpFunc_int_ratio_Apportion_f1_j12 at H0
          refine lok_ret ?_
          try obtain rfl := Option.some.inj H0
          try simp only [thenL, blockL]
          exact fin_au _ (.inr rfl) [0, 1, 2, 3] (⟨220, mkS [], mkH [(0, .arr 1 (List.map encI data7)), (1, .var [.p (pi cmp_c)]), (2, .var [.p (.sl 1 (List.map encI cmp_c_1))]), (3, .var [.p (pi cmp_c_2)])]⟩) rfl rfl imp_au
        case hxslices_symMergeCmpFunc_int_ratio_Apportion_f1_j12 =>
          refine lok_rt E0 (⟨220, mkS [(0, .x (.one (.vw 0))), (10, .x (.one (.p (pi i3)))), (13, .x (.one (.p (pi a))))], mkH [(0, .arr 1 (List.map encI data)), (1, .var [.p (pi cmp_c)]), (2, .var [.p (.sl 1 (List.map encI cmp_c_1))]), (3, .var [.p (pi cmp_c_2)])]⟩) ?_
          refine lok_block ?_
          replace H0 := bind_some H0
          obtain ⟨v_31, hv_31, H0⟩ := H0
          refine lok_iter (fun x_ => ⟨220, mkS [(0, .x (.one (.vw 0))), (10, .x (.one (.p (pi i3)))), (13, .x (.one (.p (pi x_.1))))], mkH [(0, .arr 1 (List.map encI x_.2)), (1, .var [.p (pi cmp_c)]), (2, .var [.p (.sl 1 (List.map encI cmp_c_1))]), (3, .var [.p (pi cmp_c_2)])]⟩) hv_31 imp_au ?_
          · rintro ⟨k1, data8⟩ o_1 H1 k_1
            unfold slices_symMergeCmpFunc_int_ratio_Apportion_f1_l13 at H1
            try dsimp only at H1 ⊢
            refine lok_seq ?_
            refine lok_rt E0 (⟨220, mkS [(0, .x (.one (.vw 0))), (10, .x (.one (.p (pi i3)))), (13, .x (.one (.p (pi k1)))), (58, .x (.one (.p (.val (.bool (decide (k1 < (IntKind.i64.wrap (i3 - (1 : Int))))))))))], mkH [(0, .arr 1 (List.map encI data8)), (1, .var [.p (pi cmp_c)]), (2, .var [.p (.sl 1 (List.map encI cmp_c_1))]), (3, .var [.p (pi cmp_c_2)])]⟩) ?_
            refine lok_c (decide (k1 < (IntKind.i64.wrap (i3 - (1 : Int))))) ?_ ?_
            · intro b_35
              replace H1 := cpos H1 b_35
              refine lok_skip ?_
              try simp only [thenL, blockL, ↓reduceIte, reduceCtorEq]
              refine lok_seq ?_
              refine lok_block ?_
              replace H1 := req_some H1
              obtain ⟨⟨q_33, q_34⟩, H1⟩ := H1
              replace H1 := bindV_some H1
              obtain ⟨data10, a_32, H1⟩ := H1
              refine lok_elg E0 220 [⟨[(0, .x (.one (.vw 0)))], [], [(61, .x (.one (.vw 0)))], [], none⟩,
      ⟨[(13, .x (.one (.p (pi k1))))], [], [(62, .x (.one (.p (pi k1))))], [], none⟩,
      ⟨[(0, .x (.one (.vw 0)))], [], [(63, .x (.one (.vw 0)))], [], none⟩,
      ⟨[(13, .x (.one (.p (pi k1))))], [], [(64, .x (.one (.p (pi k1))))], [], none⟩,
      ⟨[(64, .x (.one (.p (pi k1))))], [], [(65, .x (.one (.p (pi (IntKind.i64.wrap (k1 + (1 : Int)))))))], [], none⟩,
      ⟨[(0, .x (.one (.vw 0)))], [], [(66, .x (.one (.vw 0)))], [], none⟩,
      ⟨[(13, .x (.one (.p (pi k1))))], [], [(67, .x (.one (.p (pi k1))))], [], none⟩,
      ⟨[(67, .x (.one (.p (pi k1))))], [], [(68, .x (.one (.p (pi (IntKind.i64.wrap (k1 + (1 : Int)))))))], [], none⟩,
      ⟨[(66, .x (.one (.vw 0))), (68, .x (.one (.p (pi (IntKind.i64.wrap (k1 + (1 : Int)))))))], [(0, some (.arr 1 (List.map encI data8)))], [(69, .x (.one (.ap 0 ((IntKind.i64.wrap (k1 + (1 : Int))).toNat) 0)))], [], none⟩,
      ⟨[(69, .x (.one (.ap 0 ((IntKind.i64.wrap (k1 + (1 : Int))).toNat) 0)))], [(0, some (.arr 1 (List.map encI data8)))], [(70, .x (.one (.p (pi (ix data8 (IntKind.i64.wrap (k1 + (1 : Int))))))))], [], none⟩,
      ⟨[(0, .x (.one (.vw 0)))], [], [(71, .x (.one (.vw 0)))], [], none⟩,
      ⟨[(13, .x (.one (.p (pi k1))))], [], [(72, .x (.one (.p (pi k1))))], [], none⟩,
      ⟨[(71, .x (.one (.vw 0))), (72, .x (.one (.p (pi k1))))], [(0, some (.arr 1 (List.map encI data8)))], [(73, .x (.one (.ap 0 (k1.toNat) 0)))], [], none⟩,
      ⟨[(73, .x (.one (.ap 0 (k1.toNat) 0)))], [(0, some (.arr 1 (List.map encI data8)))], [(74, .x (.one (.p (pi (ix data8 k1)))))], [], none⟩,
      ⟨[(61, .x (.one (.vw 0))), (62, .x (.one (.p (pi k1))))], [(0, some (.arr 1 (List.map encI data8)))], [(75, .x (.one (.ap 0 (k1.toNat) 0)))], [], none⟩,
      ⟨[(70, .x (.one (.p (pi (ix data8 (IntKind.i64.wrap (k1 + (1 : Int)))))))), (75, .x (.one (.ap 0 (k1.toNat) 0)))], [(0, some (.arr 1 (List.map encI data8)))], [], [(0, some (.arr 1 (List.map encI (setI data8 k1 (ix data8 (IntKind.i64.wrap (k1 + (1 : Int))))))))], none⟩] a_32 (⟨220, mkS [(0, .x (.one (.vw 0))), (10, .x (.one (.p (pi i3)))), (13, .x (.one (.p (pi k1))))], mkH [(0, .arr 1 (List.map encI data10)), (1, .var [.p (pi cmp_c)]), (2, .var [.p (.sl 1 (List.map encI cmp_c_1))]), (3, .var [.p (pi cmp_c_2)])]⟩) (by kernel_rfl) (by kernel_rfl) (by kernel_rfl) rfl rfl rfl ?_
              try simp only [thenL, blockL, ↓reduceIte, reduceCtorEq]
              refine lok_rl E0 (⟨220, mkS [(0, .x (.one (.vw 0))), (10, .x (.one (.p (pi i3)))), (13, .x (.one (.p (pi (IntKind.i64.wrap (k1 + (1 : Int)))))))], mkH [(0, .arr 1 (List.map encI data10)), (1, .var [.p (pi cmp_c)]), (2, .var [.p (.sl 1 (List.map encI cmp_c_1))]), (3, .var [.p (pi cmp_c_2)])]⟩) ?_
              try simp only [thenL, blockL, ↓reduceIte, reduceCtorEq]
              exact ⟨((IntKind.i64.wrap (k1 + (1 : Int))), data10), (Option.some.inj H1).symm, imp_au⟩
            · intro b_35
              replace H1 := cneg H1 b_35
              refine lok_exit ?_
              try simp only [thenL, blockL, ↓reduceIte, reduceCtorEq]
              have e_1 := k_1 _ (Option.some.inj H1).symm
              subst e_1
              try dsimp only at H0
              try simp only [thenL, blockL, ↓reduceIte, reduceCtorEq]
              exact ⟨data8, H0, imp_au⟩
      case hxslices_symMergeCmpFunc_int_ratio_Apportion_f1_j14 =>
        refine lok_block ?_
        replace H0 := bind_some H0
        obtain ⟨v_36, hv_36, H0⟩ := H0
        refine lok_iter (fun x_ => ⟨220, mkS [(0, .x (.one (.vw 0))), (1, .x (.one (.p (pi a)))), (4, .x (.one (.fn 9 [1, 2, 3]))), (10, .x (.one (.p (pi x_.1)))), (11, .x (.one (.p (pi x_.2))))], mkH [(0, .arr 1 (List.map encI data)), (1, .var [.p (pi cmp_c)]), (2, .var [.p (.sl 1 (List.map encI cmp_c_1))]), (3, .var [.p (pi cmp_c_2)])]⟩) hv_36 imp_au ?_
        · rintro ⟨i4, j1⟩ o_1 H1 k_1
          unfold slices_symMergeCmpFunc_int_ratio_Apportion_f1_l15 at H1
          try dsimp only at H1 ⊢
          refine lok_seq ?_
          refine lok_rt E0 (⟨220, mkS [(0, .x (.one (.vw 0))), (1, .x (.one (.p (pi a)))), (4, .x (.one (.fn 9 [1, 2, 3]))), (10, .x (.one (.p (pi i4)))), (11, .x (.one (.p (pi j1)))), (33, .x (.one (.p (.val (.bool (decide (i4 < j1)))))))], mkH [(0, .arr 1 (List.map encI data)), (1, .var [.p (pi cmp_c)]), (2, .var [.p (.sl 1 (List.map encI cmp_c_1))]), (3, .var [.p (pi cmp_c_2)])]⟩) ?_
          refine lok_c (decide (i4 < j1)) ?_ ?_
          · intro b_42
            replace H1 := cpos H1 b_42
            refine lok_skip ?_
            try simp only [thenL, blockL, ↓reduceIte, reduceCtorEq]
            refine lok_block ?_
            replace H1 := bindV_some H1
            obtain ⟨h1, a_37, H1⟩ := H1
            refine lok_rtg E0 a_37 (⟨220, mkS [(0, .x (.one (.vw 0))), (1, .x (.one (.p (pi a)))), (4, .x (.one (.fn 9 [1, 2, 3]))), (10, .x (.one (.p (pi i4)))), (11, .x (.one (.p (pi j1)))), (12, .x (.one (.p (pi h1))))], mkH [(0, .arr 1 (List.map encI data)), (1, .var [.p (pi cmp_c)]), (2, .var [.p (.sl 1 (List.map encI cmp_c_1))]), (3, .var [.p (pi cmp_c_2)])]⟩) ?_
            replace H1 := req_some H1
            obtain ⟨⟨q_40, q_41⟩, H1⟩ := H1
            replace H1 := bind_some H1
            obtain ⟨y5, h_38, H1⟩ := H1
            refine lok_dt (Env.of E0 [⟨some 49, 9, [.one (.p (pi (ix data h1))), .one (.p (pi (ix data a))), .one (.ptr 0 0), .one (.ptr 1 0), .one (.ptr 2 0)], [.var [.p (pi cmp_c)], .var [.p (.sl 1 (List.map encI cmp_c_1))], .var [.p (pi cmp_c_2)]], [.one (.p (pi y5))], [some (.var [.p (pi cmp_c)]), some (.var [.p (.sl 1 (List.map encI cmp_c_1))]), some (.var [.p (pi cmp_c_2)])], True, fun _ => ok_ratio_Apportion_f1 (ix data h1) (ix data a) cmp_c cmp_c_1 cmp_c_2 y5 h_38, []⟩]) 9 (⟨220, mkS [(0, .x (.one (.vw 0))), (1, .x (.one (.p (pi a)))), (4, .x (.one (.fn 9 [1, 2, 3]))), (10, .x (.one (.p (pi i4)))), (11, .x (.one (.p (pi j1)))), (12, .x (.one (.p (pi h1)))), (50, .x (.one (.p (.val (.bool (decide (y5 < (0 : Int))))))))], mkH [(0, .arr 1 (List.map encI data)), (1, .var [.p (pi cmp_c)]), (2, .var [.p (.sl 1 (List.map encI cmp_c_1))]), (3, .var [.p (pi cmp_c_2)])]⟩) (by kernel_rfl) (by kernel_rfl) ?_
            refine lok_c (decide (y5 < (0 : Int))) ?_ ?_
            · intro b_39
              replace H1 := cpos H1 b_39
              refine lok_rl E0 (⟨220, mkS [(0, .x (.one (.vw 0))), (1, .x (.one (.p (pi a)))), (4, .x (.one (.fn 9 [1, 2, 3]))), (10, .x (.one (.p (pi (IntKind.i64.wrap (h1 + (1 : Int))))))), (11, .x (.one (.p (pi j1))))], mkH [(0, .arr 1 (List.map encI data)), (1, .var [.p (pi cmp_c)]), (2, .var [.p (.sl 1 (List.map encI cmp_c_1))]), (3, .var [.p (pi cmp_c_2)])]⟩) ?_
              try simp only [thenL, blockL, ↓reduceIte, reduceCtorEq]
              exact ⟨((IntKind.i64.wrap (h1 + (1 : Int))), j1), (Option.some.inj H1).symm, imp_au⟩
            · intro b_39
              replace H1 := cneg H1 b_39
              refine lok_rl E0 (⟨220, mkS [(0, .x (.one (.vw 0))), (1, .x (.one (.p (pi a)))), (4, .x (.one (.fn 9 [1, 2, 3]))), (10, .x (.one (.p (pi i4)))), (11, .x (.one (.p (pi h1))))], mkH [(0, .arr 1 (List.map encI data)), (1, .var [.p (pi cmp_c)]), (2, .var [.p (.sl 1 (List.map encI cmp_c_1))]), (3, .var [.p (pi cmp_c_2)])]⟩) ?_
              try simp only [thenL, blockL, ↓reduceIte, reduceCtorEq]
              exact ⟨(i4, h1), (Option.some.inj H1).symm, imp_au⟩
          · intro b_42
            replace H1 := cneg H1 b_42
            refine lok_exit ?_
            try simp only [thenL, blockL, ↓reduceIte, reduceCtorEq]
            have e_1 := k_1 _ (Option.some.inj H1).symm
            subst e_1
            try dsimp only at H0
            try simp only [thenL, blockL, ↓reduceIte, reduceCtorEq]
            exact ⟨i4, H0, imp_au⟩
    · intro b_43
      replace H0 := cneg H0 b_43
      refine lok_skip ?_
      try simp only [thenL, blockL, ↓reduceIte, reduceCtorEq]
      exact ⟨(), H0, imp_au⟩
theorem ok_slices_symMergeCmpFunc_int_ratio_Apportion_f1 : ∀ (fuel_ : Nat) (data : List Int) (a : Int) (m : Int) (b : Int) (cmp_c : Int) (cmp_c_1 : List Int) (cmp_c_2 : Int) (r_ : (List Int)) (H0 : slices_symMergeCmpFunc_int_ratio_Apportion_f1 fuel_ data a m b cmp_c cmp_c_1 cmp_c_2 = some r_), CallOK Try.prog 17 [.one (.vw 0), .one (.p (pi a)), .one (.p (pi m)), .one (.p (pi b)), .one (.fn 9 [1, 2, 3])] [.arr 1 (List.map encI data), .var [.p (pi cmp_c)], .var [.p (.sl 1 (List.map encI cmp_c_1))], .var [.p (pi cmp_c_2)]] [] [some (.arr 1 (List.map encI r_)), some (.var [.p (pi cmp_c)]), some (.var [.p (.sl 1 (List.map encI cmp_c_1))]), some (.var [.p (pi cmp_c_2)])]
  | 0, data, a, m, b, cmp_c, cmp_c_1, cmp_c_2, r_, H0 => by cases H0
  | fuel_ + 1, data, a, m, b, cmp_c, cmp_c_1, cmp_c_2, r_, H0 => ok_slices_symMergeCmpFunc_int_ratio_Apportion_f1_b (slices_symMergeCmpFunc_int_ratio_Apportion_f1 fuel_) (fun data a m b cmp_c cmp_c_1 cmp_c_2 r_ h => ok_slices_symMergeCmpFunc_int_ratio_Apportion_f1 fuel_ data a m b cmp_c cmp_c_1 cmp_c_2 r_ h) data a m b cmp_c cmp_c_1 cmp_c_2 r_ H0
set_option maxHeartbeats 4000000 in
theorem ok_slices_stableCmpFunc_int_ratio_Apportion_f1 (data : List Int) (n : Int) (cmp_c : Int) (cmp_c_1 : List Int) (cmp_c_2 : Int) (r_ : (List Int)) (H0 : slices_stableCmpFunc_int_ratio_Apportion_f1 data n cmp_c cmp_c_1 cmp_c_2 = some r_) : CallOK Try.prog 12 [.one (.vw 0), .one (.p (pi n)), .one (.fn 9 [1, 2, 3])] [.arr 1 (List.map encI data), .var [.p (pi cmp_c)], .var [.p (.sl 1 (List.map encI cmp_c_1))], .var [.p (pi cmp_c_2)]] [] [some (.arr 1 (List.map encI r_)), some (.var [.p (pi cmp_c)]), some (.var [.p (.sl 1 (List.map encI cmp_c_1))]), some (.var [.p (pi cmp_c_2)])] := by
  refine callOK (n := 63) (rs := []) (nb := 4) (V := [0, 1, 2, 3]) Try.func12 rfl (by kernel_rfl) rfl rfl rfl rfl (Nat.le_of_ble_eq_true rfl) (by decide) ?_
  unfold slices_stableCmpFunc_int_ratio_Apportion_f1 at H0
  refine lok_rt E0 (⟨63, mkS [(0, .x (.one (.vw 0))), (1, .x (.one (.p (pi n)))), (2, .x (.one (.fn 9 [1, 2, 3]))), (6, .x (.one (.p (pi (20 : Int)))))], mkH [(0, .arr 1 (List.map encI data)), (1, .var [.p (pi cmp_c)]), (2, .var [.p (.sl 1 (List.map encI cmp_c_1))]), (3, .var [.p (pi cmp_c_2)])]⟩) ?_
  refine lok_rt E0 (⟨63, mkS [(0, .x (.one (.vw 0))), (1, .x (.one (.p (pi n)))), (2, .x (.one (.fn 9 [1, 2, 3]))), (6, .x (.one (.p (pi (20 : Int))))), (7, .x (.one (.p (pi (0 : Int))))), (8, .x (.one (.p (pi (20 : Int)))))], mkH [(0, .arr 1 (List.map encI data)), (1, .var [.p (pi cmp_c)]), (2, .var [.p (.sl 1 (List.map encI cmp_c_1))]), (3, .var [.p (pi cmp_c_2)])]⟩) ?_
  refine lok_join (fun x_ : Int × (List Int) => slices_stableCmpFunc_int_ratio_Apportion_f1_j5 n cmp_c cmp_c_1 cmp_c_2 x_.1 x_.2 = some r_) (fun x_ => ⟨63, mkS [(0, .x (.one (.vw 0))), (1, .x (.one (.p (pi n)))), (2, .x (.one (.fn 9 [1, 2, 3]))), (6, .x (.one (.p (pi (20 : Int))))), (7, .x (.one (.p (pi x_.1))))], mkH [(0, .arr 1 (List.map encI x_.2)), (1, .var [.p (pi cmp_c)]), (2, .var [.p (.sl 1 (List.map encI cmp_c_1))]), (3, .var [.p (pi cmp_c_2)])]⟩) ?hyslices_stableCmpFunc_int_ratio_Apportion_f1_j5 ?hxslices_stableCmpFunc_int_ratio_Apportion_f1_j5
  case hyslices_stableCmpFunc_int_ratio_Apportion_f1_j5 =>
    rintro ⟨a, data1⟩ H0
    try dsimp only at H0 ⊢
    unfold slices_stableCmpFunc_int_ratio_Apportion_f1_j5 at H0
    replace H0 := bind_some H0
    obtain ⟨y, h_0, H0⟩ := H0
    replace H0 := req_some H0
    obtain ⟨q_10, H0⟩ := H0
    refine lok_rt (Env.of E0 [⟨some 27, 16, [.one (.vw 0), .one (.p (pi a)), .one (.p (pi n)), .one (.fn 9 [1, 2, 3])], [.arr 1 (List.map encI data1), .var [.p (pi cmp_c)], .var [.p (.sl 1 (List.map encI cmp_c_1))], .var [.p (pi cmp_c_2)]], [], [some (.arr 1 (List.map encI y)), some (.var [.p (pi cmp_c)]), some (.var [.p (.sl 1 (List.map encI cmp_c_1))]), some (.var [.p (pi cmp_c_2)])], True, fun _ => ok_slices_insertionSortCmpFunc_int_ratio_Apportion_f1 data1 a n cmp_c cmp_c_1 cmp_c_2 y h_0, [true, false, false, false]⟩]) (⟨63, mkS [(0, .x (.one (.vw 0))), (1, .x (.one (.p (pi n)))), (2, .x (.one (.fn 9 [1, 2, 3]))), (6, .x (.one (.p (pi (20 : Int)))))], mkH [(0, .arr 1 (List.map encI y)), (1, .var [.p (pi cmp_c)]), (2, .var [.p (.sl 1 (List.map encI cmp_c_1))]), (3, .var [.p (pi cmp_c_2)])]⟩) ?_
    refine lok_block ?_
    replace H0 := bind_some H0
    obtain ⟨v_1, hv_1, H0⟩ := H0
    refine lok_iter (fun x_ => ⟨63, mkS [(0, .x (.one (.vw 0))), (1, .x (.one (.p (pi n)))), (2, .x (.one (.fn 9 [1, 2, 3]))), (6, .x (.one (.p (pi x_.1))))], mkH [(0, .arr 1 (List.map encI x_.2)), (1, .var [.p (pi cmp_c)]), (2, .var [.p (.sl 1 (List.map encI cmp_c_1))]), (3, .var [.p (pi cmp_c_2)])]⟩) hv_1 imp_au ?_
    · rintro ⟨blockSize, data2⟩ o_1 H1 k_1
      unfold slices_stableCmpFunc_int_ratio_Apportion_f1_l4 at H1
      try dsimp only at H1 ⊢
      refine lok_seq ?_
      refine lok_rt E0 (⟨63, mkS [(0, .x (.one (.vw 0))), (1, .x (.one (.p (pi n)))), (2, .x (.one (.fn 9 [1, 2, 3]))), (6, .x (.one (.p (pi blockSize)))), (30, .x (.one (.p (.val (.bool (decide (blockSize < n)))))))], mkH [(0, .arr 1 (List.map encI data2)), (1, .var [.p (pi cmp_c)]), (2, .var [.p (.sl 1 (List.map encI cmp_c_1))]), (3, .var [.p (pi cmp_c_2)])]⟩) ?_
      refine lok_c (decide (blockSize < n)) ?_ ?_
      · intro b_9
        replace H1 := cpos H1 b_9
        refine lok_skip ?_
        try simp only [thenL, blockL, ↓reduceIte, reduceCtorEq]
        refine lok_block ?_
        refine lok_rt E0 (⟨63, mkS [(0, .x (.one (.vw 0))), (1, .x (.one (.p (pi n)))), (2, .x (.one (.fn 9 [1, 2, 3]))), (6, .x (.one (.p (pi blockSize)))), (7, .x (.one (.p (pi (0 : Int))))), (8, .x (.one (.p (pi (IntKind.i64.wrap ((2 : Int) * blockSize))))))], mkH [(0, .arr 1 (List.map encI data2)), (1, .var [.p (pi cmp_c)]), (2, .var [.p (.sl 1 (List.map encI cmp_c_1))]), (3, .var [.p (pi cmp_c_2)])]⟩) ?_
        refine lok_join (fun x_ : Int × (List Int) => slices_stableCmpFunc_int_ratio_Apportion_f1_j2 n cmp_c cmp_c_1 cmp_c_2 blockSize x_.1 x_.2 = some o_1) (fun x_ => ⟨63, mkS [(0, .x (.one (.vw 0))), (1, .x (.one (.p (pi n)))), (2, .x (.one (.fn 9 [1, 2, 3]))), (6, .x (.one (.p (pi blockSize)))), (7, .x (.one (.p (pi x_.1))))], mkH [(0, .arr 1 (List.map encI x_.2)), (1, .var [.p (pi cmp_c)]), (2, .var [.p (.sl 1 (List.map encI cmp_c_1))]), (3, .var [.p (pi cmp_c_2)])]⟩) ?hyslices_stableCmpFunc_int_ratio_Apportion_f1_j2 ?hxslices_stableCmpFunc_int_ratio_Apportion_f1_j2
        case hyslices_stableCmpFunc_int_ratio_Apportion_f1_j2 =>
          rintro ⟨a1, data4⟩ H1
          try dsimp only at H1 ⊢
          unfold slices_stableCmpFunc_int_ratio_Apportion_f1_j2 at H1
          refine lok_join (fun x_ : (List Int) => slices_stableCmpFunc_int_ratio_Apportion_f1_j1 blockSize x_ = some o_1) (fun x_ => ⟨63, mkS [(0, .x (.one (.vw 0))), (1, .x (.one (.p (pi n)))), (2, .x (.one (.fn 9 [1, 2, 3]))), (6, .x (.one (.p (pi blockSize))))], mkH [(0, .arr 1 (List.map encI x_)), (1, .var [.p (pi cmp_c)]), (2, .var [.p (.sl 1 (List.map encI cmp_c_1))]), (3, .var [.p (pi cmp_c_2)])]⟩) ?hyslices_stableCmpFunc_int_ratio_Apportion_f1_j1 ?hxslices_stableCmpFunc_int_ratio_Apportion_f1_j1
          case hyslices_stableCmpFunc_int_ratio_Apportion_f1_j1 =>
            rintro data5 H1
            try dsimp only at H1 ⊢
            unfold slices_stableCmpFunc_int_ratio_Apportion_f1_j1 at H1
            refine lok_rl E0 (⟨63, mkS [(0, .x (.one (.vw 0))), (1, .x (.one (.p (pi n)))), (2, .x (.one (.fn 9 [1, 2, 3]))), (6, .x (.one (.p (pi (IntKind.i64.wrap (blockSize * (2 : Int)))))))], mkH [(0, .arr 1 (List.map encI data5)), (1, .var [.p (pi cmp_c)]), (2, .var [.p (.sl 1 (List.map encI cmp_c_1))]), (3, .var [.p (pi cmp_c_2)])]⟩) ?_
            try simp only [thenL, blockL, ↓reduceIte, reduceCtorEq]
            exact ⟨((IntKind.i64.wrap (blockSize * (2 : Int))), data5), (Option.some.inj H1).symm, imp_au⟩
          case hxslices_stableCmpFunc_int_ratio_Apportion_f1_j1 =>
            refine lok_rt E0 (⟨63, mkS [(0, .x (.one (.vw 0))), (1, .x (.one (.p (pi n)))), (2, .x (.one (.fn 9 [1, 2, 3]))), (6, .x (.one (.p (pi blockSize)))), (7, .x (.one (.p (pi a1)))), (9, .x (.one (.p (pi (IntKind.i64.wrap (a1 + blockSize))))))], mkH [(0, .arr 1 (List.map encI data4)), (1, .var [.p (pi cmp_c)]), (2, .var [.p (.sl 1 (List.map encI cmp_c_1))]), (3, .var [.p (pi cmp_c_2)])]⟩) ?_
            refine lok_rt E0 (⟨63, mkS [(0, .x (.one (.vw 0))), (1, .x (.one (.p (pi n)))), (2, .x (.one (.fn 9 [1, 2, 3]))), (6, .x (.one (.p (pi blockSize)))), (7, .x (.one (.p (pi a1)))), (9, .x (.one (.p (pi (IntKind.i64.wrap (a1 + blockSize)))))), (54, .x (.one (.p (.val (.bool (decide ((IntKind.i64.wrap (a1 + blockSize)) < n)))))))], mkH [(0, .arr 1 (List.map encI data4)), (1, .var [.p (pi cmp_c)]), (2, .var [.p (.sl 1 (List.map encI cmp_c_1))]), (3, .var [.p (pi cmp_c_2)])]⟩) ?_
            refine lok_c (decide ((IntKind.i64.wrap (a1 + blockSize)) < n)) ?_ ?_
            · intro b_4
              replace H1 := cpos H1 b_4
              replace H1 := bind_some H1
              obtain ⟨y1, h_2, H1⟩ := H1
              replace H1 := req_some H1
              obtain ⟨q_3, H1⟩ := H1
              refine lok_rl (Env.of E0 [⟨some 60, 17, [.one (.vw 0), .one (.p (pi a1)), .one (.p (pi (IntKind.i64.wrap (a1 + blockSize)))), .one (.p (pi n)), .one (.fn 9 [1, 2, 3])], [.arr 1 (List.map encI data4), .var [.p (pi cmp_c)], .var [.p (.sl 1 (List.map encI cmp_c_1))], .var [.p (pi cmp_c_2)]], [], [some (.arr 1 (List.map encI y1)), some (.var [.p (pi cmp_c)]), some (.var [.p (.sl 1 (List.map encI cmp_c_1))]), some (.var [.p (pi cmp_c_2)])], True, fun _ => ok_slices_symMergeCmpFunc_int_ratio_Apportion_f1 1000 data4 a1 (IntKind.i64.wrap (a1 + blockSize)) n cmp_c cmp_c_1 cmp_c_2 y1 h_2, [true, false, false, false, false]⟩]) (⟨63, mkS [(0, .x (.one (.vw 0))), (1, .x (.one (.p (pi n)))), (2, .x (.one (.fn 9 [1, 2, 3]))), (6, .x (.one (.p (pi blockSize))))], mkH [(0, .arr 1 (List.map encI y1)), (1, .var [.p (pi cmp_c)]), (2, .var [.p (.sl 1 (List.map encI cmp_c_1))]), (3, .var [.p (pi cmp_c_2)])]⟩) ?_
              try simp only [thenL, blockL, ↓reduceIte, reduceCtorEq]
              exact ⟨y1, H1, imp_au⟩
            · intro b_4
              replace H1 := cneg H1 b_4
              refine lok_skip ?_
              try simp only [thenL, blockL, ↓reduceIte, reduceCtorEq]
              exact ⟨data4, H1, imp_au⟩
        case hxslices_stableCmpFunc_int_ratio_Apportion_f1_j2 =>
          refine lok_block ?_
          replace H1 := bind_some H1
          obtain ⟨v_5, hv_5, H1⟩ := H1
          refine lok_iter (fun x_ => ⟨63, mkS [(0, .x (.one (.vw 0))), (1, .x (.one (.p (pi n)))), (2, .x (.one (.fn 9 [1, 2, 3]))), (6, .x (.one (.p (pi blockSize)))), (7, .x (.one (.p (pi x_.1)))), (8, .x (.one (.p (pi x_.2.1))))], mkH [(0, .arr 1 (List.map encI x_.2.2)), (1, .var [.p (pi cmp_c)]), (2, .var [.p (.sl 1 (List.map encI cmp_c_1))]), (3, .var [.p (pi cmp_c_2)])]⟩) hv_5 imp_au ?_
          · rintro ⟨a2, b, data6⟩ o_2 H2 k_2
            unfold slices_stableCmpFunc_int_ratio_Apportion_f1_l3 at H2
            try dsimp only at H2 ⊢
            refine lok_seq ?_
            refine lok_rt E0 (⟨63, mkS [(0, .x (.one (.vw 0))), (1, .x (.one (.p (pi n)))), (2, .x (.one (.fn 9 [1, 2, 3]))), (6, .x (.one (.p (pi blockSize)))), (7, .x (.one (.p (pi a2)))), (8, .x (.one (.p (pi b)))), (35, .x (.one (.p (.val (.bool (decide (b ≤ n)))))))], mkH [(0, .arr 1 (List.map encI data6)), (1, .var [.p (pi cmp_c)]), (2, .var [.p (.sl 1 (List.map encI cmp_c_1))]), (3, .var [.p (pi cmp_c_2)])]⟩) ?_
            refine lok_c (decide (b ≤ n)) ?_ ?_
            · intro b_8
              replace H2 := cpos H2 b_8
              refine lok_skip ?_
              try simp only [thenL, blockL, ↓reduceIte, reduceCtorEq]
              refine lok_block ?_
              replace H2 := bind_some H2
              obtain ⟨y2, h_6, H2⟩ := H2
              replace H2 := req_some H2
              obtain ⟨q_7, H2⟩ := H2
              refine lok_rt (Env.of E0 [⟨some 43, 17, [.one (.vw 0), .one (.p (pi a2)), .one (.p (pi (IntKind.i64.wrap (a2 + blockSize)))), .one (.p (pi b)), .one (.fn 9 [1, 2, 3])], [.arr 1 (List.map encI data6), .var [.p (pi cmp_c)], .var [.p (.sl 1 (List.map encI cmp_c_1))], .var [.p (pi cmp_c_2)]], [], [some (.arr 1 (List.map encI y2)), some (.var [.p (pi cmp_c)]), some (.var [.p (.sl 1 (List.map encI cmp_c_1))]), some (.var [.p (pi cmp_c_2)])], True, fun _ => ok_slices_symMergeCmpFunc_int_ratio_Apportion_f1 1000 data6 a2 (IntKind.i64.wrap (a2 + blockSize)) b cmp_c cmp_c_1 cmp_c_2 y2 h_6, [true, false, false, false, false]⟩]) (⟨63, mkS [(0, .x (.one (.vw 0))), (1, .x (.one (.p (pi n)))), (2, .x (.one (.fn 9 [1, 2, 3]))), (6, .x (.one (.p (pi blockSize)))), (8, .x (.one (.p (pi b))))], mkH [(0, .arr 1 (List.map encI y2)), (1, .var [.p (pi cmp_c)]), (2, .var [.p (.sl 1 (List.map encI cmp_c_1))]), (3, .var [.p (pi cmp_c_2)])]⟩) ?_
              refine lok_rt E0 (⟨63, mkS [(0, .x (.one (.vw 0))), (1, .x (.one (.p (pi n)))), (2, .x (.one (.fn 9 [1, 2, 3]))), (6, .x (.one (.p (pi blockSize)))), (7, .x (.one (.p (pi b)))), (8, .x (.one (.p (pi b))))], mkH [(0, .arr 1 (List.map encI y2)), (1, .var [.p (pi cmp_c)]), (2, .var [.p (.sl 1 (List.map encI cmp_c_1))]), (3, .var [.p (pi cmp_c_2)])]⟩) ?_
              refine lok_rl E0 (⟨63, mkS [(0, .x (.one (.vw 0))), (1, .x (.one (.p (pi n)))), (2, .x (.one (.fn 9 [1, 2, 3]))), (6, .x (.one (.p (pi blockSize)))), (7, .x (.one (.p (pi b)))), (8, .x (.one (.p (pi (IntKind.i64.wrap (b + (IntKind.i64.wrap ((2 : Int) * blockSize))))))))], mkH [(0, .arr 1 (List.map encI y2)), (1, .var [.p (pi cmp_c)]), (2, .var [.p (.sl 1 (List.map encI cmp_c_1))]), (3, .var [.p (pi cmp_c_2)])]⟩) ?_
              try simp only [thenL, blockL, ↓reduceIte, reduceCtorEq]
              exact ⟨(b, (IntKind.i64.wrap (b + (IntKind.i64.wrap ((2 : Int) * blockSize)))), y2), (Option.some.inj H2).symm, imp_au⟩
            · intro b_8
              replace H2 := cneg H2 b_8
              refine lok_exit ?_
              try simp only [thenL, blockL, ↓reduceIte, reduceCtorEq]
              have e_2 := k_2 _ (Option.some.inj H2).symm
              subst e_2
              try dsimp only at H1
              try simp only [thenL, blockL, ↓reduceIte, reduceCtorEq]
              exact ⟨(a2, data6), H1, imp_au⟩
      · intro b_9
        replace H1 := cneg H1 b_9
        refine lok_exit ?_
        try simp only [thenL, blockL, ↓reduceIte, reduceCtorEq]
        have e_1 := k_1 _ (Option.some.inj H1).symm
        subst e_1
        try dsimp only at H0
        try obtain rfl := Option.some.inj H0
        try simp only [thenL, blockL]
        exact fin_au _ (.inl rfl) [0, 1, 2, 3] (⟨63, mkS [], mkH [(0, .arr 1 (List.map encI data2)), (1, .var [.p (pi cmp_c)]), (2, .var [.p (.sl 1 (List.map encI cmp_c_1))]), (3, .var [.p (pi cmp_c_2)])]⟩) rfl rfl imp_au
  case hxslices_stableCmpFunc_int_ratio_Apportion_f1_j5 =>
    refine lok_block ?_
    replace H0 := bind_some H0
    obtain ⟨v_11, hv_11, H0⟩ := H0
    refine lok_iter (fun x_ => ⟨63, mkS [(0, .x (.one (.vw 0))), (1, .x (.one (.p (pi n)))), (2, .x (.one (.fn 9 [1, 2, 3]))), (6, .x (.one (.p (pi (20 : Int))))), (7, .x (.one (.p (pi x_.1)))), (8, .x (.one (.p (pi x_.2.1))))], mkH [(0, .arr 1 (List.map encI x_.2.2)), (1, .var [.p (pi cmp_c)]), (2, .var [.p (.sl 1 (List.map encI cmp_c_1))]), (3, .var [.p (pi cmp_c_2)])]⟩) hv_11 imp_au ?_
    · rintro ⟨a4, b1, data8⟩ o_1 H1 k_1
      unfold slices_stableCmpFunc_int_ratio_Apportion_f1_l6 at H1
      try dsimp only at H1 ⊢
      refine lok_seq ?_
      refine lok_rt E0 (⟨63, mkS [(0, .x (.one (.vw 0))), (1, .x (.one (.p (pi n)))), (2, .x (.one (.fn 9 [1, 2, 3]))), (6, .x (.one (.p (pi (20 : Int))))), (7, .x (.one (.p (pi a4)))), (8, .x (.one (.p (pi b1)))), (13, .x (.one (.p (.val (.bool (decide (b1 ≤ n)))))))], mkH [(0, .arr 1 (List.map encI data8)), (1, .var [.p (pi cmp_c)]), (2, .var [.p (.sl 1 (List.map encI cmp_c_1))]), (3, .var [.p (pi cmp_c_2)])]⟩) ?_
      refine lok_c (decide (b1 ≤ n)) ?_ ?_
      · intro b_14
        replace H1 := cpos H1 b_14
        refine lok_skip ?_
        try simp only [thenL, blockL, ↓reduceIte, reduceCtorEq]
        refine lok_block ?_
        replace H1 := bind_some H1
        obtain ⟨y3, h_12, H1⟩ := H1
        replace H1 := req_some H1
        obtain ⟨q_13, H1⟩ := H1
        refine lok_rt (Env.of E0 [⟨some 18, 16, [.one (.vw 0), .one (.p (pi a4)), .one (.p (pi b1)), .one (.fn 9 [1, 2, 3])], [.arr 1 (List.map encI data8), .var [.p (pi cmp_c)], .var [.p (.sl 1 (List.map encI cmp_c_1))], .var [.p (pi cmp_c_2)]], [], [some (.arr 1 (List.map encI y3)), some (.var [.p (pi cmp_c)]), some (.var [.p (.sl 1 (List.map encI cmp_c_1))]), some (.var [.p (pi cmp_c_2)])], True, fun _ => ok_slices_insertionSortCmpFunc_int_ratio_Apportion_f1 data8 a4 b1 cmp_c cmp_c_1 cmp_c_2 y3 h_12, [true, false, false, false]⟩]) (⟨63, mkS [(0, .x (.one (.vw 0))), (1, .x (.one (.p (pi n)))), (2, .x (.one (.fn 9 [1, 2, 3]))), (6, .x (.one (.p (pi (20 : Int))))), (8, .x (.one (.p (pi b1))))], mkH [(0, .arr 1 (List.map encI y3)), (1, .var [.p (pi cmp_c)]), (2, .var [.p (.sl 1 (List.map encI cmp_c_1))]), (3, .var [.p (pi cmp_c_2)])]⟩) ?_
        refine lok_rt E0 (⟨63, mkS [(0, .x (.one (.vw 0))), (1, .x (.one (.p (pi n)))), (2, .x (.one (.fn 9 [1, 2, 3]))), (6, .x (.one (.p (pi (20 : Int))))), (7, .x (.one (.p (pi b1)))), (8, .x (.one (.p (pi b1))))], mkH [(0, .arr 1 (List.map encI y3)), (1, .var [.p (pi cmp_c)]), (2, .var [.p (.sl 1 (List.map encI cmp_c_1))]), (3, .var [.p (pi cmp_c_2)])]⟩) ?_
        refine lok_rl E0 (⟨63, mkS [(0, .x (.one (.vw 0))), (1, .x (.one (.p (pi n)))), (2, .x (.one (.fn 9 [1, 2, 3]))), (6, .x (.one (.p (pi (20 : Int))))), (7, .x (.one (.p (pi b1)))), (8, .x (.one (.p (pi (IntKind.i64.wrap (b1 + (20 : Int)))))))], mkH [(0, .arr 1 (List.map encI y3)), (1, .var [.p (pi cmp_c)]), (2, .var [.p (.sl 1 (List.map encI cmp_c_1))]), (3, .var [.p (pi cmp_c_2)])]⟩) ?_
        try simp only [thenL, blockL, ↓reduceIte, reduceCtorEq]
        exact ⟨(b1, (IntKind.i64.wrap (b1 + (20 : Int))), y3), (Option.some.inj H1).symm, imp_au⟩
      · intro b_14
        replace H1 := cneg H1 b_14
        refine lok_exit ?_
        try simp only [thenL, blockL, ↓reduceIte, reduceCtorEq]
        have e_1 := k_1 _ (Option.some.inj H1).symm
        subst e_1
        try dsimp only at H0
        try simp only [thenL, blockL, ↓reduceIte, reduceCtorEq]
        exact ⟨(a4, data8), H0, imp_au⟩
theorem ok_slices_SortStableFunc_intint_ratio_Apportion_f1 (x : List Int) (cmp_c : Int) (cmp_c_1 : List Int) (cmp_c_2 : Int) (r_ : (List Int)) (H0 : slices_SortStableFunc_intint_ratio_Apportion_f1 x cmp_c cmp_c_1 cmp_c_2 = some r_) : CallOK Try.prog 8 [.one (.vw 0), .one (.fn 9 [1, 2, 3])] [.arr 1 (List.map encI x), .var [.p (pi cmp_c)], .var [.p (.sl 1 (List.map encI cmp_c_1))], .var [.p (pi cmp_c_2)]] [] [some (.arr 1 (List.map encI r_)), some (.var [.p (pi cmp_c)]), some (.var [.p (.sl 1 (List.map encI cmp_c_1))]), some (.var [.p (pi cmp_c_2)])] := by
  refine callOK (n := 9) (rs := []) (nb := 4) (V := [0, 1, 2, 3]) Try.func8 rfl (by kernel_rfl) rfl rfl rfl rfl (Nat.le_of_ble_eq_true rfl) (by decide) ?_
  unfold slices_SortStableFunc_intint_ratio_Apportion_f1 at H0
  replace H0 := bind_some H0
  obtain ⟨y, h_0, H0⟩ := H0
  replace H0 := req_some H0
  obtain ⟨q_1, H0⟩ := H0
  refine lok_rl (Env.of E0 [⟨some 8, 12, [.one (.vw 0), .one (.p (pi (x.length : Int))), .one (.fn 9 [1, 2, 3])], [.arr 1 (List.map encI x), .var [.p (pi cmp_c)], .var [.p (.sl 1 (List.map encI cmp_c_1))], .var [.p (pi cmp_c_2)]], [], [some (.arr 1 (List.map encI y)), some (.var [.p (pi cmp_c)]), some (.var [.p (.sl 1 (List.map encI cmp_c_1))]), some (.var [.p (pi cmp_c_2)])], True, fun _ => ok_slices_stableCmpFunc_int_ratio_Apportion_f1 x (x.length : Int) cmp_c cmp_c_1 cmp_c_2 y h_0, [true, false, false]⟩]) (⟨9, mkS [], mkH [(0, .arr 1 (List.map encI y)), (1, .var [.p (pi cmp_c)]), (2, .var [.p (.sl 1 (List.map encI cmp_c_1))]), (3, .var [.p (pi cmp_c_2)])]⟩) ?_
  try obtain rfl := Option.some.inj H0
  try simp only [thenL, blockL]
  exact fin_au _ (.inl rfl) [0, 1, 2, 3] (⟨9, mkS [], mkH [(0, .arr 1 (List.map encI y)), (1, .var [.p (pi cmp_c)]), (2, .var [.p (.sl 1 (List.map encI cmp_c_1))]), (3, .var [.p (pi cmp_c_2)])]⟩) rfl rfl imp_au
set_option maxHeartbeats 4000000 in
theorem ok_ratio_Apportion (total : Int) (weights : List Int) (r_ : (List Int) × Int) (H0 : ratio_Apportion total weights = some r_) : CallOK Try.prog 4 [.one (.p (pi total)), .one (.p (.sl 1 (List.map encI weights)))] [] [.one (.p (.sl 1 (List.map encI r_.1))), .one (.p (pi r_.2))] [] := by
  refine callOK (n := 99) (rs := [.tmp 4, .tmp 5]) (nb := 0) (V := []) Try.func4 rfl (by kernel_rfl) rfl rfl rfl rfl (Nat.le_of_ble_eq_true rfl) (by decide) ?_
  unfold ratio_Apportion at H0
  refine lok_rt E0 (⟨99, mkS [(2, .x (.one (.ptr 102 0))), (3, .x (.one (.ptr 103 0)))], mkH [(102, .var [.p (pi total)]), (103, .var [.p (.sl 1 (List.map encI weights))])]⟩) ?_
  refine lok_seq ?_
  refine lok_rt E0 (⟨99, mkS [(2, .x (.one (.ptr 102 0))), (3, .x (.one (.ptr 103 0))), (17, .x (.one (.p (.val (.bool (decide ((100 : Int) < (weights.length : Int))))))))], mkH [(102, .var [.p (pi total)]), (103, .var [.p (.sl 1 (List.map encI weights))])]⟩) ?_
  refine lok_c (decide ((100 : Int) < (weights.length : Int))) ?_ ?_
  · intro b_22
    replace H0 := cpos H0 b_22
    refine lok_rt E0 (⟨99, mkS [(4, .x (.one (.vw 104))), (5, .x (.one (.p (pi (3 : Int)))))], mkH [(104, .arr 1 (List.map encI ([] : List Int)))]⟩) ?_
    refine lok_ret ?_
    try obtain rfl := Option.some.inj H0
    try simp only [thenL, blockL]
    exact fin_au _ (.inr rfl) [] (⟨99, mkS [(4, .x (.one (.p (.sl 1 (List.map encI ([] : List Int)))))), (5, .x (.one (.p (pi (3 : Int)))))], mkH []⟩) rfl rfl (Imp.trans (imp_frz 104 1 (List.map encI ([] : List Int))) imp_au)
  · intro b_22
    replace H0 := cneg H0 b_22
    refine lok_skip ?_
    try simp only [thenL, blockL, ↓reduceIte, reduceCtorEq]
    refine lok_seq ?_
    refine lok_rt E0 (⟨99, mkS [(2, .x (.one (.ptr 102 0))), (3, .x (.one (.ptr 103 0))), (23, .x (.one (.p (.val (.bool ((decide (total < (0 : Int))) || (decide ((1073741824 : Int) < total))))))))], mkH [(102, .var [.p (pi total)]), (103, .var [.p (.sl 1 (List.map encI weights))])]⟩) ?_
    refine lok_c ((decide (total < (0 : Int))) || (decide ((1073741824 : Int) < total))) ?_ ?_
    · intro b_21
      replace H0 := cpos H0 b_21
      refine lok_rt E0 (⟨99, mkS [(4, .x (.one (.vw 104))), (5, .x (.one (.p (pi (2 : Int)))))], mkH [(104, .arr 1 (List.map encI ([] : List Int)))]⟩) ?_
      refine lok_ret ?_
      try obtain rfl := Option.some.inj H0
      try simp only [thenL, blockL]
      exact fin_au _ (.inr rfl) [] (⟨99, mkS [(4, .x (.one (.p (.sl 1 (List.map encI ([] : List Int)))))), (5, .x (.one (.p (pi (2 : Int)))))], mkH []⟩) rfl rfl (Imp.trans (imp_frz 104 1 (List.map encI ([] : List Int))) imp_au)
    · intro b_21
      replace H0 := cneg H0 b_21
      refine lok_skip ?_
      try simp only [thenL, blockL, ↓reduceIte, reduceCtorEq]
      refine lok_rt E0 (⟨99, mkS [(2, .x (.one (.ptr 102 0))), (3, .x (.one (.ptr 103 0))), (6, .x (.one (.ptr 106 0)))], mkH [(102, .var [.p (pi total)]), (103, .var [.p (.sl 1 (List.map encI weights))]), (106, .var [.p (pi (0 : Int))])]⟩) ?_
      refine lok_join (fun x_ : Int => ratio_Apportion_j5 total weights x_ = some r_) (fun x_ => ⟨99, mkS [(2, .x (.one (.ptr 102 0))), (3, .x (.one (.ptr 103 0))), (6, .x (.one (.ptr 106 0)))], mkH [(102, .var [.p (pi total)]), (103, .var [.p (.sl 1 (List.map encI weights))]), (106, .var [.p (pi x_)])]⟩) ?hyratio_Apportion_j5 ?hxratio_Apportion_j5
      case hyratio_Apportion_j5 =>
        rintro sum H0
        try dsimp only at H0 ⊢
        unfold ratio_Apportion_j5 at H0
        refine lok_seq ?_
        refine lok_rt E0 (⟨99, mkS [(2, .x (.one (.ptr 102 0))), (3, .x (.one (.ptr 103 0))), (6, .x (.one (.ptr 106 0))), (41, .x (.one (.p (.val (.bool (sum == (0 : Int)))))))], mkH [(102, .var [.p (pi total)]), (103, .var [.p (.sl 1 (List.map encI weights))]), (106, .var [.p (pi sum)])]⟩) ?_
        refine lok_c (sum == (0 : Int)) ?_ ?_
        · intro b_16
          replace H0 := cpos H0 b_16
          refine lok_rt E0 (⟨99, mkS [(4, .x (.one (.vw 104))), (5, .x (.one (.p (pi (10 : Int)))))], mkH [(104, .arr 1 (List.map encI ([] : List Int)))]⟩) ?_
          refine lok_ret ?_
          try obtain rfl := Option.some.inj H0
          try simp only [thenL, blockL]
          exact fin_au _ (.inr rfl) [] (⟨99, mkS [(4, .x (.one (.p (.sl 1 (List.map encI ([] : List Int)))))), (5, .x (.one (.p (pi (10 : Int)))))], mkH []⟩) rfl rfl (Imp.trans (imp_frz 104 1 (List.map encI ([] : List Int))) imp_au)
        · intro b_16
          replace H0 := cneg H0 b_16
          refine lok_skip ?_
          try simp only [thenL, blockL, ↓reduceIte, reduceCtorEq]
          replace H0 := req_some H0
          obtain ⟨q_15, H0⟩ := H0
          refine lok_rt E0 (⟨99, mkS [(2, .x (.one (.ptr 102 0))), (3, .x (.one (.ptr 103 0))), (6, .x (.one (.ptr 106 0))), (9, .x (.one (.vw 144)))], mkH [(102, .var [.p (pi total)]), (103, .var [.p (.sl 1 (List.map encI weights))]), (106, .var [.p (pi sum)]), (144, .arr 1 (List.map encI (rep (weights.length : Int) (0 : Int))))]⟩) ?_
          replace H0 := req_some H0
          obtain ⟨q_14, H0⟩ := H0
          refine lok_rt E0 (⟨99, mkS [(2, .x (.one (.ptr 102 0))), (3, .x (.one (.ptr 103 0))), (6, .x (.one (.ptr 106 0))), (9, .x (.one (.vw 144))), (10, .x (.one (.vw 147)))], mkH [(102, .var [.p (pi total)]), (103, .var [.p (.sl 1 (List.map encI weights))]), (106, .var [.p (pi sum)]), (144, .arr 1 (List.map encI (rep (weights.length : Int) (0 : Int)))), (147, .arr 1 (List.map encI (rep (weights.length : Int) (0 : Int))))]⟩) ?_
          refine lok_rt E0 (⟨99, mkS [(2, .x (.one (.ptr 102 0))), (3, .x (.one (.ptr 103 0))), (6, .x (.one (.ptr 106 0))), (9, .x (.one (.vw 144))), (10, .x (.one (.vw 147))), (11, .x (.one (.p (pi total))))], mkH [(102, .var [.p (pi total)]), (103, .var [.p (.sl 1 (List.map encI weights))]), (106, .var [.p (pi sum)]), (144, .arr 1 (List.map encI (rep (weights.length : Int) (0 : Int)))), (147, .arr 1 (List.map encI (rep (weights.length : Int) (0 : Int))))]⟩) ?_
          refine lok_join (fun x_ : Int × (List Int) × (List Int) => ratio_Apportion_j3 total weights sum x_.1 x_.2.1 x_.2.2 = some r_) (fun x_ => ⟨99, mkS [(2, .x (.one (.ptr 102 0))), (3, .x (.one (.ptr 103 0))), (6, .x (.one (.ptr 106 0))), (9, .x (.one (.vw 144))), (10, .x (.one (.vw 147))), (11, .x (.one (.p (pi x_.1))))], mkH [(102, .var [.p (pi total)]), (103, .var [.p (.sl 1 (List.map encI weights))]), (106, .var [.p (pi sum)]), (144, .arr 1 (List.map encI x_.2.1)), (147, .arr 1 (List.map encI x_.2.2))]⟩) ?hyratio_Apportion_j3 ?hxratio_Apportion_j3
          case hyratio_Apportion_j3 =>
            rintro ⟨left, w, w1⟩ H0
            try dsimp only at H0 ⊢
            unfold ratio_Apportion_j3 at H0
            replace H0 := bind_some H0
            obtain ⟨y, h_0, H0⟩ := H0
            replace H0 := req_some H0
            obtain ⟨q_5, H0⟩ := H0
            refine lok_rt (Env.of E0 [⟨some 77, 8, [.one (.vw 0), .one (.fn 9 [1, 2, 3])], [.arr 1 (List.map encI w1), .var [.p (pi total)], .var [.p (.sl 1 (List.map encI weights))], .var [.p (pi sum)]], [], [some (.arr 1 (List.map encI y)), some (.var [.p (pi total)]), some (.var [.p (.sl 1 (List.map encI weights))]), some (.var [.p (pi sum)])], True, fun _ => ok_slices_SortStableFunc_intint_ratio_Apportion_f1 w1 total weights sum y h_0, [true, false]⟩]) (⟨99, mkS [(9, .x (.one (.vw 144))), (10, .x (.one (.vw 147))), (11, .x (.one (.p (pi left))))], mkH [(144, .arr 1 (List.map encI w)), (147, .arr 1 (List.map encI y))]⟩) ?_
            refine lok_join (fun x_ : (List Int) => ratio_Apportion_j1 x_ = some r_) (fun x_ => ⟨99, mkS [(9, .x (.one (.vw 144)))], mkH [(144, .arr 1 (List.map encI x_))]⟩) ?hyratio_Apportion_j1 ?hxratio_Apportion_j1
            case hyratio_Apportion_j1 =>
              rintro w2 H0
              try dsimp only at H0 ⊢
              unfold ratio_Apportion_j1 at H0
              refine lok_rt E0 (⟨99, mkS [(4, .x (.one (.vw 144))), (5, .x (.one (.p (pi (0 : Int)))))], mkH [(144, .arr 1 (List.map encI w2))]⟩) ?_
              refine lok_ret ?_
              try obtain rfl := Option.some.inj H0
              try simp only [thenL, blockL]
              exact fin_au _ (.inr rfl) [] (⟨99, mkS [(4, .x (.one (.p (.sl 1 (List.map encI w2))))), (5, .x (.one (.p (pi (0 : Int)))))], mkH []⟩) rfl rfl (Imp.trans (imp_frz 144 1 (List.map encI w2)) imp_au)
            case hxratio_Apportion_j1 =>
              refine lok_rt E0 (⟨99, mkS [(9, .x (.one (.vw 144))), (10, .x (.one (.vw 147))), (11, .x (.one (.p (pi left)))), (14, .x (.one (.p (pi (0 : Int)))))], mkH [(144, .arr 1 (List.map encI w)), (147, .arr 1 (List.map encI y))]⟩) ?_
              refine lok_block ?_
              replace H0 := bind_some H0
              obtain ⟨v_1, hv_1, H0⟩ := H0
              refine lok_iter (fun x_ => ⟨99, mkS [(9, .x (.one (.vw 144))), (10, .x (.one (.vw 147))), (11, .x (.one (.p (pi left)))), (14, .x (.one (.p (pi x_.1))))], mkH [(144, .arr 1 (List.map encI x_.2)), (147, .arr 1 (List.map encI y))]⟩) hv_1 imp_au ?_
              · rintro ⟨k, w3⟩ o_1 H1 k_1
                unfold ratio_Apportion_l2 at H1
                try dsimp only at H1 ⊢
                refine lok_seq ?_
                refine lok_rt E0 (⟨99, mkS [(9, .x (.one (.vw 144))), (10, .x (.one (.vw 147))), (11, .x (.one (.p (pi left)))), (14, .x (.one (.p (pi k)))), (86, .x (.one (.p (.val (.bool ((decide (k < left)) && (decide (k < (y.length : Int)))))))))], mkH [(144, .arr 1 (List.map encI w3)), (147, .arr 1 (List.map encI y))]⟩) ?_
                refine lok_c ((decide (k < left)) && (decide (k < (y.length : Int)))) ?_ ?_
                · intro b_4
                  replace H1 := cpos H1 b_4
                  refine lok_skip ?_
                  try simp only [thenL, blockL, ↓reduceIte, reduceCtorEq]
                  refine lok_seq ?_
                  refine lok_block ?_
                  replace H1 := req_some H1
                  obtain ⟨⟨q_2, q_3⟩, H1⟩ := H1
                  refine lok_rl E0 (⟨99, mkS [(9, .x (.one (.vw 144))), (10, .x (.one (.vw 147))), (11, .x (.one (.p (pi left)))), (14, .x (.one (.p (pi k))))], mkH [(144, .arr 1 (List.map encI (setI w3 (ix y k) (IntKind.i64.wrap ((ix w3 (ix y k)) + (1 : Int)))))), (147, .arr 1 (List.map encI y))]⟩) ?_
                  try simp only [thenL, blockL, ↓reduceIte, reduceCtorEq]
                  refine lok_rl E0 (⟨99, mkS [(9, .x (.one (.vw 144))), (10, .x (.one (.vw 147))), (11, .x (.one (.p (pi left)))), (14, .x (.one (.p (pi (IntKind.i64.wrap (k + (1 : Int)))))))], mkH [(144, .arr 1 (List.map encI (setI w3 (ix y k) (IntKind.i64.wrap ((ix w3 (ix y k)) + (1 : Int)))))), (147, .arr 1 (List.map encI y))]⟩) ?_
                  try simp only [thenL, blockL, ↓reduceIte, reduceCtorEq]
                  exact ⟨((IntKind.i64.wrap (k + (1 : Int))), (setI w3 (ix y k) (IntKind.i64.wrap ((ix w3 (ix y k)) + (1 : Int))))), (Option.some.inj H1).symm, imp_au⟩
                · intro b_4
                  replace H1 := cneg H1 b_4
                  refine lok_exit ?_
                  try simp only [thenL, blockL, ↓reduceIte, reduceCtorEq]
                  have e_1 := k_1 _ (Option.some.inj H1).symm
                  subst e_1
                  try dsimp only at H0
                  try simp only [thenL, blockL, ↓reduceIte, reduceCtorEq]
                  exact ⟨w3, H0, imp_au⟩
          case hxratio_Apportion_j3 =>
            refine lok_rt E0 (⟨99, mkS [(2, .x (.one (.ptr 102 0))), (3, .x (.one (.ptr 103 0))), (6, .x (.one (.ptr 106 0))), (9, .x (.one (.vw 144))), (10, .x (.one (.vw 147))), (11, .x (.one (.p (pi total)))), (49, .x (.one (.p (.sl 1 (List.map encI weights))))), (50, .x (.one (.p (pi (weights.length : Int))))), (51, .x (.one (.p (pi (0 : Int)))))], mkH [(102, .var [.p (pi total)]), (103, .var [.p (.sl 1 (List.map encI weights))]), (106, .var [.p (pi sum)]), (144, .arr 1 (List.map encI (rep (weights.length : Int) (0 : Int)))), (147, .arr 1 (List.map encI (rep (weights.length : Int) (0 : Int))))]⟩) ?_
            refine lok_block ?_
            replace H0 := bind_some H0
            obtain ⟨v_6, hv_6, H0⟩ := H0
            refine lok_iter (fun x_ => ⟨99, mkS [(2, .x (.one (.ptr 102 0))), (3, .x (.one (.ptr 103 0))), (6, .x (.one (.ptr 106 0))), (9, .x (.one (.vw 144))), (10, .x (.one (.vw 147))), (11, .x (.one (.p (pi x_.1)))), (49, .x (.one (.p (.sl 1 (List.map encI weights))))), (50, .x (.one (.p (pi (weights.length : Int))))), (51, .x (.one (.p (pi x_.2.1))))], mkH [(102, .var [.p (pi total)]), (103, .var [.p (.sl 1 (List.map encI weights))]), (106, .var [.p (pi sum)]), (144, .arr 1 (List.map encI x_.2.2.1)), (147, .arr 1 (List.map encI x_.2.2.2))]⟩) hv_6 imp_au ?_
            · rintro ⟨left1, v, w5, w6⟩ o_1 H1 k_1
              unfold ratio_Apportion_l4 at H1
              try dsimp only at H1 ⊢
              refine lok_rt E0 (⟨99, mkS [(2, .x (.one (.ptr 102 0))), (3, .x (.one (.ptr 103 0))), (6, .x (.one (.ptr 106 0))), (9, .x (.one (.vw 144))), (10, .x (.one (.vw 147))), (11, .x (.one (.p (pi left1)))), (49, .x (.one (.p (.sl 1 (List.map encI weights))))), (50, .x (.one (.p (pi (weights.length : Int))))), (51, .x (.one (.p (pi v)))), (52, .x (.one (.p (.val (.bool (decide (v < (weights.length : Int))))))))], mkH [(102, .var [.p (pi total)]), (103, .var [.p (.sl 1 (List.map encI weights))]), (106, .var [.p (pi sum)]), (144, .arr 1 (List.map encI w5)), (147, .arr 1 (List.map encI w6))]⟩) ?_
              refine lok_seq ?_
              refine lok_c (decide (v < (weights.length : Int))) ?_ ?_
              · intro b_13
                replace H1 := cpos H1 b_13
                refine lok_skip ?_
                try simp only [thenL, blockL, ↓reduceIte, reduceCtorEq]
                refine lok_seq ?_
                refine lok_block ?_
                replace H1 := req_some H1
                obtain ⟨q_12, H1⟩ := H1
                refine lok_rt E0 (⟨99, mkS [(2, .x (.one (.ptr 102 0))), (3, .x (.one (.ptr 103 0))), (6, .x (.one (.ptr 106 0))), (9, .x (.one (.vw 144))), (10, .x (.one (.vw 147))), (11, .x (.one (.p (pi left1)))), (12, .x (.one (.p (pi v)))), (13, .x (.one (.p (pi (ix weights v))))), (49, .x (.one (.p (.sl 1 (List.map encI weights))))), (50, .x (.one (.p (pi (weights.length : Int))))), (51, .x (.one (.p (pi v))))], mkH [(102, .var [.p (pi total)]), (103, .var [.p (.sl 1 (List.map encI weights))]), (106, .var [.p (pi sum)]), (144, .arr 1 (List.map encI w5)), (147, .arr 1 (List.map encI w6))]⟩) ?_
                replace H1 := req_some H1
                obtain ⟨⟨q_10, q_11⟩, H1⟩ := H1
                replace H1 := bindV_some H1
                obtain ⟨w9, a_7, H1⟩ := H1
                refine lok_rtg E0 a_7 (⟨99, mkS [(2, .x (.one (.ptr 102 0))), (3, .x (.one (.ptr 103 0))), (6, .x (.one (.ptr 106 0))), (9, .x (.one (.vw 144))), (10, .x (.one (.vw 147))), (11, .x (.one (.p (pi left1)))), (12, .x (.one (.p (pi v)))), (49, .x (.one (.p (.sl 1 (List.map encI weights))))), (50, .x (.one (.p (pi (weights.length : Int))))), (51, .x (.one (.p (pi v))))], mkH [(102, .var [.p (pi total)]), (103, .var [.p (.sl 1 (List.map encI weights))]), (106, .var [.p (pi sum)]), (144, .arr 1 (List.map encI w9)), (147, .arr 1 (List.map encI w6))]⟩) ?_
                replace H1 := req_some H1
                obtain ⟨q_9, H1⟩ := H1
                refine lok_rt E0 (⟨99, mkS [(2, .x (.one (.ptr 102 0))), (3, .x (.one (.ptr 103 0))), (6, .x (.one (.ptr 106 0))), (9, .x (.one (.vw 144))), (10, .x (.one (.vw 147))), (11, .x (.one (.p (pi left1)))), (12, .x (.one (.p (pi v)))), (49, .x (.one (.p (.sl 1 (List.map encI weights))))), (50, .x (.one (.p (pi (weights.length : Int))))), (51, .x (.one (.p (pi v))))], mkH [(102, .var [.p (pi total)]), (103, .var [.p (.sl 1 (List.map encI weights))]), (106, .var [.p (pi sum)]), (144, .arr 1 (List.map encI w9)), (147, .arr 1 (List.map encI (setI w6 v v)))]⟩) ?_
                replace H1 := req_some H1
                obtain ⟨q_8, H1⟩ := H1
                refine lok_rl E0 (⟨99, mkS [(2, .x (.one (.ptr 102 0))), (3, .x (.one (.ptr 103 0))), (6, .x (.one (.ptr 106 0))), (9, .x (.one (.vw 144))), (10, .x (.one (.vw 147))), (11, .x (.one (.p (pi (IntKind.i64.wrap (left1 - (ix w9 v))))))), (49, .x (.one (.p (.sl 1 (List.map encI weights))))), (50, .x (.one (.p (pi (weights.length : Int))))), (51, .x (.one (.p (pi v))))], mkH [(102, .var [.p (pi total)]), (103, .var [.p (.sl 1 (List.map encI weights))]), (106, .var [.p (pi sum)]), (144, .arr 1 (List.map encI w9)), (147, .arr 1 (List.map encI (setI w6 v v)))]⟩) ?_
                try simp only [thenL, blockL, ↓reduceIte, reduceCtorEq]
                refine lok_rl E0 (⟨99, mkS [(2, .x (.one (.ptr 102 0))), (3, .x (.one (.ptr 103 0))), (6, .x (.one (.ptr 106 0))), (9, .x (.one (.vw 144))), (10, .x (.one (.vw 147))), (11, .x (.one (.p (pi (IntKind.i64.wrap (left1 - (ix w9 v))))))), (49, .x (.one (.p (.sl 1 (List.map encI weights))))), (50, .x (.one (.p (pi (weights.length : Int))))), (51, .x (.one (.p (pi (IntKind.i64.wrap (v + (1 : Int)))))))], mkH [(102, .var [.p (pi total)]), (103, .var [.p (.sl 1 (List.map encI weights))]), (106, .var [.p (pi sum)]), (144, .arr 1 (List.map encI w9)), (147, .arr 1 (List.map encI (setI w6 v v)))]⟩) ?_
                try simp only [thenL, blockL, ↓reduceIte, reduceCtorEq]
                exact ⟨((IntKind.i64.wrap (left1 - (ix w9 v))), (IntKind.i64.wrap (v + (1 : Int))), w9, (setI w6 v v)), (Option.some.inj H1).symm, imp_au⟩
              · intro b_13
                replace H1 := cneg H1 b_13
                refine lok_exit ?_
                try simp only [thenL, blockL, ↓reduceIte, reduceCtorEq]
                have e_1 := k_1 _ (Option.some.inj H1).symm
                subst e_1
                try dsimp only at H0
                try simp only [thenL, blockL, ↓reduceIte, reduceCtorEq]
                exact ⟨(left1, w5, w6), H0, imp_au⟩
      case hxratio_Apportion_j5 =>
        refine lok_rt E0 (⟨99, mkS [(2, .x (.one (.ptr 102 0))), (3, .x (.one (.ptr 103 0))), (6, .x (.one (.ptr 106 0))), (24, .x (.one (.p (.sl 1 (List.map encI weights))))), (25, .x (.one (.p (pi (weights.length : Int))))), (26, .x (.one (.p (pi (0 : Int)))))], mkH [(102, .var [.p (pi total)]), (103, .var [.p (.sl 1 (List.map encI weights))]), (106, .var [.p (pi (0 : Int))])]⟩) ?_
        refine lok_block ?_
        replace H0 := bind_some H0
        obtain ⟨v_17, hv_17, H0⟩ := H0
        refine lok_iter (fun x_ => ⟨99, mkS [(2, .x (.one (.ptr 102 0))), (3, .x (.one (.ptr 103 0))), (6, .x (.one (.ptr 106 0))), (24, .x (.one (.p (.sl 1 (List.map encI weights))))), (25, .x (.one (.p (pi (weights.length : Int))))), (26, .x (.one (.p (pi x_.1))))], mkH [(102, .var [.p (pi total)]), (103, .var [.p (.sl 1 (List.map encI weights))]), (106, .var [.p (pi x_.2)])]⟩) hv_17 imp_au ?_
        · rintro ⟨v1, sum1⟩ o_1 H1 k_1
          unfold ratio_Apportion_l6 at H1
          try dsimp only at H1 ⊢
          refine lok_rt E0 (⟨99, mkS [(2, .x (.one (.ptr 102 0))), (3, .x (.one (.ptr 103 0))), (6, .x (.one (.ptr 106 0))), (24, .x (.one (.p (.sl 1 (List.map encI weights))))), (25, .x (.one (.p (pi (weights.length : Int))))), (26, .x (.one (.p (pi v1)))), (27, .x (.one (.p (.val (.bool (decide (v1 < (weights.length : Int))))))))], mkH [(102, .var [.p (pi total)]), (103, .var [.p (.sl 1 (List.map encI weights))]), (106, .var [.p (pi sum1)])]⟩) ?_
          refine lok_seq ?_
          refine lok_c (decide (v1 < (weights.length : Int))) ?_ ?_
          · intro b_20
            replace H1 := cpos H1 b_20
            refine lok_skip ?_
            try simp only [thenL, blockL, ↓reduceIte, reduceCtorEq]
            refine lok_seq ?_
            refine lok_block ?_
            replace H1 := req_some H1
            obtain ⟨q_19, H1⟩ := H1
            refine lok_rt E0 (⟨99, mkS [(2, .x (.one (.ptr 102 0))), (3, .x (.one (.ptr 103 0))), (6, .x (.one (.ptr 106 0))), (8, .x (.one (.p (pi (ix weights v1))))), (24, .x (.one (.p (.sl 1 (List.map encI weights))))), (25, .x (.one (.p (pi (weights.length : Int))))), (26, .x (.one (.p (pi v1))))], mkH [(102, .var [.p (pi total)]), (103, .var [.p (.sl 1 (List.map encI weights))]), (106, .var [.p (pi sum1)])]⟩) ?_
            refine lok_seq ?_
            refine lok_rt E0 (⟨99, mkS [(2, .x (.one (.ptr 102 0))), (3, .x (.one (.ptr 103 0))), (6, .x (.one (.ptr 106 0))), (8, .x (.one (.p (pi (ix weights v1))))), (24, .x (.one (.p (.sl 1 (List.map encI weights))))), (25, .x (.one (.p (pi (weights.length : Int))))), (26, .x (.one (.p (pi v1)))), (35, .x (.one (.p (.val (.bool ((decide ((ix weights v1) < (0 : Int))) || (decide ((1073741824 : Int) < (ix weights v1)))))))))], mkH [(102, .var [.p (pi total)]), (103, .var [.p (.sl 1 (List.map encI weights))]), (106, .var [.p (pi sum1)])]⟩) ?_
            refine lok_c ((decide ((ix weights v1) < (0 : Int))) || (decide ((1073741824 : Int) < (ix weights v1)))) ?_ ?_
            · intro b_18
              replace H1 := cpos H1 b_18
              refine lok_rt E0 (⟨99, mkS [(4, .x (.one (.vw 104))), (5, .x (.one (.p (pi (2 : Int)))))], mkH [(104, .arr 1 (List.map encI ([] : List Int)))]⟩) ?_
              refine lok_ret ?_
              try simp only [thenL, blockL, ↓reduceIte, reduceCtorEq]
              have e_1 := k_1 _ (Option.some.inj H1).symm
              subst e_1
              try dsimp only at H0
              try obtain rfl := Option.some.inj H0
              try simp only [thenL, blockL]
              exact fin_au _ (.inr rfl) [] (⟨99, mkS [(4, .x (.one (.p (.sl 1 (List.map encI ([] : List Int)))))), (5, .x (.one (.p (pi (2 : Int)))))], mkH []⟩) rfl rfl (Imp.trans (imp_frz 104 1 (List.map encI ([] : List Int))) imp_au)
            · intro b_18
              replace H1 := cneg H1 b_18
              refine lok_skip ?_
              try simp only [thenL, blockL, ↓reduceIte, reduceCtorEq]
              refine lok_rl E0 (⟨99, mkS [(2, .x (.one (.ptr 102 0))), (3, .x (.one (.ptr 103 0))), (6, .x (.one (.ptr 106 0))), (24, .x (.one (.p (.sl 1 (List.map encI weights))))), (25, .x (.one (.p (pi (weights.length : Int))))), (26, .x (.one (.p (pi v1))))], mkH [(102, .var [.p (pi total)]), (103, .var [.p (.sl 1 (List.map encI weights))]), (106, .var [.p (pi (IntKind.i64.wrap (sum1 + (ix weights v1))))])]⟩) ?_
              try simp only [thenL, blockL, ↓reduceIte, reduceCtorEq]
              refine lok_rl E0 (⟨99, mkS [(2, .x (.one (.ptr 102 0))), (3, .x (.one (.ptr 103 0))), (6, .x (.one (.ptr 106 0))), (24, .x (.one (.p (.sl 1 (List.map encI weights))))), (25, .x (.one (.p (pi (weights.length : Int))))), (26, .x (.one (.p (pi (IntKind.i64.wrap (v1 + (1 : Int)))))))], mkH [(102, .var [.p (pi total)]), (103, .var [.p (.sl 1 (List.map encI weights))]), (106, .var [.p (pi (IntKind.i64.wrap (sum1 + (ix weights v1))))])]⟩) ?_
              try simp only [thenL, blockL, ↓reduceIte, reduceCtorEq]
              exact ⟨((IntKind.i64.wrap (v1 + (1 : Int))), (IntKind.i64.wrap (sum1 + (ix weights v1)))), (Option.some.inj H1).symm, imp_au⟩
          · intro b_20
            replace H1 := cneg H1 b_20
            refine lok_exit ?_
            try simp only [thenL, blockL, ↓reduceIte, reduceCtorEq]
            have e_1 := k_1 _ (Option.some.inj H1).symm
            subst e_1
            try dsimp only at H0
            try simp only [thenL, blockL, ↓reduceIte, reduceCtorEq]
            exact ⟨sum1, H0, imp_au⟩
set_option maxHeartbeats 4000000 in
theorem ok_ref01_Apportion (amount : Int) (weights : List Int) (r_ : (List Int) × Int) (H0 : ref01_Apportion amount weights = some r_) : CallOK Try.prog 5 [.one (.p (pi amount)), .one (.p (.sl 1 (List.map encI weights)))] [] [.one (.p (.sl 1 (List.map encI r_.1))), .one (.p (pi r_.2))] [] := by
  refine callOK (n := 120) (rs := [.tmp 4, .tmp 5]) (nb := 0) (V := []) Try.func5 rfl (by kernel_rfl) rfl rfl rfl rfl (Nat.le_of_ble_eq_true rfl) (by decide) ?_
  unfold ref01_Apportion at H0
  refine lok_rt E0 (⟨120, mkS [(0, .x (.one (.p (pi amount)))), (1, .x (.one (.p (.sl 1 (List.map encI weights)))))], mkH []⟩) ?_
  refine lok_seq ?_
  refine lok_rt E0 (⟨120, mkS [(0, .x (.one (.p (pi amount)))), (1, .x (.one (.p (.sl 1 (List.map encI weights))))), (16, .x (.one (.p (.val (.bool (decide ((100 : Int) < (weights.length : Int))))))))], mkH []⟩) ?_
  refine lok_c (decide ((100 : Int) < (weights.length : Int))) ?_ ?_
  · intro b_30
    replace H0 := cpos H0 b_30
    refine lok_rt E0 (⟨120, mkS [(4, .x (.one (.vw 104))), (5, .x (.one (.p (pi (3 : Int)))))], mkH [(104, .arr 1 (List.map encI ([] : List Int)))]⟩) ?_
    refine lok_ret ?_
    try obtain rfl := Option.some.inj H0
    try simp only [thenL, blockL]
    exact fin_au _ (.inr rfl) [] (⟨120, mkS [(4, .x (.one (.p (.sl 1 (List.map encI ([] : List Int)))))), (5, .x (.one (.p (pi (3 : Int)))))], mkH []⟩) rfl rfl (Imp.trans (imp_frz 104 1 (List.map encI ([] : List Int))) imp_au)
  · intro b_30
    replace H0 := cneg H0 b_30
    refine lok_skip ?_
    try simp only [thenL, blockL, ↓reduceIte, reduceCtorEq]
    refine lok_seq ?_
    refine lok_rt E0 (⟨120, mkS [(0, .x (.one (.p (pi amount)))), (1, .x (.one (.p (.sl 1 (List.map encI weights))))), (22, .x (.one (.p (.val (.bool ((decide (amount < (0 : Int))) || (decide ((1073741824 : Int) < amount))))))))], mkH []⟩) ?_
    refine lok_c ((decide (amount < (0 : Int))) || (decide ((1073741824 : Int) < amount))) ?_ ?_
    · intro b_29
      replace H0 := cpos H0 b_29
      refine lok_rt E0 (⟨120, mkS [(4, .x (.one (.vw 104))), (5, .x (.one (.p (pi (2 : Int)))))], mkH [(104, .arr 1 (List.map encI ([] : List Int)))]⟩) ?_
      refine lok_ret ?_
      try obtain rfl := Option.some.inj H0
      try simp only [thenL, blockL]
      exact fin_au _ (.inr rfl) [] (⟨120, mkS [(4, .x (.one (.p (.sl 1 (List.map encI ([] : List Int)))))), (5, .x (.one (.p (pi (2 : Int)))))], mkH []⟩) rfl rfl (Imp.trans (imp_frz 104 1 (List.map encI ([] : List Int))) imp_au)
    · intro b_29
      replace H0 := cneg H0 b_29
      refine lok_skip ?_
      try simp only [thenL, blockL, ↓reduceIte, reduceCtorEq]
      refine lok_rt E0 (⟨120, mkS [(0, .x (.one (.p (pi amount)))), (1, .x (.one (.p (.sl 1 (List.map encI weights))))), (6, .x (.one (.p (pi (0 : Int)))))], mkH []⟩) ?_
      refine lok_join (fun x_ : Int => ref01_Apportion_j8 amount weights x_ = some r_) (fun x_ => ⟨120, mkS [(0, .x (.one (.p (pi amount)))), (1, .x (.one (.p (.sl 1 (List.map encI weights))))), (6, .x (.one (.p (pi x_))))], mkH []⟩) ?hyref01_Apportion_j8 ?hxref01_Apportion_j8
      case hyref01_Apportion_j8 =>
        rintro sum H0
        try dsimp only at H0 ⊢
        unfold ref01_Apportion_j8 at H0
        refine lok_seq ?_
        refine lok_rt E0 (⟨120, mkS [(0, .x (.one (.p (pi amount)))), (1, .x (.one (.p (.sl 1 (List.map encI weights))))), (6, .x (.one (.p (pi sum)))), (48, .x (.one (.p (.val (.bool (sum == (0 : Int)))))))], mkH []⟩) ?_
        refine lok_c (sum == (0 : Int)) ?_ ?_
        · intro b_22
          replace H0 := cpos H0 b_22
          refine lok_rt E0 (⟨120, mkS [(4, .x (.one (.vw 104))), (5, .x (.one (.p (pi (10 : Int)))))], mkH [(104, .arr 1 (List.map encI ([] : List Int)))]⟩) ?_
          refine lok_ret ?_
          try obtain rfl := Option.some.inj H0
          try simp only [thenL, blockL]
          exact fin_au _ (.inr rfl) [] (⟨120, mkS [(4, .x (.one (.p (.sl 1 (List.map encI ([] : List Int)))))), (5, .x (.one (.p (pi (10 : Int)))))], mkH []⟩) rfl rfl (Imp.trans (imp_frz 104 1 (List.map encI ([] : List Int))) imp_au)
        · intro b_22
          replace H0 := cneg H0 b_22
          refine lok_skip ?_
          try simp only [thenL, blockL, ↓reduceIte, reduceCtorEq]
          replace H0 := req_some H0
          obtain ⟨q_21, H0⟩ := H0
          refine lok_rt E0 (⟨120, mkS [(0, .x (.one (.p (pi amount)))), (1, .x (.one (.p (.sl 1 (List.map encI weights))))), (6, .x (.one (.p (pi sum)))), (8, .x (.one (.vw 151)))], mkH [(151, .arr 1 (List.map encI (rep (weights.length : Int) (0 : Int))))]⟩) ?_
          replace H0 := req_some H0
          obtain ⟨q_20, H0⟩ := H0
          refine lok_rt E0 (⟨120, mkS [(0, .x (.one (.p (pi amount)))), (1, .x (.one (.p (.sl 1 (List.map encI weights))))), (6, .x (.one (.p (pi sum)))), (8, .x (.one (.vw 151))), (9, .x (.one (.vw 154)))], mkH [(151, .arr 1 (List.map encI (rep (weights.length : Int) (0 : Int)))), (154, .arr 1 (List.map encI (rep (weights.length : Int) (0 : Int))))]⟩) ?_
          refine lok_rt E0 (⟨120, mkS [(0, .x (.one (.p (pi amount)))), (1, .x (.one (.p (.sl 1 (List.map encI weights))))), (6, .x (.one (.p (pi sum)))), (8, .x (.one (.vw 151))), (9, .x (.one (.vw 154))), (10, .x (.one (.p (pi amount))))], mkH [(151, .arr 1 (List.map encI (rep (weights.length : Int) (0 : Int)))), (154, .arr 1 (List.map encI (rep (weights.length : Int) (0 : Int))))]⟩) ?_
          refine lok_join (fun x_ : Int × (List Int) × (List Int) => ref01_Apportion_j6 x_.1 x_.2.1 x_.2.2 = some r_) (fun x_ => ⟨120, mkS [(8, .x (.one (.vw 151))), (9, .x (.one (.vw 154))), (10, .x (.one (.p (pi x_.1))))], mkH [(151, .arr 1 (List.map encI x_.2.1)), (154, .arr 1 (List.map encI x_.2.2))]⟩) ?hyref01_Apportion_j6 ?hxref01_Apportion_j6
          case hyref01_Apportion_j6 =>
            rintro ⟨left, w, w1⟩ H0
            try dsimp only at H0 ⊢
            unfold ref01_Apportion_j6 at H0
            refine lok_join (fun x_ : (List Int) => ref01_Apportion_j1 x_ = some r_) (fun x_ => ⟨120, mkS [(8, .x (.one (.vw 151)))], mkH [(151, .arr 1 (List.map encI x_))]⟩) ?hyref01_Apportion_j1 ?hxref01_Apportion_j1
            case hyref01_Apportion_j1 =>
              rintro w2 H0
              try dsimp only at H0 ⊢
              unfold ref01_Apportion_j1 at H0
              refine lok_rt E0 (⟨120, mkS [(4, .x (.one (.vw 151))), (5, .x (.one (.p (pi (0 : Int)))))], mkH [(151, .arr 1 (List.map encI w2))]⟩) ?_
              refine lok_ret ?_
              try obtain rfl := Option.some.inj H0
              try simp only [thenL, blockL]
              exact fin_au _ (.inr rfl) [] (⟨120, mkS [(4, .x (.one (.p (.sl 1 (List.map encI w2))))), (5, .x (.one (.p (pi (0 : Int)))))], mkH []⟩) rfl rfl (Imp.trans (imp_frz 151 1 (List.map encI w2)) imp_au)
            case hxref01_Apportion_j1 =>
              refine lok_block ?_
              replace H0 := bind_some H0
              obtain ⟨v_0, hv_0, H0⟩ := H0
              refine lok_iter (fun x_ => ⟨120, mkS [(8, .x (.one (.vw 151))), (9, .x (.one (.vw 154))), (10, .x (.one (.p (pi x_.1))))], mkH [(151, .arr 1 (List.map encI x_.2.1)), (154, .arr 1 (List.map encI x_.2.2))]⟩) hv_0 imp_au ?_
              · rintro ⟨left1, w3, w4⟩ o_1 H1 k_1
                unfold ref01_Apportion_l5 at H1
                try dsimp only at H1 ⊢
                refine lok_seq ?_
                refine lok_rt E0 (⟨120, mkS [(8, .x (.one (.vw 151))), (9, .x (.one (.vw 154))), (10, .x (.one (.p (pi left1)))), (91, .x (.one (.p (.val (.bool (decide ((0 : Int) < left1)))))))], mkH [(151, .arr 1 (List.map encI w3)), (154, .arr 1 (List.map encI w4))]⟩) ?_
                refine lok_c (decide ((0 : Int) < left1)) ?_ ?_
                · intro b_8
                  replace H1 := cpos H1 b_8
                  refine lok_skip ?_
                  try simp only [thenL, blockL, ↓reduceIte, reduceCtorEq]
                  refine lok_block ?_
                  refine lok_rt E0 (⟨120, mkS [(8, .x (.one (.vw 151))), (9, .x (.one (.vw 154))), (10, .x (.one (.p (pi left1)))), (12, .x (.one (.p (pi (0 : Int)))))], mkH [(151, .arr 1 (List.map encI w3)), (154, .arr 1 (List.map encI w4))]⟩) ?_
                  refine lok_join (fun x_ : Int => ref01_Apportion_j2 left1 w3 w4 x_ = some o_1) (fun x_ => ⟨120, mkS [(8, .x (.one (.vw 151))), (9, .x (.one (.vw 154))), (10, .x (.one (.p (pi left1)))), (12, .x (.one (.p (pi x_))))], mkH [(151, .arr 1 (List.map encI w3)), (154, .arr 1 (List.map encI w4))]⟩) ?hyref01_Apportion_j2 ?hxref01_Apportion_j2
                  case hyref01_Apportion_j2 =>
                    rintro best H1
                    try dsimp only at H1 ⊢
                    unfold ref01_Apportion_j2 at H1
                    replace H1 := req_some H1
                    obtain ⟨q_2, H1⟩ := H1
                    refine lok_rt E0 (⟨120, mkS [(8, .x (.one (.vw 151))), (9, .x (.one (.vw 154))), (10, .x (.one (.p (pi left1)))), (12, .x (.one (.p (pi best))))], mkH [(151, .arr 1 (List.map encI (setI w3 best (IntKind.i64.wrap ((ix w3 best) + (1 : Int)))))), (154, .arr 1 (List.map encI w4))]⟩) ?_
                    replace H1 := req_some H1
                    obtain ⟨q_1, H1⟩ := H1
                    refine lok_rt E0 (⟨120, mkS [(8, .x (.one (.vw 151))), (9, .x (.one (.vw 154))), (10, .x (.one (.p (pi left1))))], mkH [(151, .arr 1 (List.map encI (setI w3 best (IntKind.i64.wrap ((ix w3 best) + (1 : Int)))))), (154, .arr 1 (List.map encI (setI w4 best (-1 : Int))))]⟩) ?_
                    refine lok_rl E0 (⟨120, mkS [(8, .x (.one (.vw 151))), (9, .x (.one (.vw 154))), (10, .x (.one (.p (pi (IntKind.i64.wrap (left1 - (1 : Int)))))))], mkH [(151, .arr 1 (List.map encI (setI w3 best (IntKind.i64.wrap ((ix w3 best) + (1 : Int)))))), (154, .arr 1 (List.map encI (setI w4 best (-1 : Int))))]⟩) ?_
                    try simp only [thenL, blockL, ↓reduceIte, reduceCtorEq]
                    exact ⟨((IntKind.i64.wrap (left1 - (1 : Int))), (setI w3 best (IntKind.i64.wrap ((ix w3 best) + (1 : Int)))), (setI w4 best (-1 : Int))), (Option.some.inj H1).symm, imp_au⟩
                  case hxref01_Apportion_j2 =>
                    refine lok_rt E0 (⟨120, mkS [(8, .x (.one (.vw 151))), (9, .x (.one (.vw 154))), (10, .x (.one (.p (pi left1)))), (12, .x (.one (.p (pi (0 : Int))))), (13, .x (.one (.p (pi (1 : Int)))))], mkH [(151, .arr 1 (List.map encI w3)), (154, .arr 1 (List.map encI w4))]⟩) ?_
                    refine lok_block ?_
                    replace H1 := bind_some H1
                    obtain ⟨v_3, hv_3, H1⟩ := H1
                    refine lok_iter (fun x_ => ⟨120, mkS [(8, .x (.one (.vw 151))), (9, .x (.one (.vw 154))), (10, .x (.one (.p (pi left1)))), (12, .x (.one (.p (pi x_.1)))), (13, .x (.one (.p (pi x_.2))))], mkH [(151, .arr 1 (List.map encI w3)), (154, .arr 1 (List.map encI w4))]⟩) hv_3 imp_au ?_
                    · rintro ⟨best1, i⟩ o_2 H2 k_2
                      unfold ref01_Apportion_l4 at H2
                      try dsimp only at H2 ⊢
                      refine lok_seq ?_
                      refine lok_rt E0 (⟨120, mkS [(8, .x (.one (.vw 151))), (9, .x (.one (.vw 154))), (10, .x (.one (.p (pi left1)))), (12, .x (.one (.p (pi best1)))), (13, .x (.one (.p (pi i)))), (95, .x (.one (.p (.val (.bool (decide (i < (w4.length : Int))))))))], mkH [(151, .arr 1 (List.map encI w3)), (154, .arr 1 (List.map encI w4))]⟩) ?_
                      refine lok_c (decide (i < (w4.length : Int))) ?_ ?_
                      · intro b_7
                        replace H2 := cpos H2 b_7
                        refine lok_skip ?_
                        try simp only [thenL, blockL, ↓reduceIte, reduceCtorEq]
                        refine lok_join (fun x_ : Int => ref01_Apportion_j3 i x_ = some o_2) (fun x_ => ⟨120, mkS [(8, .x (.one (.vw 151))), (9, .x (.one (.vw 154))), (10, .x (.one (.p (pi left1)))), (12, .x (.one (.p (pi x_)))), (13, .x (.one (.p (pi i))))], mkH [(151, .arr 1 (List.map encI w3)), (154, .arr 1 (List.map encI w4))]⟩) ?hyref01_Apportion_j3 ?hxref01_Apportion_j3
                        case hyref01_Apportion_j3 =>
                          rintro best3 H2
                          try dsimp only at H2 ⊢
                          unfold ref01_Apportion_j3 at H2
                          refine lok_rl E0 (⟨120, mkS [(8, .x (.one (.vw 151))), (9, .x (.one (.vw 154))), (10, .x (.one (.p (pi left1)))), (12, .x (.one (.p (pi best3)))), (13, .x (.one (.p (pi (IntKind.i64.wrap (i + (1 : Int)))))))], mkH [(151, .arr 1 (List.map encI w3)), (154, .arr 1 (List.map encI w4))]⟩) ?_
                          try simp only [thenL, blockL, ↓reduceIte, reduceCtorEq]
                          exact ⟨(best3, (IntKind.i64.wrap (i + (1 : Int)))), (Option.some.inj H2).symm, imp_au⟩
                        case hxref01_Apportion_j3 =>
                          refine lok_block ?_
                          replace H2 := req_some H2
                          obtain ⟨⟨q_5, q_6⟩, H2⟩ := H2
                          refine lok_dt E0 8 (⟨120, mkS [(8, .x (.one (.vw 151))), (9, .x (.one (.vw 154))), (10, .x (.one (.p (pi left1)))), (12, .x (.one (.p (pi best1)))), (13, .x (.one (.p (pi i)))), (106, .x (.one (.p (.val (.bool (decide ((ix w4 best1) < (ix w4 i))))))))], mkH [(151, .arr 1 (List.map encI w3)), (154, .arr 1 (List.map encI w4))]⟩) (by kernel_rfl) (by kernel_rfl) ?_
                          refine lok_c (decide ((ix w4 best1) < (ix w4 i))) ?_ ?_
                          · intro b_4
                            replace H2 := cpos H2 b_4
                            refine lok_rl E0 (⟨120, mkS [(8, .x (.one (.vw 151))), (9, .x (.one (.vw 154))), (10, .x (.one (.p (pi left1)))), (12, .x (.one (.p (pi i)))), (13, .x (.one (.p (pi i))))], mkH [(151, .arr 1 (List.map encI w3)), (154, .arr 1 (List.map encI w4))]⟩) ?_
                            try simp only [thenL, blockL, ↓reduceIte, reduceCtorEq]
                            exact ⟨i, H2, imp_au⟩
                          · intro b_4
                            replace H2 := cneg H2 b_4
                            refine lok_skip ?_
                            try simp only [thenL, blockL, ↓reduceIte, reduceCtorEq]
                            exact ⟨best1, H2, imp_au⟩
                      · intro b_7
                        replace H2 := cneg H2 b_7
                        refine lok_exit ?_
                        try simp only [thenL, blockL, ↓reduceIte, reduceCtorEq]
                        have e_2 := k_2 _ (Option.some.inj H2).symm
                        subst e_2
                        try dsimp only at H1
                        try simp only [thenL, blockL, ↓reduceIte, reduceCtorEq]
                        exact ⟨best1, H1, imp_au⟩
                · intro b_8
                  replace H1 := cneg H1 b_8
                  refine lok_exit ?_
                  try simp only [thenL, blockL, ↓reduceIte, reduceCtorEq]
                  have e_1 := k_1 _ (Option.some.inj H1).symm
                  subst e_1
                  try dsimp only at H0
                  try simp only [thenL, blockL, ↓reduceIte, reduceCtorEq]
                  exact ⟨w3, H0, imp_au⟩
          case hxref01_Apportion_j6 =>
            refine lok_rt E0 (⟨120, mkS [(0, .x (.one (.p (pi amount)))), (1, .x (.one (.p (.sl 1 (List.map encI weights))))), (6, .x (.one (.p (pi sum)))), (8, .x (.one (.vw 151))), (9, .x (.one (.vw 154))), (10, .x (.one (.p (pi amount)))), (11, .x (.one (.p (pi (0 : Int)))))], mkH [(151, .arr 1 (List.map encI (rep (weights.length : Int) (0 : Int)))), (154, .arr 1 (List.map encI (rep (weights.length : Int) (0 : Int))))]⟩) ?_
            refine lok_block ?_
            replace H0 := bind_some H0
            obtain ⟨v_9, hv_9, H0⟩ := H0
            refine lok_iter (fun x_ => ⟨120, mkS [(0, .x (.one (.p (pi amount)))), (1, .x (.one (.p (.sl 1 (List.map encI weights))))), (6, .x (.one (.p (pi sum)))), (8, .x (.one (.vw 151))), (9, .x (.one (.vw 154))), (10, .x (.one (.p (pi x_.1)))), (11, .x (.one (.p (pi x_.2.1))))], mkH [(151, .arr 1 (List.map encI x_.2.2.1)), (154, .arr 1 (List.map encI x_.2.2.2))]⟩) hv_9 imp_au ?_
            · rintro ⟨left2, i1, w6, w7⟩ o_1 H1 k_1
              unfold ref01_Apportion_l7 at H1
              try dsimp only at H1 ⊢
              refine lok_seq ?_
              refine lok_rt E0 (⟨120, mkS [(0, .x (.one (.p (pi amount)))), (1, .x (.one (.p (.sl 1 (List.map encI weights))))), (6, .x (.one (.p (pi sum)))), (8, .x (.one (.vw 151))), (9, .x (.one (.vw 154))), (10, .x (.one (.p (pi left2)))), (11, .x (.one (.p (pi i1)))), (59, .x (.one (.p (.val (.bool (decide (i1 < (weights.length : Int))))))))], mkH [(151, .arr 1 (List.map encI w6)), (154, .arr 1 (List.map encI w7))]⟩) ?_
              refine lok_c (decide (i1 < (weights.length : Int))) ?_ ?_
              · intro b_19
                replace H1 := cpos H1 b_19
                refine lok_skip ?_
                try simp only [thenL, blockL, ↓reduceIte, reduceCtorEq]
                refine lok_seq ?_
                refine lok_block ?_
                replace H1 := req_some H1
                obtain ⟨⟨q_16, q_17, q_18⟩, H1⟩ := H1
                replace H1 := bindV_some H1
                obtain ⟨w10, a_10, H1⟩ := H1
                refine lok_rtg E0 a_10 (⟨120, mkS [(0, .x (.one (.p (pi amount)))), (1, .x (.one (.p (.sl 1 (List.map encI weights))))), (6, .x (.one (.p (pi sum)))), (8, .x (.one (.vw 151))), (9, .x (.one (.vw 154))), (10, .x (.one (.p (pi left2)))), (11, .x (.one (.p (pi i1))))], mkH [(151, .arr 1 (List.map encI w10)), (154, .arr 1 (List.map encI w7))]⟩) ?_
                replace H1 := req_some H1
                obtain ⟨⟨q_13, q_14, q_15⟩, H1⟩ := H1
                replace H1 := bindV_some H1
                obtain ⟨w11, a_11, H1⟩ := H1
                refine lok_rtg E0 a_11 (⟨120, mkS [(0, .x (.one (.p (pi amount)))), (1, .x (.one (.p (.sl 1 (List.map encI weights))))), (6, .x (.one (.p (pi sum)))), (8, .x (.one (.vw 151))), (9, .x (.one (.vw 154))), (10, .x (.one (.p (pi left2)))), (11, .x (.one (.p (pi i1))))], mkH [(151, .arr 1 (List.map encI w10)), (154, .arr 1 (List.map encI w11))]⟩) ?_
                replace H1 := req_some H1
                obtain ⟨q_12, H1⟩ := H1
                refine lok_rl E0 (⟨120, mkS [(0, .x (.one (.p (pi amount)))), (1, .x (.one (.p (.sl 1 (List.map encI weights))))), (6, .x (.one (.p (pi sum)))), (8, .x (.one (.vw 151))), (9, .x (.one (.vw 154))), (10, .x (.one (.p (pi (IntKind.i64.wrap (left2 - (ix w10 i1))))))), (11, .x (.one (.p (pi i1))))], mkH [(151, .arr 1 (List.map encI w10)), (154, .arr 1 (List.map encI w11))]⟩) ?_
                try simp only [thenL, blockL, ↓reduceIte, reduceCtorEq]
                refine lok_rl E0 (⟨120, mkS [(0, .x (.one (.p (pi amount)))), (1, .x (.one (.p (.sl 1 (List.map encI weights))))), (6, .x (.one (.p (pi sum)))), (8, .x (.one (.vw 151))), (9, .x (.one (.vw 154))), (10, .x (.one (.p (pi (IntKind.i64.wrap (left2 - (ix w10 i1))))))), (11, .x (.one (.p (pi (IntKind.i64.wrap (i1 + (1 : Int)))))))], mkH [(151, .arr 1 (List.map encI w10)), (154, .arr 1 (List.map encI w11))]⟩) ?_
                try simp only [thenL, blockL, ↓reduceIte, reduceCtorEq]
                exact ⟨((IntKind.i64.wrap (left2 - (ix w10 i1))), (IntKind.i64.wrap (i1 + (1 : Int))), w10, w11), (Option.some.inj H1).symm, imp_au⟩
              · intro b_19
                replace H1 := cneg H1 b_19
                refine lok_exit ?_
                try simp only [thenL, blockL, ↓reduceIte, reduceCtorEq]
                have e_1 := k_1 _ (Option.some.inj H1).symm
                subst e_1
                try dsimp only at H0
                try simp only [thenL, blockL, ↓reduceIte, reduceCtorEq]
                exact ⟨(left2, w6, w7), H0, imp_au⟩
      case hxref01_Apportion_j8 =>
        refine lok_rt E0 (⟨120, mkS [(0, .x (.one (.p (pi amount)))), (1, .x (.one (.p (.sl 1 (List.map encI weights))))), (6, .x (.one (.p (pi (0 : Int))))), (7, .x (.one (.p (pi (0 : Int)))))], mkH []⟩) ?_
        refine lok_block ?_
        replace H0 := bind_some H0
        obtain ⟨v_23, hv_23, H0⟩ := H0
        refine lok_iter (fun x_ => ⟨120, mkS [(0, .x (.one (.p (pi amount)))), (1, .x (.one (.p (.sl 1 (List.map encI weights))))), (6, .x (.one (.p (pi x_.1)))), (7, .x (.one (.p (pi x_.2))))], mkH []⟩) hv_23 imp_au ?_
        · rintro ⟨sum1, i2⟩ o_1 H1 k_1
          unfold ref01_Apportion_l9 at H1
          try dsimp only at H1 ⊢
          refine lok_seq ?_
          refine lok_rt E0 (⟨120, mkS [(0, .x (.one (.p (pi amount)))), (1, .x (.one (.p (.sl 1 (List.map encI weights))))), (6, .x (.one (.p (pi sum1)))), (7, .x (.one (.p (pi i2)))), (26, .x (.one (.p (.val (.bool (decide (i2 < (weights.length : Int))))))))], mkH []⟩) ?_
          refine lok_c (decide (i2 < (weights.length : Int))) ?_ ?_
          · intro b_28
            replace H1 := cpos H1 b_28
            refine lok_skip ?_
            try simp only [thenL, blockL, ↓reduceIte, reduceCtorEq]
            refine lok_seq ?_
            refine lok_block ?_
            refine lok_seq ?_
            replace H1 := req_some H1
            obtain ⟨⟨q_26, q_27⟩, H1⟩ := H1
            refine lok_rt E0 (⟨120, mkS [(0, .x (.one (.p (pi amount)))), (1, .x (.one (.p (.sl 1 (List.map encI weights))))), (6, .x (.one (.p (pi sum1)))), (7, .x (.one (.p (pi i2)))), (40, .x (.one (.p (.val (.bool ((decide ((ix weights i2) < (0 : Int))) || (decide ((1073741824 : Int) < (ix weights i2)))))))))], mkH []⟩) ?_
            refine lok_c ((decide ((ix weights i2) < (0 : Int))) || (decide ((1073741824 : Int) < (ix weights i2)))) ?_ ?_
            · intro b_25
              replace H1 := cpos H1 b_25
              refine lok_rt E0 (⟨120, mkS [(4, .x (.one (.vw 104))), (5, .x (.one (.p (pi (2 : Int)))))], mkH [(104, .arr 1 (List.map encI ([] : List Int)))]⟩) ?_
              refine lok_ret ?_
              try simp only [thenL, blockL, ↓reduceIte, reduceCtorEq]
              have e_1 := k_1 _ (Option.some.inj H1).symm
              subst e_1
              try dsimp only at H0
              try obtain rfl := Option.some.inj H0
              try simp only [thenL, blockL]
              exact fin_au _ (.inr rfl) [] (⟨120, mkS [(4, .x (.one (.p (.sl 1 (List.map encI ([] : List Int)))))), (5, .x (.one (.p (pi (2 : Int)))))], mkH []⟩) rfl rfl (Imp.trans (imp_frz 104 1 (List.map encI ([] : List Int))) imp_au)
            · intro b_25
              replace H1 := cneg H1 b_25
              refine lok_skip ?_
              try simp only [thenL, blockL, ↓reduceIte, reduceCtorEq]
              replace H1 := req_some H1
              obtain ⟨q_24, H1⟩ := H1
              refine lok_rl E0 (⟨120, mkS [(0, .x (.one (.p (pi amount)))), (1, .x (.one (.p (.sl 1 (List.map encI weights))))), (6, .x (.one (.p (pi (IntKind.i64.wrap (sum1 + (ix weights i2))))))), (7, .x (.one (.p (pi i2))))], mkH []⟩) ?_
              try simp only [thenL, blockL, ↓reduceIte, reduceCtorEq]
              refine lok_rl E0 (⟨120, mkS [(0, .x (.one (.p (pi amount)))), (1, .x (.one (.p (.sl 1 (List.map encI weights))))), (6, .x (.one (.p (pi (IntKind.i64.wrap (sum1 + (ix weights i2))))))), (7, .x (.one (.p (pi (IntKind.i64.wrap (i2 + (1 : Int)))))))], mkH []⟩) ?_
              try simp only [thenL, blockL, ↓reduceIte, reduceCtorEq]
              exact ⟨((IntKind.i64.wrap (sum1 + (ix weights i2))), (IntKind.i64.wrap (i2 + (1 : Int)))), (Option.some.inj H1).symm, imp_au⟩
          · intro b_28
            replace H1 := cneg H1 b_28
            refine lok_exit ?_
            try simp only [thenL, blockL, ↓reduceIte, reduceCtorEq]
            have e_1 := k_1 _ (Option.some.inj H1).symm
            subst e_1
            try dsimp only at H0
            try simp only [thenL, blockL, ↓reduceIte, reduceCtorEq]
            exact ⟨sum1, H0, imp_au⟩
theorem ok_law01_same (a : List Int) (b : List Int) (r_ : Bool) (H0 : law01_same a b = some r_) : CallOK Try.prog 6 [.one (.p (.sl 1 (List.map encI a))), .one (.p (.sl 1 (List.map encI b)))] [] [.one (.p (.val (.bool r_)))] [] := by
  refine callOK (n := 26) (rs := [.tmp 4]) (nb := 0) (V := []) Try.func6 rfl (by kernel_rfl) rfl rfl rfl rfl (Nat.le_of_ble_eq_true rfl) (by decide) ?_
  unfold law01_same at H0
  refine lok_rt E0 (⟨26, mkS [(0, .x (.one (.p (.sl 1 (List.map encI a))))), (1, .x (.one (.p (.sl 1 (List.map encI b)))))], mkH []⟩) ?_
  refine lok_seq ?_
  refine lok_rt E0 (⟨26, mkS [(0, .x (.one (.p (.sl 1 (List.map encI a))))), (1, .x (.one (.p (.sl 1 (List.map encI b))))), (10, .x (.one (.p (.val (.bool ((a.length : Int) != (b.length : Int)))))))], mkH []⟩) ?_
  refine lok_c ((a.length : Int) != (b.length : Int)) ?_ ?_
  · intro b_5
    replace H0 := cpos H0 b_5
    refine lok_rt E0 (⟨26, mkS [(4, .x (.one (.p (.val (.bool false)))))], mkH []⟩) ?_
    refine lok_ret ?_
    try obtain rfl := Option.some.inj H0
    try simp only [thenL, blockL]
    exact fin_au _ (.inr rfl) [] (⟨26, mkS [(4, .x (.one (.p (.val (.bool false)))))], mkH []⟩) rfl rfl imp_au
  · intro b_5
    replace H0 := cneg H0 b_5
    refine lok_skip ?_
    try simp only [thenL, blockL, ↓reduceIte, reduceCtorEq]
    refine lok_join (fun x_ : Unit => law01_same_j1 = some r_) (fun x_ => ⟨26, mkS [], mkH []⟩) ?hylaw01_same_j1 ?hxlaw01_same_j1
    case hylaw01_same_j1 =>
      rintro _ H0
      try dsimp only at H0 ⊢
      unfold law01_same_j1 at H0
      refine lok_rt E0 (⟨26, mkS [(4, .x (.one (.p (.val (.bool true)))))], mkH []⟩) ?_
      refine lok_ret ?_
      try obtain rfl := Option.some.inj H0
      try simp only [thenL, blockL]
      exact fin_au _ (.inr rfl) [] (⟨26, mkS [(4, .x (.one (.p (.val (.bool true)))))], mkH []⟩) rfl rfl imp_au
    case hxlaw01_same_j1 =>
      refine lok_rt E0 (⟨26, mkS [(0, .x (.one (.p (.sl 1 (List.map encI a))))), (1, .x (.one (.p (.sl 1 (List.map encI b))))), (5, .x (.one (.p (pi (0 : Int)))))], mkH []⟩) ?_
      refine lok_block ?_
      replace H0 := bind_some H0
      obtain ⟨v_0, hv_0, H0⟩ := H0
      refine lok_iter (fun x_ => ⟨26, mkS [(0, .x (.one (.p (.sl 1 (List.map encI a))))), (1, .x (.one (.p (.sl 1 (List.map encI b))))), (5, .x (.one (.p (pi x_))))], mkH []⟩) hv_0 imp_au ?_
      · rintro i o_1 H1 k_1
        unfold law01_same_l2 at H1
        try dsimp only at H1 ⊢
        refine lok_seq ?_
        refine lok_rt E0 (⟨26, mkS [(0, .x (.one (.p (.sl 1 (List.map encI a))))), (1, .x (.one (.p (.sl 1 (List.map encI b))))), (5, .x (.one (.p (pi i)))), (14, .x (.one (.p (.val (.bool (decide (i < (a.length : Int))))))))], mkH []⟩) ?_
        refine lok_c (decide (i < (a.length : Int))) ?_ ?_
        · intro b_4
          replace H1 := cpos H1 b_4
          refine lok_skip ?_
          try simp only [thenL, blockL, ↓reduceIte, reduceCtorEq]
          refine lok_seq ?_
          refine lok_block ?_
          replace H1 := req_some H1
          obtain ⟨⟨q_2, q_3⟩, H1⟩ := H1
          refine lok_dt E0 8 (⟨26, mkS [(0, .x (.one (.p (.sl 1 (List.map encI a))))), (1, .x (.one (.p (.sl 1 (List.map encI b))))), (5, .x (.one (.p (pi i)))), (25, .x (.one (.p (.val (.bool ((ix a i) != (ix b i)))))))], mkH []⟩) (by kernel_rfl) (by kernel_rfl) ?_
          refine lok_c ((ix a i) != (ix b i)) ?_ ?_
          · intro b_1
            replace H1 := cpos H1 b_1
            refine lok_rt E0 (⟨26, mkS [(4, .x (.one (.p (.val (.bool false)))))], mkH []⟩) ?_
            refine lok_ret ?_
            try simp only [thenL, blockL, ↓reduceIte, reduceCtorEq]
            have e_1 := k_1 _ (Option.some.inj H1).symm
            subst e_1
            try dsimp only at H0
            try obtain rfl := Option.some.inj H0
            try simp only [thenL, blockL]
            exact fin_au _ (.inr rfl) [] (⟨26, mkS [(4, .x (.one (.p (.val (.bool false)))))], mkH []⟩) rfl rfl imp_au
          · intro b_1
            replace H1 := cneg H1 b_1
            refine lok_skip ?_
            try simp only [thenL, blockL, ↓reduceIte, reduceCtorEq]
            refine lok_rl E0 (⟨26, mkS [(0, .x (.one (.p (.sl 1 (List.map encI a))))), (1, .x (.one (.p (.sl 1 (List.map encI b))))), (5, .x (.one (.p (pi (IntKind.i64.wrap (i + (1 : Int)))))))], mkH []⟩) ?_
            try simp only [thenL, blockL, ↓reduceIte, reduceCtorEq]
            exact ⟨(IntKind.i64.wrap (i + (1 : Int))), (Option.some.inj H1).symm, imp_au⟩
        · intro b_4
          replace H1 := cneg H1 b_4
          refine lok_exit ?_
          try simp only [thenL, blockL, ↓reduceIte, reduceCtorEq]
          have e_1 := k_1 _ (Option.some.inj H1).symm
          subst e_1
          try dsimp only at H0
          try simp only [thenL, blockL, ↓reduceIte, reduceCtorEq]
          exact ⟨(), H0, imp_au⟩
theorem ok_ratio_gcd (a : Int) (b : Int) (r_ : Int) (H0 : ratio_gcd a b = some r_) : CallOK Try.prog 18 [.one (.p (.val (.int .u64 a))), .one (.p (.val (.int .u64 b)))] [] [.one (.p (.val (.int .u64 r_)))] [] := by
  refine callOK (n := 12) (rs := [.tmp 4]) (nb := 0) (V := []) Try.func18 rfl (by kernel_rfl) rfl rfl rfl rfl (Nat.le_of_ble_eq_true rfl) (by decide) ?_
  unfold ratio_gcd at H0
  refine lok_rt E0 (⟨12, mkS [(0, .x (.one (.p (.val (.int .u64 a))))), (1, .x (.one (.p (.val (.int .u64 b)))))], mkH []⟩) ?_
  refine lok_join (fun x_ : Int => ratio_gcd_j1 x_ = some r_) (fun x_ => ⟨12, mkS [(0, .x (.one (.p (.val (.int .u64 x_)))))], mkH []⟩) ?hyratio_gcd_j1 ?hxratio_gcd_j1
  case hyratio_gcd_j1 =>
    rintro a1 H0
    try dsimp only at H0 ⊢
    unfold ratio_gcd_j1 at H0
    refine lok_rt E0 (⟨12, mkS [(4, .x (.one (.p (.val (.int .u64 a1)))))], mkH []⟩) ?_
    refine lok_ret ?_
    try obtain rfl := Option.some.inj H0
    try simp only [thenL, blockL]
    exact fin_au _ (.inr rfl) [] (⟨12, mkS [(4, .x (.one (.p (.val (.int .u64 a1)))))], mkH []⟩) rfl rfl imp_au
  case hxratio_gcd_j1 =>
    refine lok_block ?_
    replace H0 := bind_some H0
    obtain ⟨v_0, hv_0, H0⟩ := H0
    refine lok_iter (fun x_ => ⟨12, mkS [(0, .x (.one (.p (.val (.int .u64 x_.1))))), (1, .x (.one (.p (.val (.int .u64 x_.2)))))], mkH []⟩) hv_0 imp_au ?_
    · rintro ⟨a2, b1⟩ o_1 H1 k_1
      unfold ratio_gcd_l2 at H1
      try dsimp only at H1 ⊢
      refine lok_seq ?_
      refine lok_rt E0 (⟨12, mkS [(0, .x (.one (.p (.val (.int .u64 a2))))), (1, .x (.one (.p (.val (.int .u64 b1))))), (6, .x (.one (.p (.val (.bool (b1 != (0 : Int)))))))], mkH []⟩) ?_
      refine lok_c (b1 != (0 : Int)) ?_ ?_
      · intro b_2
        replace H1 := cpos H1 b_2
        refine lok_skip ?_
        try simp only [thenL, blockL, ↓reduceIte, reduceCtorEq]
        refine lok_block ?_
        replace H1 := req_some H1
        obtain ⟨q_1, H1⟩ := H1
        refine lok_dl E0 5 (⟨12, mkS [(0, .x (.one (.p (.val (.int .u64 b1))))), (1, .x (.one (.p (.val (.int .u64 (Int.tmod a2 b1))))))], mkH []⟩) (by kernel_rfl) (by kernel_rfl) ?_
        try simp only [thenL, blockL, ↓reduceIte, reduceCtorEq]
        exact ⟨(b1, (Int.tmod a2 b1)), (Option.some.inj H1).symm, imp_au⟩
      · intro b_2
        replace H1 := cneg H1 b_2
        refine lok_exit ?_
        try simp only [thenL, blockL, ↓reduceIte, reduceCtorEq]
        have e_1 := k_1 _ (Option.some.inj H1).symm
        subst e_1
        try dsimp only at H0
        try simp only [thenL, blockL, ↓reduceIte, reduceCtorEq]
        exact ⟨a2, H0, imp_au⟩
theorem ok_bits_Len64 (x : Int) (r_ : Int) (H0 : bits_Len64 x = some r_) : CallOK Try.prog 27 [.one (.p (.val (.int .u64 x)))] [] [.one (.p (pi r_))] [] := by
  refine callOK (n := 25) (rs := [.tmp 2]) (nb := 0) (V := []) Try.func27 rfl (by kernel_rfl) rfl rfl rfl rfl (Nat.le_of_ble_eq_true rfl) (by decide) ?_
  unfold bits_Len64 at H0
  refine lok_rt E0 (⟨25, mkS [(0, .x (.one (.p (.val (.int .u64 x))))), (2, .x (.one (.p (pi (0 : Int)))))], mkH []⟩) ?_
  refine lok_join (fun x_ : Int × Int => bits_Len64_j3 x_.1 x_.2 = some r_) (fun x_ => ⟨25, mkS [(0, .x (.one (.p (.val (.int .u64 x_.1))))), (2, .x (.one (.p (pi x_.2))))], mkH []⟩) ?hybits_Len64_j3 ?hxbits_Len64_j3
  case hybits_Len64_j3 =>
    rintro ⟨x1, n⟩ H0
    try dsimp only at H0 ⊢
    unfold bits_Len64_j3 at H0
    refine lok_join (fun x_ : Int × Int => bits_Len64_j2 x_.1 x_.2 = some r_) (fun x_ => ⟨25, mkS [(0, .x (.one (.p (.val (.int .u64 x_.1))))), (2, .x (.one (.p (pi x_.2))))], mkH []⟩) ?hybits_Len64_j2 ?hxbits_Len64_j2
    case hybits_Len64_j2 =>
      rintro ⟨x2, n1⟩ H0
      try dsimp only at H0 ⊢
      unfold bits_Len64_j2 at H0
      refine lok_join (fun x_ : Int × Int => bits_Len64_j1 x_.1 x_.2 = some r_) (fun x_ => ⟨25, mkS [(0, .x (.one (.p (.val (.int .u64 x_.1))))), (2, .x (.one (.p (pi x_.2))))], mkH []⟩) ?hybits_Len64_j1 ?hxbits_Len64_j1
      case hybits_Len64_j1 =>
        rintro ⟨x3, n2⟩ H0
        try dsimp only at H0 ⊢
        unfold bits_Len64_j1 at H0
        replace H0 := req_some H0
        obtain ⟨q_1, H0⟩ := H0
        replace H0 := bindV_some H0
        obtain ⟨n3, a_0, H0⟩ := H0
        refine lok_rtg E0 a_0 (⟨25, mkS [(2, .x (.one (.p (pi n3))))], mkH []⟩) ?_
        refine lok_ret ?_
        try obtain rfl := Option.some.inj H0
        try simp only [thenL, blockL]
        exact fin_au _ (.inr rfl) [] (⟨25, mkS [(2, .x (.one (.p (pi n3))))], mkH []⟩) rfl rfl imp_au
      case hxbits_Len64_j1 =>
        refine lok_rt E0 (⟨25, mkS [(0, .x (.one (.p (.val (.int .u64 x2))))), (2, .x (.one (.p (pi n1)))), (14, .x (.one (.p (.val (.bool (decide ((256 : Int) ≤ x2)))))))], mkH []⟩) ?_
        refine lok_c (decide ((256 : Int) ≤ x2)) ?_ ?_
        · intro b_2
          replace H0 := cpos H0 b_2
          refine lok_rt E0 (⟨25, mkS [(0, .x (.one (.p (.val (.int .u64 (bShr .u64 x2 (8 : Int))))))), (2, .x (.one (.p (pi n1))))], mkH []⟩) ?_
          refine lok_rl E0 (⟨25, mkS [(0, .x (.one (.p (.val (.int .u64 (bShr .u64 x2 (8 : Int))))))), (2, .x (.one (.p (pi (IntKind.i64.wrap (n1 + (8 : Int)))))))], mkH []⟩) ?_
          try simp only [thenL, blockL, ↓reduceIte, reduceCtorEq]
          exact ⟨((bShr .u64 x2 (8 : Int)), (IntKind.i64.wrap (n1 + (8 : Int)))), H0, imp_au⟩
        · intro b_2
          replace H0 := cneg H0 b_2
          refine lok_skip ?_
          try simp only [thenL, blockL, ↓reduceIte, reduceCtorEq]
          exact ⟨(x2, n1), H0, imp_au⟩
    case hxbits_Len64_j2 =>
      refine lok_rt E0 (⟨25, mkS [(0, .x (.one (.p (.val (.int .u64 x1))))), (2, .x (.one (.p (pi n)))), (8, .x (.one (.p (.val (.bool (decide ((65536 : Int) ≤ x1)))))))], mkH []⟩) ?_
      refine lok_c (decide ((65536 : Int) ≤ x1)) ?_ ?_
      · intro b_3
        replace H0 := cpos H0 b_3
        refine lok_rt E0 (⟨25, mkS [(0, .x (.one (.p (.val (.int .u64 (bShr .u64 x1 (16 : Int))))))), (2, .x (.one (.p (pi n))))], mkH []⟩) ?_
        refine lok_rl E0 (⟨25, mkS [(0, .x (.one (.p (.val (.int .u64 (bShr .u64 x1 (16 : Int))))))), (2, .x (.one (.p (pi (IntKind.i64.wrap (n + (16 : Int)))))))], mkH []⟩) ?_
        try simp only [thenL, blockL, ↓reduceIte, reduceCtorEq]
        exact ⟨((bShr .u64 x1 (16 : Int)), (IntKind.i64.wrap (n + (16 : Int)))), H0, imp_au⟩
      · intro b_3
        replace H0 := cneg H0 b_3
        refine lok_skip ?_
        try simp only [thenL, blockL, ↓reduceIte, reduceCtorEq]
        exact ⟨(x1, n), H0, imp_au⟩
  case hxbits_Len64_j3 =>
    refine lok_rt E0 (⟨25, mkS [(0, .x (.one (.p (.val (.int .u64 x))))), (2, .x (.one (.p (pi (0 : Int))))), (4, .x (.one (.p (.val (.bool (decide ((4294967296 : Int) ≤ x)))))))], mkH []⟩) ?_
    refine lok_c (decide ((4294967296 : Int) ≤ x)) ?_ ?_
    · intro b_4
      replace H0 := cpos H0 b_4
      refine lok_rt E0 (⟨25, mkS [(0, .x (.one (.p (.val (.int .u64 (bShr .u64 x (32 : Int)))))))], mkH []⟩) ?_
      refine lok_rl E0 (⟨25, mkS [(0, .x (.one (.p (.val (.int .u64 (bShr .u64 x (32 : Int))))))), (2, .x (.one (.p (pi (32 : Int)))))], mkH []⟩) ?_
      try simp only [thenL, blockL, ↓reduceIte, reduceCtorEq]
      exact ⟨((bShr .u64 x (32 : Int)), (32 : Int)), H0, imp_au⟩
    · intro b_4
      replace H0 := cneg H0 b_4
      refine lok_skip ?_
      try simp only [thenL, blockL, ↓reduceIte, reduceCtorEq]
      exact ⟨(x, (0 : Int)), H0, imp_au⟩
theorem ok_bits_LeadingZeros64 (x : Int) (r_ : Int) (H0 : bits_LeadingZeros64 x = some r_) : CallOK Try.prog 26 [.one (.p (.val (.int .u64 x)))] [] [.one (.p (pi r_))] [] := by
  refine callOK (n := 6) (rs := [.tmp 2]) (nb := 0) (V := []) Try.func26 rfl (by kernel_rfl) rfl rfl rfl rfl (Nat.le_of_ble_eq_true rfl) (by decide) ?_
  unfold bits_LeadingZeros64 at H0
  refine lok_rt E0 (⟨6, mkS [(0, .x (.one (.p (.val (.int .u64 x)))))], mkH []⟩) ?_
  replace H0 := bind_some H0
  obtain ⟨y, h_0, H0⟩ := H0
  refine lok_rt (Env.of E0 [⟨some 4, 27, [.one (.p (.val (.int .u64 x)))], [], [.one (.p (pi y))], [], True, fun _ => ok_bits_Len64 x y h_0, []⟩]) (⟨6, mkS [(2, .x (.one (.p (pi (IntKind.i64.wrap ((64 : Int) - y))))))], mkH []⟩) ?_
  refine lok_ret ?_
  try obtain rfl := Option.some.inj H0
  try simp only [thenL, blockL]
  exact fin_au _ (.inr rfl) [] (⟨6, mkS [(2, .x (.one (.p (pi (IntKind.i64.wrap ((64 : Int) - y))))))], mkH []⟩) rfl rfl imp_au
set_option maxHeartbeats 4000000 in
theorem ok_bits_Div64 (hi : Int) (lo : Int) (y : Int) (r_ : Int × Int) (H0 : bits_Div64 hi lo y = some r_) : CallOK Try.prog 24 [.one (.p (.val (.int .u64 hi))), .one (.p (.val (.int .u64 lo))), .one (.p (.val (.int .u64 y)))] [] [.one (.p (.val (.int .u64 r_.1))), .one (.p (.val (.int .u64 r_.2)))] [] := by
  refine callOK (n := 135) (rs := [.tmp 6, .tmp 7]) (nb := 0) (V := []) Try.func24 rfl (by kernel_rfl) rfl rfl rfl rfl (Nat.le_of_ble_eq_true rfl) (by decide) ?_
  unfold bits_Div64 at H0
  refine lok_rt E0 (⟨135, mkS [(0, .x (.one (.p (.val (.int .u64 hi))))), (1, .x (.one (.p (.val (.int .u64 lo))))), (2, .x (.one (.p (.val (.int .u64 y)))))], mkH []⟩) ?_
  refine lok_join (fun x_ : Unit => bits_Div64_j6 hi lo y = some r_) (fun x_ => ⟨135, mkS [(0, .x (.one (.p (.val (.int .u64 hi))))), (1, .x (.one (.p (.val (.int .u64 lo))))), (2, .x (.one (.p (.val (.int .u64 y)))))], mkH []⟩) ?hybits_Div64_j6 ?hxbits_Div64_j6
  case hybits_Div64_j6 =>
    rintro _ H0
    try dsimp only at H0 ⊢
    unfold bits_Div64_j6 at H0
    refine lok_join (fun x_ : Unit => bits_Div64_j5 hi lo y = some r_) (fun x_ => ⟨135, mkS [(0, .x (.one (.p (.val (.int .u64 hi))))), (1, .x (.one (.p (.val (.int .u64 lo))))), (2, .x (.one (.p (.val (.int .u64 y)))))], mkH []⟩) ?hybits_Div64_j5 ?hxbits_Div64_j5
    case hybits_Div64_j5 =>
      rintro _ H0
      try dsimp only at H0 ⊢
      unfold bits_Div64_j5 at H0
      refine lok_seq ?_
      refine lok_rt E0 (⟨135, mkS [(0, .x (.one (.p (.val (.int .u64 hi))))), (1, .x (.one (.p (.val (.int .u64 lo))))), (2, .x (.one (.p (.val (.int .u64 y))))), (27, .x (.one (.p (.val (.bool (hi == (0 : Int)))))))], mkH []⟩) ?_
      refine lok_c (hi == (0 : Int)) ?_ ?_
      · intro b_25
        replace H0 := cpos H0 b_25
        replace H0 := req_some H0
        obtain ⟨q_0, H0⟩ := H0
        refine lok_dt E0 7 (⟨135, mkS [(6, .x (.one (.p (.val (.int .u64 (IntKind.u64.wrap (Int.tdiv lo y))))))), (7, .x (.one (.p (.val (.int .u64 (Int.tmod lo y))))))], mkH []⟩) (by kernel_rfl) (by kernel_rfl) ?_
        refine lok_ret ?_
        try obtain rfl := Option.some.inj H0
        try simp only [thenL, blockL]
        exact fin_au _ (.inr rfl) [] (⟨135, mkS [(6, .x (.one (.p (.val (.int .u64 (IntKind.u64.wrap (Int.tdiv lo y))))))), (7, .x (.one (.p (.val (.int .u64 (Int.tmod lo y))))))], mkH []⟩) rfl rfl imp_au
      · intro b_25
        replace H0 := cneg H0 b_25
        refine lok_skip ?_
        try simp only [thenL, blockL, ↓reduceIte, reduceCtorEq]
        replace H0 := bind_some H0
        obtain ⟨y1, h_1, H0⟩ := H0
        refine lok_rt (Env.of E0 [⟨some 35, 26, [.one (.p (.val (.int .u64 y)))], [], [.one (.p (pi y1))], [], True, fun _ => ok_bits_LeadingZeros64 y y1 h_1, []⟩]) (⟨135, mkS [(0, .x (.one (.p (.val (.int .u64 hi))))), (1, .x (.one (.p (.val (.int .u64 lo))))), (2, .x (.one (.p (.val (.int .u64 y))))), (8, .x (.one (.p (.val (.int .u64 (IntKind.u64.wrap y1))))))], mkH []⟩) ?_
        replace H0 := req_some H0
        obtain ⟨q_24, H0⟩ := H0
        refine lok_rt E0 (⟨135, mkS [(0, .x (.one (.p (.val (.int .u64 hi))))), (1, .x (.one (.p (.val (.int .u64 lo))))), (2, .x (.one (.p (.val (.int .u64 (bShl .u64 y (IntKind.u64.wrap y1))))))), (8, .x (.one (.p (.val (.int .u64 (IntKind.u64.wrap y1))))))], mkH []⟩) ?_
        refine lok_rt E0 (⟨135, mkS [(0, .x (.one (.p (.val (.int .u64 hi))))), (1, .x (.one (.p (.val (.int .u64 lo))))), (2, .x (.one (.p (.val (.int .u64 (bShl .u64 y (IntKind.u64.wrap y1))))))), (8, .x (.one (.p (.val (.int .u64 (IntKind.u64.wrap y1)))))), (9, .x (.one (.p (.val (.int .u64 (bShr .u64 (bShl .u64 y (IntKind.u64.wrap y1)) (32 : Int)))))))], mkH []⟩) ?_
        refine lok_rt E0 (⟨135, mkS [(0, .x (.one (.p (.val (.int .u64 hi))))), (1, .x (.one (.p (.val (.int .u64 lo))))), (2, .x (.one (.p (.val (.int .u64 (bShl .u64 y (IntKind.u64.wrap y1))))))), (8, .x (.one (.p (.val (.int .u64 (IntKind.u64.wrap y1)))))), (9, .x (.one (.p (.val (.int .u64 (bShr .u64 (bShl .u64 y (IntKind.u64.wrap y1)) (32 : Int))))))), (10, .x (.one (.p (.val (.int .u64 (bAnd .u64 (bShl .u64 y (IntKind.u64.wrap y1)) (4294967295 : Int)))))))], mkH []⟩) ?_
        replace H0 := req_some H0
        obtain ⟨⟨q_22, q_23⟩, H0⟩ := H0
        replace H0 := bindV_some H0
        obtain ⟨un32, a_2, H0⟩ := H0
        refine lok_rtg E0 a_2 (⟨135, mkS [(1, .x (.one (.p (.val (.int .u64 lo))))), (2, .x (.one (.p (.val (.int .u64 (bShl .u64 y (IntKind.u64.wrap y1))))))), (8, .x (.one (.p (.val (.int .u64 (IntKind.u64.wrap y1)))))), (9, .x (.one (.p (.val (.int .u64 (bShr .u64 (bShl .u64 y (IntKind.u64.wrap y1)) (32 : Int))))))), (10, .x (.one (.p (.val (.int .u64 (bAnd .u64 (bShl .u64 y (IntKind.u64.wrap y1)) (4294967295 : Int))))))), (11, .x (.one (.p (.val (.int .u64 un32)))))], mkH []⟩) ?_
        replace H0 := req_some H0
        obtain ⟨q_21, H0⟩ := H0
        refine lok_rt E0 (⟨135, mkS [(2, .x (.one (.p (.val (.int .u64 (bShl .u64 y (IntKind.u64.wrap y1))))))), (8, .x (.one (.p (.val (.int .u64 (IntKind.u64.wrap y1)))))), (9, .x (.one (.p (.val (.int .u64 (bShr .u64 (bShl .u64 y (IntKind.u64.wrap y1)) (32 : Int))))))), (10, .x (.one (.p (.val (.int .u64 (bAnd .u64 (bShl .u64 y (IntKind.u64.wrap y1)) (4294967295 : Int))))))), (11, .x (.one (.p (.val (.int .u64 un32))))), (12, .x (.one (.p (.val (.int .u64 (bShl .u64 lo (IntKind.u64.wrap y1)))))))], mkH []⟩) ?_
        refine lok_rt E0 (⟨135, mkS [(2, .x (.one (.p (.val (.int .u64 (bShl .u64 y (IntKind.u64.wrap y1))))))), (8, .x (.one (.p (.val (.int .u64 (IntKind.u64.wrap y1)))))), (9, .x (.one (.p (.val (.int .u64 (bShr .u64 (bShl .u64 y (IntKind.u64.wrap y1)) (32 : Int))))))), (10, .x (.one (.p (.val (.int .u64 (bAnd .u64 (bShl .u64 y (IntKind.u64.wrap y1)) (4294967295 : Int))))))), (11, .x (.one (.p (.val (.int .u64 un32))))), (12, .x (.one (.p (.val (.int .u64 (bShl .u64 lo (IntKind.u64.wrap y1))))))), (13, .x (.one (.p (.val (.int .u64 (bShr .u64 (bShl .u64 lo (IntKind.u64.wrap y1)) (32 : Int)))))))], mkH []⟩) ?_
        refine lok_rt E0 (⟨135, mkS [(2, .x (.one (.p (.val (.int .u64 (bShl .u64 y (IntKind.u64.wrap y1))))))), (8, .x (.one (.p (.val (.int .u64 (IntKind.u64.wrap y1)))))), (9, .x (.one (.p (.val (.int .u64 (bShr .u64 (bShl .u64 y (IntKind.u64.wrap y1)) (32 : Int))))))), (10, .x (.one (.p (.val (.int .u64 (bAnd .u64 (bShl .u64 y (IntKind.u64.wrap y1)) (4294967295 : Int))))))), (11, .x (.one (.p (.val (.int .u64 un32))))), (13, .x (.one (.p (.val (.int .u64 (bShr .u64 (bShl .u64 lo (IntKind.u64.wrap y1)) (32 : Int))))))), (14, .x (.one (.p (.val (.int .u64 (bAnd .u64 (bShl .u64 lo (IntKind.u64.wrap y1)) (4294967295 : Int)))))))], mkH []⟩) ?_
        replace H0 := req_some H0
        obtain ⟨q_20, H0⟩ := H0
        replace H0 := bindV_some H0
        obtain ⟨q1, a_3, H0⟩ := H0
        refine lok_rtg E0 a_3 (⟨135, mkS [(2, .x (.one (.p (.val (.int .u64 (bShl .u64 y (IntKind.u64.wrap y1))))))), (8, .x (.one (.p (.val (.int .u64 (IntKind.u64.wrap y1)))))), (9, .x (.one (.p (.val (.int .u64 (bShr .u64 (bShl .u64 y (IntKind.u64.wrap y1)) (32 : Int))))))), (10, .x (.one (.p (.val (.int .u64 (bAnd .u64 (bShl .u64 y (IntKind.u64.wrap y1)) (4294967295 : Int))))))), (11, .x (.one (.p (.val (.int .u64 un32))))), (13, .x (.one (.p (.val (.int .u64 (bShr .u64 (bShl .u64 lo (IntKind.u64.wrap y1)) (32 : Int))))))), (14, .x (.one (.p (.val (.int .u64 (bAnd .u64 (bShl .u64 lo (IntKind.u64.wrap y1)) (4294967295 : Int))))))), (15, .x (.one (.p (.val (.int .u64 q1)))))], mkH []⟩) ?_
        replace H0 := bindV_some H0
        obtain ⟨rhat, a_4, H0⟩ := H0
        refine lok_rtg E0 a_4 (⟨135, mkS [(2, .x (.one (.p (.val (.int .u64 (bShl .u64 y (IntKind.u64.wrap y1))))))), (8, .x (.one (.p (.val (.int .u64 (IntKind.u64.wrap y1)))))), (9, .x (.one (.p (.val (.int .u64 (bShr .u64 (bShl .u64 y (IntKind.u64.wrap y1)) (32 : Int))))))), (10, .x (.one (.p (.val (.int .u64 (bAnd .u64 (bShl .u64 y (IntKind.u64.wrap y1)) (4294967295 : Int))))))), (11, .x (.one (.p (.val (.int .u64 un32))))), (13, .x (.one (.p (.val (.int .u64 (bShr .u64 (bShl .u64 lo (IntKind.u64.wrap y1)) (32 : Int))))))), (14, .x (.one (.p (.val (.int .u64 (bAnd .u64 (bShl .u64 lo (IntKind.u64.wrap y1)) (4294967295 : Int))))))), (15, .x (.one (.p (.val (.int .u64 q1))))), (16, .x (.one (.p (.val (.int .u64 rhat)))))], mkH []⟩) ?_
        refine lok_join (fun x_ : Int => bits_Div64_j3 lo y y1 un32 x_ = some r_) (fun x_ => ⟨135, mkS [(2, .x (.one (.p (.val (.int .u64 (bShl .u64 y (IntKind.u64.wrap y1))))))), (8, .x (.one (.p (.val (.int .u64 (IntKind.u64.wrap y1)))))), (9, .x (.one (.p (.val (.int .u64 (bShr .u64 (bShl .u64 y (IntKind.u64.wrap y1)) (32 : Int))))))), (10, .x (.one (.p (.val (.int .u64 (bAnd .u64 (bShl .u64 y (IntKind.u64.wrap y1)) (4294967295 : Int))))))), (11, .x (.one (.p (.val (.int .u64 un32))))), (13, .x (.one (.p (.val (.int .u64 (bShr .u64 (bShl .u64 lo (IntKind.u64.wrap y1)) (32 : Int))))))), (14, .x (.one (.p (.val (.int .u64 (bAnd .u64 (bShl .u64 lo (IntKind.u64.wrap y1)) (4294967295 : Int))))))), (15, .x (.one (.p (.val (.int .u64 x_)))))], mkH []⟩) ?hybits_Div64_j3 ?hxbits_Div64_j3
        case hybits_Div64_j3 =>
          rintro q11 H0
          try dsimp only at H0 ⊢
          unfold bits_Div64_j3 at H0
          replace H0 := bindV_some H0
          obtain ⟨un21, a_5, H0⟩ := H0
          refine lok_rtg E0 a_5 (⟨135, mkS [(2, .x (.one (.p (.val (.int .u64 (bShl .u64 y (IntKind.u64.wrap y1))))))), (8, .x (.one (.p (.val (.int .u64 (IntKind.u64.wrap y1)))))), (9, .x (.one (.p (.val (.int .u64 (bShr .u64 (bShl .u64 y (IntKind.u64.wrap y1)) (32 : Int))))))), (10, .x (.one (.p (.val (.int .u64 (bAnd .u64 (bShl .u64 y (IntKind.u64.wrap y1)) (4294967295 : Int))))))), (14, .x (.one (.p (.val (.int .u64 (bAnd .u64 (bShl .u64 lo (IntKind.u64.wrap y1)) (4294967295 : Int))))))), (15, .x (.one (.p (.val (.int .u64 q11))))), (17, .x (.one (.p (.val (.int .u64 un21)))))], mkH []⟩) ?_
          replace H0 := req_some H0
          obtain ⟨q_15, H0⟩ := H0
          replace H0 := bindV_some H0
          obtain ⟨q0, a_6, H0⟩ := H0
          refine lok_rtg E0 a_6 (⟨135, mkS [(2, .x (.one (.p (.val (.int .u64 (bShl .u64 y (IntKind.u64.wrap y1))))))), (8, .x (.one (.p (.val (.int .u64 (IntKind.u64.wrap y1)))))), (9, .x (.one (.p (.val (.int .u64 (bShr .u64 (bShl .u64 y (IntKind.u64.wrap y1)) (32 : Int))))))), (10, .x (.one (.p (.val (.int .u64 (bAnd .u64 (bShl .u64 y (IntKind.u64.wrap y1)) (4294967295 : Int))))))), (14, .x (.one (.p (.val (.int .u64 (bAnd .u64 (bShl .u64 lo (IntKind.u64.wrap y1)) (4294967295 : Int))))))), (15, .x (.one (.p (.val (.int .u64 q11))))), (17, .x (.one (.p (.val (.int .u64 un21))))), (18, .x (.one (.p (.val (.int .u64 q0)))))], mkH []⟩) ?_
          replace H0 := bindV_some H0
          obtain ⟨rhat1, a_7, H0⟩ := H0
          refine lok_rtg E0 a_7 (⟨135, mkS [(2, .x (.one (.p (.val (.int .u64 (bShl .u64 y (IntKind.u64.wrap y1))))))), (8, .x (.one (.p (.val (.int .u64 (IntKind.u64.wrap y1)))))), (9, .x (.one (.p (.val (.int .u64 (bShr .u64 (bShl .u64 y (IntKind.u64.wrap y1)) (32 : Int))))))), (10, .x (.one (.p (.val (.int .u64 (bAnd .u64 (bShl .u64 y (IntKind.u64.wrap y1)) (4294967295 : Int))))))), (14, .x (.one (.p (.val (.int .u64 (bAnd .u64 (bShl .u64 lo (IntKind.u64.wrap y1)) (4294967295 : Int))))))), (15, .x (.one (.p (.val (.int .u64 q11))))), (16, .x (.one (.p (.val (.int .u64 rhat1))))), (17, .x (.one (.p (.val (.int .u64 un21))))), (18, .x (.one (.p (.val (.int .u64 q0)))))], mkH []⟩) ?_
          refine lok_join (fun x_ : Int => bits_Div64_j1 lo y y1 q11 un21 x_ = some r_) (fun x_ => ⟨135, mkS [(2, .x (.one (.p (.val (.int .u64 (bShl .u64 y (IntKind.u64.wrap y1))))))), (8, .x (.one (.p (.val (.int .u64 (IntKind.u64.wrap y1)))))), (14, .x (.one (.p (.val (.int .u64 (bAnd .u64 (bShl .u64 lo (IntKind.u64.wrap y1)) (4294967295 : Int))))))), (15, .x (.one (.p (.val (.int .u64 q11))))), (17, .x (.one (.p (.val (.int .u64 un21))))), (18, .x (.one (.p (.val (.int .u64 x_)))))], mkH []⟩) ?hybits_Div64_j1 ?hxbits_Div64_j1
          case hybits_Div64_j1 =>
            rintro q01 H0
            try dsimp only at H0 ⊢
            unfold bits_Div64_j1 at H0
            replace H0 := req_some H0
            obtain ⟨q_10, H0⟩ := H0
            replace H0 := bindV_some H0
            obtain ⟨quo, a_8, H0⟩ := H0
            replace H0 := bindV_some H0
            obtain ⟨rem, a_9, H0⟩ := H0
            refine lok_rtg E0 (And.intro a_8 a_9) (⟨135, mkS [(6, .x (.one (.p (.val (.int .u64 quo))))), (7, .x (.one (.p (.val (.int .u64 rem)))))], mkH []⟩) ?_
            refine lok_ret ?_
            try obtain rfl := Option.some.inj H0
            try simp only [thenL, blockL]
            exact fin_au _ (.inr rfl) [] (⟨135, mkS [(6, .x (.one (.p (.val (.int .u64 quo))))), (7, .x (.one (.p (.val (.int .u64 rem)))))], mkH []⟩) rfl rfl imp_au
          case hxbits_Div64_j1 =>
            refine lok_block ?_
            replace H0 := bind_some H0
            obtain ⟨v_11, hv_11, H0⟩ := H0
            refine lok_iter (fun x_ => ⟨135, mkS [(2, .x (.one (.p (.val (.int .u64 (bShl .u64 y (IntKind.u64.wrap y1))))))), (8, .x (.one (.p (.val (.int .u64 (IntKind.u64.wrap y1)))))), (9, .x (.one (.p (.val (.int .u64 (bShr .u64 (bShl .u64 y (IntKind.u64.wrap y1)) (32 : Int))))))), (10, .x (.one (.p (.val (.int .u64 (bAnd .u64 (bShl .u64 y (IntKind.u64.wrap y1)) (4294967295 : Int))))))), (14, .x (.one (.p (.val (.int .u64 (bAnd .u64 (bShl .u64 lo (IntKind.u64.wrap y1)) (4294967295 : Int))))))), (15, .x (.one (.p (.val (.int .u64 q11))))), (16, .x (.one (.p (.val (.int .u64 x_.1))))), (17, .x (.one (.p (.val (.int .u64 un21))))), (18, .x (.one (.p (.val (.int .u64 x_.2)))))], mkH []⟩) hv_11 imp_au ?_
            · rintro ⟨rhat2, q02⟩ o_1 H1 k_1
              unfold bits_Div64_l2 at H1
              try dsimp only at H1 ⊢
              refine lok_seq ?_
              refine lok_rt E0 (⟨135, mkS [(2, .x (.one (.p (.val (.int .u64 (bShl .u64 y (IntKind.u64.wrap y1))))))), (8, .x (.one (.p (.val (.int .u64 (IntKind.u64.wrap y1)))))), (9, .x (.one (.p (.val (.int .u64 (bShr .u64 (bShl .u64 y (IntKind.u64.wrap y1)) (32 : Int))))))), (10, .x (.one (.p (.val (.int .u64 (bAnd .u64 (bShl .u64 y (IntKind.u64.wrap y1)) (4294967295 : Int))))))), (14, .x (.one (.p (.val (.int .u64 (bAnd .u64 (bShl .u64 lo (IntKind.u64.wrap y1)) (4294967295 : Int))))))), (15, .x (.one (.p (.val (.int .u64 q11))))), (16, .x (.one (.p (.val (.int .u64 rhat2))))), (17, .x (.one (.p (.val (.int .u64 un21))))), (18, .x (.one (.p (.val (.int .u64 q02))))), (113, .x (.one (.p (.val (.bool ((decide ((4294967296 : Int) ≤ q02)) || (decide ((IntKind.u64.wrap ((IntKind.u64.wrap ((4294967296 : Int) * rhat2)) + (bAnd .u64 (bShl .u64 lo (IntKind.u64.wrap y1)) (4294967295 : Int)))) < (IntKind.u64.wrap (q02 * (bAnd .u64 (bShl .u64 y (IntKind.u64.wrap y1)) (4294967295 : Int))))))))))))], mkH []⟩) ?_
              refine lok_c ((decide ((4294967296 : Int) ≤ q02)) || (decide ((IntKind.u64.wrap ((IntKind.u64.wrap ((4294967296 : Int) * rhat2)) + (bAnd .u64 (bShl .u64 lo (IntKind.u64.wrap y1)) (4294967295 : Int)))) < (IntKind.u64.wrap (q02 * (bAnd .u64 (bShl .u64 y (IntKind.u64.wrap y1)) (4294967295 : Int))))))) ?_ ?_
              · intro b_14
                replace H1 := cpos H1 b_14
                refine lok_skip ?_
                try simp only [thenL, blockL, ↓reduceIte, reduceCtorEq]
                refine lok_block ?_
                refine lok_rt E0 (⟨135, mkS [(2, .x (.one (.p (.val (.int .u64 (bShl .u64 y (IntKind.u64.wrap y1))))))), (8, .x (.one (.p (.val (.int .u64 (IntKind.u64.wrap y1)))))), (9, .x (.one (.p (.val (.int .u64 (bShr .u64 (bShl .u64 y (IntKind.u64.wrap y1)) (32 : Int))))))), (10, .x (.one (.p (.val (.int .u64 (bAnd .u64 (bShl .u64 y (IntKind.u64.wrap y1)) (4294967295 : Int))))))), (14, .x (.one (.p (.val (.int .u64 (bAnd .u64 (bShl .u64 lo (IntKind.u64.wrap y1)) (4294967295 : Int))))))), (15, .x (.one (.p (.val (.int .u64 q11))))), (16, .x (.one (.p (.val (.int .u64 rhat2))))), (17, .x (.one (.p (.val (.int .u64 un21))))), (18, .x (.one (.p (.val (.int .u64 (IntKind.u64.wrap (q02 - (1 : Int))))))))], mkH []⟩) ?_
                replace H1 := bindV_some H1
                obtain ⟨rhat3, a_12, H1⟩ := H1
                refine lok_rtg E0 a_12 (⟨135, mkS [(2, .x (.one (.p (.val (.int .u64 (bShl .u64 y (IntKind.u64.wrap y1))))))), (8, .x (.one (.p (.val (.int .u64 (IntKind.u64.wrap y1)))))), (9, .x (.one (.p (.val (.int .u64 (bShr .u64 (bShl .u64 y (IntKind.u64.wrap y1)) (32 : Int))))))), (10, .x (.one (.p (.val (.int .u64 (bAnd .u64 (bShl .u64 y (IntKind.u64.wrap y1)) (4294967295 : Int))))))), (14, .x (.one (.p (.val (.int .u64 (bAnd .u64 (bShl .u64 lo (IntKind.u64.wrap y1)) (4294967295 : Int))))))), (15, .x (.one (.p (.val (.int .u64 q11))))), (16, .x (.one (.p (.val (.int .u64 rhat3))))), (17, .x (.one (.p (.val (.int .u64 un21))))), (18, .x (.one (.p (.val (.int .u64 (IntKind.u64.wrap (q02 - (1 : Int))))))))], mkH []⟩) ?_
                refine lok_rt E0 (⟨135, mkS [(2, .x (.one (.p (.val (.int .u64 (bShl .u64 y (IntKind.u64.wrap y1))))))), (8, .x (.one (.p (.val (.int .u64 (IntKind.u64.wrap y1)))))), (9, .x (.one (.p (.val (.int .u64 (bShr .u64 (bShl .u64 y (IntKind.u64.wrap y1)) (32 : Int))))))), (10, .x (.one (.p (.val (.int .u64 (bAnd .u64 (bShl .u64 y (IntKind.u64.wrap y1)) (4294967295 : Int))))))), (14, .x (.one (.p (.val (.int .u64 (bAnd .u64 (bShl .u64 lo (IntKind.u64.wrap y1)) (4294967295 : Int))))))), (15, .x (.one (.p (.val (.int .u64 q11))))), (16, .x (.one (.p (.val (.int .u64 rhat3))))), (17, .x (.one (.p (.val (.int .u64 un21))))), (18, .x (.one (.p (.val (.int .u64 (IntKind.u64.wrap (q02 - (1 : Int)))))))), (120, .x (.one (.p (.val (.bool (decide ((4294967296 : Int) ≤ rhat3)))))))], mkH []⟩) ?_
                refine lok_c (decide ((4294967296 : Int) ≤ rhat3)) ?_ ?_
                · intro b_13
                  replace H1 := cpos H1 b_13
                  refine lok_exit ?_
                  try simp only [thenL, blockL, ↓reduceIte, reduceCtorEq]
                  have e_1 := k_1 _ (Option.some.inj H1).symm
                  subst e_1
                  try dsimp only at H0
                  try simp only [thenL, blockL, ↓reduceIte, reduceCtorEq]
                  exact ⟨(IntKind.u64.wrap (q02 - (1 : Int))), H0, imp_au⟩
                · intro b_13
                  replace H1 := cneg H1 b_13
                  refine lok_skip ?_
                  try simp only [thenL, blockL, ↓reduceIte, reduceCtorEq]
                  exact ⟨(rhat3, (IntKind.u64.wrap (q02 - (1 : Int)))), (Option.some.inj H1).symm, imp_au⟩
              · intro b_14
                replace H1 := cneg H1 b_14
                refine lok_exit ?_
                try simp only [thenL, blockL, ↓reduceIte, reduceCtorEq]
                have e_1 := k_1 _ (Option.some.inj H1).symm
                subst e_1
                try dsimp only at H0
                try simp only [thenL, blockL, ↓reduceIte, reduceCtorEq]
                exact ⟨q02, H0, imp_au⟩
        case hxbits_Div64_j3 =>
          refine lok_block ?_
          replace H0 := bind_some H0
          obtain ⟨v_16, hv_16, H0⟩ := H0
          refine lok_iter (fun x_ => ⟨135, mkS [(2, .x (.one (.p (.val (.int .u64 (bShl .u64 y (IntKind.u64.wrap y1))))))), (8, .x (.one (.p (.val (.int .u64 (IntKind.u64.wrap y1)))))), (9, .x (.one (.p (.val (.int .u64 (bShr .u64 (bShl .u64 y (IntKind.u64.wrap y1)) (32 : Int))))))), (10, .x (.one (.p (.val (.int .u64 (bAnd .u64 (bShl .u64 y (IntKind.u64.wrap y1)) (4294967295 : Int))))))), (11, .x (.one (.p (.val (.int .u64 un32))))), (13, .x (.one (.p (.val (.int .u64 (bShr .u64 (bShl .u64 lo (IntKind.u64.wrap y1)) (32 : Int))))))), (14, .x (.one (.p (.val (.int .u64 (bAnd .u64 (bShl .u64 lo (IntKind.u64.wrap y1)) (4294967295 : Int))))))), (15, .x (.one (.p (.val (.int .u64 x_.1))))), (16, .x (.one (.p (.val (.int .u64 x_.2)))))], mkH []⟩) hv_16 imp_au ?_
          · rintro ⟨q12, rhat4⟩ o_1 H1 k_1
            unfold bits_Div64_l4 at H1
            try dsimp only at H1 ⊢
            refine lok_seq ?_
            refine lok_rt E0 (⟨135, mkS [(2, .x (.one (.p (.val (.int .u64 (bShl .u64 y (IntKind.u64.wrap y1))))))), (8, .x (.one (.p (.val (.int .u64 (IntKind.u64.wrap y1)))))), (9, .x (.one (.p (.val (.int .u64 (bShr .u64 (bShl .u64 y (IntKind.u64.wrap y1)) (32 : Int))))))), (10, .x (.one (.p (.val (.int .u64 (bAnd .u64 (bShl .u64 y (IntKind.u64.wrap y1)) (4294967295 : Int))))))), (11, .x (.one (.p (.val (.int .u64 un32))))), (13, .x (.one (.p (.val (.int .u64 (bShr .u64 (bShl .u64 lo (IntKind.u64.wrap y1)) (32 : Int))))))), (14, .x (.one (.p (.val (.int .u64 (bAnd .u64 (bShl .u64 lo (IntKind.u64.wrap y1)) (4294967295 : Int))))))), (15, .x (.one (.p (.val (.int .u64 q12))))), (16, .x (.one (.p (.val (.int .u64 rhat4))))), (78, .x (.one (.p (.val (.bool ((decide ((4294967296 : Int) ≤ q12)) || (decide ((IntKind.u64.wrap ((IntKind.u64.wrap ((4294967296 : Int) * rhat4)) + (bShr .u64 (bShl .u64 lo (IntKind.u64.wrap y1)) (32 : Int)))) < (IntKind.u64.wrap (q12 * (bAnd .u64 (bShl .u64 y (IntKind.u64.wrap y1)) (4294967295 : Int))))))))))))], mkH []⟩) ?_
            refine lok_c ((decide ((4294967296 : Int) ≤ q12)) || (decide ((IntKind.u64.wrap ((IntKind.u64.wrap ((4294967296 : Int) * rhat4)) + (bShr .u64 (bShl .u64 lo (IntKind.u64.wrap y1)) (32 : Int)))) < (IntKind.u64.wrap (q12 * (bAnd .u64 (bShl .u64 y (IntKind.u64.wrap y1)) (4294967295 : Int))))))) ?_ ?_
            · intro b_19
              replace H1 := cpos H1 b_19
              refine lok_skip ?_
              try simp only [thenL, blockL, ↓reduceIte, reduceCtorEq]
              refine lok_block ?_
              refine lok_rt E0 (⟨135, mkS [(2, .x (.one (.p (.val (.int .u64 (bShl .u64 y (IntKind.u64.wrap y1))))))), (8, .x (.one (.p (.val (.int .u64 (IntKind.u64.wrap y1)))))), (9, .x (.one (.p (.val (.int .u64 (bShr .u64 (bShl .u64 y (IntKind.u64.wrap y1)) (32 : Int))))))), (10, .x (.one (.p (.val (.int .u64 (bAnd .u64 (bShl .u64 y (IntKind.u64.wrap y1)) (4294967295 : Int))))))), (11, .x (.one (.p (.val (.int .u64 un32))))), (13, .x (.one (.p (.val (.int .u64 (bShr .u64 (bShl .u64 lo (IntKind.u64.wrap y1)) (32 : Int))))))), (14, .x (.one (.p (.val (.int .u64 (bAnd .u64 (bShl .u64 lo (IntKind.u64.wrap y1)) (4294967295 : Int))))))), (15, .x (.one (.p (.val (.int .u64 (IntKind.u64.wrap (q12 - (1 : Int)))))))), (16, .x (.one (.p (.val (.int .u64 rhat4)))))], mkH []⟩) ?_
              replace H1 := bindV_some H1
              obtain ⟨rhat5, a_17, H1⟩ := H1
              refine lok_rtg E0 a_17 (⟨135, mkS [(2, .x (.one (.p (.val (.int .u64 (bShl .u64 y (IntKind.u64.wrap y1))))))), (8, .x (.one (.p (.val (.int .u64 (IntKind.u64.wrap y1)))))), (9, .x (.one (.p (.val (.int .u64 (bShr .u64 (bShl .u64 y (IntKind.u64.wrap y1)) (32 : Int))))))), (10, .x (.one (.p (.val (.int .u64 (bAnd .u64 (bShl .u64 y (IntKind.u64.wrap y1)) (4294967295 : Int))))))), (11, .x (.one (.p (.val (.int .u64 un32))))), (13, .x (.one (.p (.val (.int .u64 (bShr .u64 (bShl .u64 lo (IntKind.u64.wrap y1)) (32 : Int))))))), (14, .x (.one (.p (.val (.int .u64 (bAnd .u64 (bShl .u64 lo (IntKind.u64.wrap y1)) (4294967295 : Int))))))), (15, .x (.one (.p (.val (.int .u64 (IntKind.u64.wrap (q12 - (1 : Int)))))))), (16, .x (.one (.p (.val (.int .u64 rhat5)))))], mkH []⟩) ?_
              refine lok_rt E0 (⟨135, mkS [(2, .x (.one (.p (.val (.int .u64 (bShl .u64 y (IntKind.u64.wrap y1))))))), (8, .x (.one (.p (.val (.int .u64 (IntKind.u64.wrap y1)))))), (9, .x (.one (.p (.val (.int .u64 (bShr .u64 (bShl .u64 y (IntKind.u64.wrap y1)) (32 : Int))))))), (10, .x (.one (.p (.val (.int .u64 (bAnd .u64 (bShl .u64 y (IntKind.u64.wrap y1)) (4294967295 : Int))))))), (11, .x (.one (.p (.val (.int .u64 un32))))), (13, .x (.one (.p (.val (.int .u64 (bShr .u64 (bShl .u64 lo (IntKind.u64.wrap y1)) (32 : Int))))))), (14, .x (.one (.p (.val (.int .u64 (bAnd .u64 (bShl .u64 lo (IntKind.u64.wrap y1)) (4294967295 : Int))))))), (15, .x (.one (.p (.val (.int .u64 (IntKind.u64.wrap (q12 - (1 : Int)))))))), (16, .x (.one (.p (.val (.int .u64 rhat5))))), (85, .x (.one (.p (.val (.bool (decide ((4294967296 : Int) ≤ rhat5)))))))], mkH []⟩) ?_
              refine lok_c (decide ((4294967296 : Int) ≤ rhat5)) ?_ ?_
              · intro b_18
                replace H1 := cpos H1 b_18
                refine lok_exit ?_
                try simp only [thenL, blockL, ↓reduceIte, reduceCtorEq]
                have e_1 := k_1 _ (Option.some.inj H1).symm
                subst e_1
                try dsimp only at H0
                try simp only [thenL, blockL, ↓reduceIte, reduceCtorEq]
                exact ⟨(IntKind.u64.wrap (q12 - (1 : Int))), H0, imp_au⟩
              · intro b_18
                replace H1 := cneg H1 b_18
                refine lok_skip ?_
                try simp only [thenL, blockL, ↓reduceIte, reduceCtorEq]
                exact ⟨((IntKind.u64.wrap (q12 - (1 : Int))), rhat5), (Option.some.inj H1).symm, imp_au⟩
            · intro b_19
              replace H1 := cneg H1 b_19
              refine lok_exit ?_
              try simp only [thenL, blockL, ↓reduceIte, reduceCtorEq]
              have e_1 := k_1 _ (Option.some.inj H1).symm
              subst e_1
              try dsimp only at H0
              try simp only [thenL, blockL, ↓reduceIte, reduceCtorEq]
              exact ⟨q12, H0, imp_au⟩
    case hxbits_Div64_j5 =>
      refine lok_rt E0 (⟨135, mkS [(0, .x (.one (.p (.val (.int .u64 hi))))), (1, .x (.one (.p (.val (.int .u64 lo))))), (2, .x (.one (.p (.val (.int .u64 y))))), (24, .x (.one (.p (.val (.bool (decide (y ≤ hi)))))))], mkH []⟩) ?_
      refine lok_c (decide (y ≤ hi)) ?_ ?_
      · intro b_26
        replace H0 := cpos H0 b_26
        cases H0
      · intro b_26
        replace H0 := cneg H0 b_26
        refine lok_skip ?_
        try simp only [thenL, blockL, ↓reduceIte, reduceCtorEq]
        exact ⟨(), H0, imp_au⟩
  case hxbits_Div64_j6 =>
    refine lok_rt E0 (⟨135, mkS [(0, .x (.one (.p (.val (.int .u64 hi))))), (1, .x (.one (.p (.val (.int .u64 lo))))), (2, .x (.one (.p (.val (.int .u64 y))))), (20, .x (.one (.p (.val (.bool (y == (0 : Int)))))))], mkH []⟩) ?_
    refine lok_c (y == (0 : Int)) ?_ ?_
    · intro b_27
      replace H0 := cpos H0 b_27
      cases H0
    · intro b_27
      replace H0 := cneg H0 b_27
      refine lok_skip ?_
      try simp only [thenL, blockL, ↓reduceIte, reduceCtorEq]
      exact ⟨(), H0, imp_au⟩
theorem ok_bits_Rem64 (hi : Int) (lo : Int) (y : Int) (r_ : Int) (H0 : bits_Rem64 hi lo y = some r_) : CallOK Try.prog 23 [.one (.p (.val (.int .u64 hi))), .one (.p (.val (.int .u64 lo))), .one (.p (.val (.int .u64 y)))] [] [.one (.p (.val (.int .u64 r_)))] [] := by
  refine callOK (n := 19) (rs := [.tmp 6]) (nb := 0) (V := []) Try.func23 rfl (by kernel_rfl) rfl rfl rfl rfl (Nat.le_of_ble_eq_true rfl) (by decide) ?_
  unfold bits_Rem64 at H0
  refine lok_rt E0 (⟨19, mkS [(0, .x (.one (.p (.val (.int .u64 hi))))), (1, .x (.one (.p (.val (.int .u64 lo))))), (2, .x (.one (.p (.val (.int .u64 y)))))], mkH []⟩) ?_
  replace H0 := req_some H0
  obtain ⟨q_1, H0⟩ := H0
  replace H0 := bind_some H0
  obtain ⟨⟨y1, y2⟩, h_0, H0⟩ := H0
  try dsimp only at H0
  refine lok_rt (Env.of E0 [⟨some 15, 24, [.one (.p (.val (.int .u64 (Int.tmod hi y)))), .one (.p (.val (.int .u64 lo))), .one (.p (.val (.int .u64 y)))], [], [.one (.p (.val (.int .u64 y1))), .one (.p (.val (.int .u64 y2)))], [], True, fun _ => ok_bits_Div64 (Int.tmod hi y) lo y (y1, y2) h_0, []⟩]) (⟨19, mkS [(8, .x (.one (.p (.val (.int .u64 y2)))))], mkH []⟩) ?_
  refine lok_rt E0 (⟨19, mkS [(6, .x (.one (.p (.val (.int .u64 y2)))))], mkH []⟩) ?_
  refine lok_ret ?_
  try obtain rfl := Option.some.inj H0
  try simp only [thenL, blockL]
  exact fin_au _ (.inr rfl) [] (⟨19, mkS [(6, .x (.one (.p (.val (.int .u64 y2)))))], mkH []⟩) rfl rfl imp_au
theorem ok_ratio_wide_mod (a : ratio_wide) (d : Int) (r_ : Int) (H0 : ratio_wide_mod a d = some r_) : CallOK Try.prog 19 [.agg [.p (.val (.int .u64 a.hi)), .p (.val (.int .u64 a.lo))], .one (.p (.val (.int .u64 d)))] [] [.one (.p (.val (.int .u64 r_)))] [] := by
  refine callOK (n := 11) (rs := [.tmp 4]) (nb := 0) (V := []) Try.func19 rfl (by kernel_rfl) rfl rfl rfl rfl (Nat.le_of_ble_eq_true rfl) (by decide) ?_
  unfold ratio_wide_mod at H0
  refine lok_rt E0 (⟨11, mkS [(1, .x (.one (.p (.val (.int .u64 d))))), (2, .x (.one (.ptr 102 0)))], mkH [(102, .var [.p (.val (.int .u64 a.hi)), .p (.val (.int .u64 a.lo))])]⟩) ?_
  replace H0 := bind_some H0
  obtain ⟨y, h_0, H0⟩ := H0
  refine lok_rt (Env.of E0 [⟨some 10, 23, [.one (.p (.val (.int .u64 a.hi))), .one (.p (.val (.int .u64 a.lo))), .one (.p (.val (.int .u64 d)))], [], [.one (.p (.val (.int .u64 y)))], [], True, fun _ => ok_bits_Rem64 a.hi a.lo d y h_0, []⟩]) (⟨11, mkS [(4, .x (.one (.p (.val (.int .u64 y)))))], mkH []⟩) ?_
  refine lok_ret ?_
  try obtain rfl := Option.some.inj H0
  try simp only [thenL, blockL]
  exact fin_au _ (.inr rfl) [] (⟨11, mkS [(4, .x (.one (.p (.val (.int .u64 y)))))], mkH []⟩) rfl rfl imp_au
theorem ok_ratio_fitted (neg : Bool) (num : ratio_wide) (den : ratio_wide) (r_ : api_Ratio × Int) (H0 : ratio_fitted neg num den = some r_) : CallOK Try.prog 20 [.one (.p (.val (.bool neg))), .agg [.p (.val (.int .u64 num.hi)), .p (.val (.int .u64 num.lo))], .agg [.p (.val (.int .u64 den.hi)), .p (.val (.int .u64 den.lo))]] [] [.agg [.p (pi r_.1.Num), .p (pi r_.1.Den)], .one (.p (pi r_.2))] [] := by
  refine callOK (n := 39) (rs := [.cell 6 32, .tmp 7]) (nb := 0) (V := []) Try.func20 rfl (by kernel_rfl) rfl rfl rfl rfl (Nat.le_of_ble_eq_true rfl) (by decide) ?_
  unfold ratio_fitted at H0
  refine lok_rt E0 (⟨39, mkS [(0, .x (.one (.p (.val (.bool neg))))), (4, .x (.one (.ptr 104 0))), (5, .x (.one (.ptr 105 0))), (6, .x (.one (.ptr 106 0)))], mkH [(104, .var [.p (.val (.int .u64 num.hi)), .p (.val (.int .u64 num.lo))]), (105, .var [.p (.val (.int .u64 den.hi)), .p (.val (.int .u64 den.lo))]), (106, .var [.p (pi (0 : Int)), .p (pi (0 : Int))])]⟩) ?_
  refine lok_seq ?_
  refine lok_rt E0 (⟨39, mkS [(0, .x (.one (.p (.val (.bool neg))))), (4, .x (.one (.ptr 104 0))), (5, .x (.one (.ptr 105 0))), (6, .x (.one (.ptr 106 0))), (26, .x (.one (.p (.val (.bool ((((num.hi != (0 : Int)) || (den.hi != (0 : Int))) || (decide ((1152921504606846976 : Int) < num.lo))) || (decide ((1152921504606846976 : Int) < den.lo))))))))], mkH [(104, .var [.p (.val (.int .u64 num.hi)), .p (.val (.int .u64 num.lo))]), (105, .var [.p (.val (.int .u64 den.hi)), .p (.val (.int .u64 den.lo))]), (106, .var [.p (pi (0 : Int)), .p (pi (0 : Int))])]⟩) ?_
  refine lok_c ((((num.hi != (0 : Int)) || (den.hi != (0 : Int))) || (decide ((1152921504606846976 : Int) < num.lo))) || (decide ((1152921504606846976 : Int) < den.lo))) ?_ ?_
  · intro b_1
    replace H0 := cpos H0 b_1
    refine lok_rt E0 (⟨39, mkS [(6, .x (.one (.ptr 106 0))), (7, .x (.one (.p (pi (6 : Int)))))], mkH [(106, .var [.p (pi (0 : Int)), .p (pi (0 : Int))])]⟩) ?_
    refine lok_ret ?_
    try obtain rfl := Option.some.inj H0
    try simp only [thenL, blockL]
    exact fin_au _ (.inr rfl) [] (⟨39, mkS [(6, .x (.one (.ptr 106 0))), (7, .x (.one (.p (pi (6 : Int)))))], mkH [(106, .var [.p (pi (0 : Int)), .p (pi (0 : Int))])]⟩) rfl rfl imp_au
  · intro b_1
    replace H0 := cneg H0 b_1
    refine lok_skip ?_
    try simp only [thenL, blockL, ↓reduceIte, reduceCtorEq]
    refine lok_rt E0 (⟨39, mkS [(0, .x (.one (.p (.val (.bool neg))))), (5, .x (.one (.ptr 105 0))), (6, .x (.one (.ptr 106 0))), (8, .x (.one (.p (pi (IntKind.i64.wrap num.lo)))))], mkH [(105, .var [.p (.val (.int .u64 den.hi)), .p (.val (.int .u64 den.lo))]), (106, .var [.p (pi (0 : Int)), .p (pi (0 : Int))])]⟩) ?_
    refine lok_join (fun x_ : Int => ratio_fitted_j1 den x_ = some r_) (fun x_ => ⟨39, mkS [(5, .x (.one (.ptr 105 0))), (6, .x (.one (.ptr 106 0))), (8, .x (.one (.p (pi x_))))], mkH [(105, .var [.p (.val (.int .u64 den.hi)), .p (.val (.int .u64 den.lo))]), (106, .var [.p (pi (0 : Int)), .p (pi (0 : Int))])]⟩) ?hyratio_fitted_j1 ?hxratio_fitted_j1
    case hyratio_fitted_j1 =>
      rintro n H0
      try dsimp only at H0 ⊢
      unfold ratio_fitted_j1 at H0
      refine lok_rt E0 (⟨39, mkS [(6, .x (.one (.ptr 106 0))), (7, .x (.one (.p (pi (0 : Int)))))], mkH [(106, .var [.p (pi n), .p (pi (IntKind.i64.wrap den.lo))])]⟩) ?_
      refine lok_ret ?_
      try obtain rfl := Option.some.inj H0
      try simp only [thenL, blockL]
      exact fin_au _ (.inr rfl) [] (⟨39, mkS [(6, .x (.one (.ptr 106 0))), (7, .x (.one (.p (pi (0 : Int)))))], mkH [(106, .var [.p (pi n), .p (pi (IntKind.i64.wrap den.lo))])]⟩) rfl rfl imp_au
    case hxratio_fitted_j1 =>
      refine lok_rt E0 (⟨39, mkS [(5, .x (.one (.ptr 105 0))), (6, .x (.one (.ptr 106 0))), (8, .x (.one (.p (pi (IntKind.i64.wrap num.lo))))), (31, .x (.one (.p (.val (.bool neg)))))], mkH [(105, .var [.p (.val (.int .u64 den.hi)), .p (.val (.int .u64 den.lo))]), (106, .var [.p (pi (0 : Int)), .p (pi (0 : Int))])]⟩) ?_
      refine lok_c neg ?_ ?_
      · intro b_0
        replace H0 := cpos H0 b_0
        refine lok_rl E0 (⟨39, mkS [(5, .x (.one (.ptr 105 0))), (6, .x (.one (.ptr 106 0))), (8, .x (.one (.p (pi (IntKind.i64.wrap (0 - (IntKind.i64.wrap num.lo)))))))], mkH [(105, .var [.p (.val (.int .u64 den.hi)), .p (.val (.int .u64 den.lo))]), (106, .var [.p (pi (0 : Int)), .p (pi (0 : Int))])]⟩) ?_
        try simp only [thenL, blockL, ↓reduceIte, reduceCtorEq]
        exact ⟨(IntKind.i64.wrap (0 - (IntKind.i64.wrap num.lo))), H0, imp_au⟩
      · intro b_0
        replace H0 := cneg H0 b_0
        refine lok_skip ?_
        try simp only [thenL, blockL, ↓reduceIte, reduceCtorEq]
        exact ⟨(IntKind.i64.wrap num.lo), H0, imp_au⟩
theorem ok_ratio_wide_over (a : ratio_wide) (d : Int) (r_ : ratio_wide) (H0 : ratio_wide_over a d = some r_) : CallOK Try.prog 21 [.agg [.p (.val (.int .u64 a.hi)), .p (.val (.int .u64 a.lo))], .one (.p (.val (.int .u64 d)))] [] [.agg [.p (.val (.int .u64 r_.hi)), .p (.val (.int .u64 r_.lo))]] [] := by
  refine callOK (n := 28) (rs := [.cell 4 41]) (nb := 0) (V := []) Try.func21 rfl (by kernel_rfl) rfl rfl rfl rfl (Nat.le_of_ble_eq_true rfl) (by decide) ?_
  unfold ratio_wide_over at H0
  refine lok_rt E0 (⟨28, mkS [(1, .x (.one (.p (.val (.int .u64 d))))), (2, .x (.one (.ptr 102 0))), (4, .x (.one (.ptr 104 0)))], mkH [(102, .var [.p (.val (.int .u64 a.hi)), .p (.val (.int .u64 a.lo))]), (104, .var [.p (.val (.int .u64 (0 : Int))), .p (.val (.int .u64 (0 : Int)))])]⟩) ?_
  replace H0 := req_some H0
  obtain ⟨q_1, H0⟩ := H0
  refine lok_dt E0 9 (⟨28, mkS [(1, .x (.one (.p (.val (.int .u64 d))))), (2, .x (.one (.ptr 102 0))), (4, .x (.one (.ptr 104 0))), (5, .x (.one (.p (.val (.int .u64 (IntKind.u64.wrap (Int.tdiv a.hi d))))))), (6, .x (.one (.p (.val (.int .u64 (Int.tmod a.hi d))))))], mkH [(102, .var [.p (.val (.int .u64 a.hi)), .p (.val (.int .u64 a.lo))]), (104, .var [.p (.val (.int .u64 (0 : Int))), .p (.val (.int .u64 (0 : Int)))])]⟩) (by kernel_rfl) (by kernel_rfl) ?_
  replace H0 := bind_some H0
  obtain ⟨⟨y, y1⟩, h_0, H0⟩ := H0
  try dsimp only at H0
  refine lok_rt (Env.of E0 [⟨some 22, 24, [.one (.p (.val (.int .u64 (Int.tmod a.hi d)))), .one (.p (.val (.int .u64 a.lo))), .one (.p (.val (.int .u64 d)))], [], [.one (.p (.val (.int .u64 y))), .one (.p (.val (.int .u64 y1)))], [], True, fun _ => ok_bits_Div64 (Int.tmod a.hi d) a.lo d (y, y1) h_0, []⟩]) (⟨28, mkS [(4, .x (.one (.ptr 104 0))), (5, .x (.one (.p (.val (.int .u64 (IntKind.u64.wrap (Int.tdiv a.hi d))))))), (7, .x (.one (.p (.val (.int .u64 y)))))], mkH [(104, .var [.p (.val (.int .u64 (0 : Int))), .p (.val (.int .u64 (0 : Int)))])]⟩) ?_
  refine lok_rt E0 (⟨28, mkS [(4, .x (.one (.ptr 104 0)))], mkH [(104, .var [.p (.val (.int .u64 (IntKind.u64.wrap (Int.tdiv a.hi d)))), .p (.val (.int .u64 y))])]⟩) ?_
  refine lok_ret ?_
  try obtain rfl := Option.some.inj H0
  try simp only [thenL, blockL]
  exact fin_au _ (.inr rfl) [] (⟨28, mkS [(4, .x (.one (.ptr 104 0)))], mkH [(104, .var [.p (.val (.int .u64 (IntKind.u64.wrap (Int.tdiv a.hi d)))), .p (.val (.int .u64 y))])]⟩) rfl rfl imp_au
theorem ok_ratio_reduced (num : ratio_signed) (den : Int) (r_ : api_Ratio × Int) (H0 : ratio_reduced num den = some r_) : CallOK Try.prog 14 [.agg [.p (.val (.bool num.neg)), .p (.val (.int .u64 num.abs.hi)), .p (.val (.int .u64 num.abs.lo))], .one (.p (.val (.int .u64 den)))] [] [.agg [.p (pi r_.1.Num), .p (pi r_.1.Den)], .one (.p (pi r_.2))] [] := by
  refine callOK (n := 26) (rs := [.cell 4 32, .tmp 5]) (nb := 0) (V := []) Try.func14 rfl (by kernel_rfl) rfl rfl rfl rfl (Nat.le_of_ble_eq_true rfl) (by decide) ?_
  unfold ratio_reduced at H0
  refine lok_rt E0 (⟨26, mkS [(1, .x (.one (.p (.val (.int .u64 den))))), (2, .x (.one (.ptr 102 0))), (4, .x (.one (.ptr 104 0)))], mkH [(102, .var [.p (.val (.bool num.neg)), .p (.val (.int .u64 num.abs.hi)), .p (.val (.int .u64 num.abs.lo))]), (104, .var [.p (pi (0 : Int)), .p (pi (0 : Int))])]⟩) ?_
  replace H0 := bind_some H0
  obtain ⟨y, h_0, H0⟩ := H0
  replace H0 := bind_some H0
  obtain ⟨y1, h_1, H0⟩ := H0
  refine lok_rt (Env.of E0 [⟨some 10, 19, [.agg [.p (.val (.int .u64 num.abs.hi)), .p (.val (.int .u64 num.abs.lo))], .one (.p (.val (.int .u64 den)))], [], [.one (.p (.val (.int .u64 y)))], [], True, fun _ => ok_ratio_wide_mod num.abs den y h_0, []⟩,
      ⟨some 12, 18, [.one (.p (.val (.int .u64 y))), .one (.p (.val (.int .u64 den)))], [], [.one (.p (.val (.int .u64 y1)))], [], True, fun _ => ok_ratio_gcd y den y1 h_1, []⟩]) (⟨26, mkS [(1, .x (.one (.p (.val (.int .u64 den))))), (2, .x (.one (.ptr 102 0))), (4, .x (.one (.ptr 104 0))), (6, .x (.one (.p (.val (.int .u64 y1)))))], mkH [(102, .var [.p (.val (.bool num.neg)), .p (.val (.int .u64 num.abs.hi)), .p (.val (.int .u64 num.abs.lo))]), (104, .var [.p (pi (0 : Int)), .p (pi (0 : Int))])]⟩) ?_
  replace H0 := bind_some H0
  obtain ⟨y2, h_2, H0⟩ := H0
  replace H0 := req_some H0
  obtain ⟨q_4, H0⟩ := H0
  replace H0 := bind_some H0
  obtain ⟨⟨y3, y4⟩, h_3, H0⟩ := H0
  try dsimp only at H0
  refine lok_dt (Env.of E0 [⟨some 18, 21, [.agg [.p (.val (.int .u64 num.abs.hi)), .p (.val (.int .u64 num.abs.lo))], .one (.p (.val (.int .u64 y1)))], [], [.agg [.p (.val (.int .u64 y2.hi)), .p (.val (.int .u64 y2.lo))]], [], True, fun _ => ok_ratio_wide_over num.abs y1 y2 h_2, []⟩,
      ⟨some 23, 20, [.one (.p (.val (.bool num.neg))), .agg [.p (.val (.int .u64 y2.hi)), .p (.val (.int .u64 y2.lo))], .agg [.p (.val (.int .u64 (0 : Int))), .p (.val (.int .u64 (IntKind.u64.wrap (Int.tdiv den y1))))]], [], [.agg [.p (pi y3.Num), .p (pi y3.Den)], .one (.p (pi y4))], [], True, fun _ => ok_ratio_fitted num.neg y2 (ratio_wide.mk (0 : Int) (IntKind.u64.wrap (Int.tdiv den y1))) (y3, y4) h_3, []⟩]) 13 (⟨26, mkS [(4, .x (.one (.ptr 104 0))), (5, .x (.one (.p (pi y4))))], mkH [(104, .var [.p (pi y3.Num), .p (pi y3.Den)])]⟩) (by kernel_rfl) (by kernel_rfl) ?_
  refine lok_ret ?_
  try obtain rfl := Option.some.inj H0
  try simp only [thenL, blockL]
  exact fin_au _ (.inr rfl) [] (⟨26, mkS [(4, .x (.one (.ptr 104 0))), (5, .x (.one (.p (pi y4))))], mkH [(104, .var [.p (pi y3.Num), .p (pi y3.Den)])]⟩) rfl rfl imp_au
theorem ok_ratio_magnitude (n : Int) (r_ : Int) (H0 : ratio_magnitude n = some r_) : CallOK Try.prog 15 [.one (.p (pi n))] [] [.one (.p (.val (.int .u64 r_)))] [] := by
  refine callOK (n := 10) (rs := [.tmp 2]) (nb := 0) (V := []) Try.func15 rfl (by kernel_rfl) rfl rfl rfl rfl (Nat.le_of_ble_eq_true rfl) (by decide) ?_
  unfold ratio_magnitude at H0
  refine lok_rt E0 (⟨10, mkS [(0, .x (.one (.p (pi n))))], mkH []⟩) ?_
  refine lok_seq ?_
  refine lok_rt E0 (⟨10, mkS [(0, .x (.one (.p (pi n)))), (4, .x (.one (.p (.val (.bool (decide (n < (0 : Int))))))))], mkH []⟩) ?_
  refine lok_c (decide (n < (0 : Int))) ?_ ?_
  · intro b_0
    replace H0 := cpos H0 b_0
    refine lok_rt E0 (⟨10, mkS [(2, .x (.one (.p (.val (.int .u64 (IntKind.u64.wrap (0 - (IntKind.u64.wrap n))))))))], mkH []⟩) ?_
    refine lok_ret ?_
    try obtain rfl := Option.some.inj H0
    try simp only [thenL, blockL]
    exact fin_au _ (.inr rfl) [] (⟨10, mkS [(2, .x (.one (.p (.val (.int .u64 (IntKind.u64.wrap (0 - (IntKind.u64.wrap n))))))))], mkH []⟩) rfl rfl imp_au
  · intro b_0
    replace H0 := cneg H0 b_0
    refine lok_skip ?_
    try simp only [thenL, blockL, ↓reduceIte, reduceCtorEq]
    refine lok_rt E0 (⟨10, mkS [(2, .x (.one (.p (.val (.int .u64 (IntKind.u64.wrap n))))))], mkH []⟩) ?_
    refine lok_ret ?_
    try obtain rfl := Option.some.inj H0
    try simp only [thenL, blockL]
    exact fin_au _ (.inr rfl) [] (⟨10, mkS [(2, .x (.one (.p (.val (.int .u64 (IntKind.u64.wrap n))))))], mkH []⟩) rfl rfl imp_au
theorem ok_ratio_New (num : Int) (den : Int) (r_ : api_Ratio × Int) (H0 : ratio_New num den = some r_) : CallOK Try.prog 11 [.one (.p (pi num)), .one (.p (pi den))] [] [.agg [.p (pi r_.1.Num), .p (pi r_.1.Den)], .one (.p (pi r_.2))] [] := by
  refine callOK (n := 25) (rs := [.cell 4 32, .tmp 5]) (nb := 0) (V := []) Try.func11 rfl (by kernel_rfl) rfl rfl rfl rfl (Nat.le_of_ble_eq_true rfl) (by decide) ?_
  unfold ratio_New at H0
  refine lok_rt E0 (⟨25, mkS [(0, .x (.one (.p (pi num)))), (1, .x (.one (.p (pi den)))), (4, .x (.one (.ptr 104 0)))], mkH [(104, .var [.p (pi (0 : Int)), .p (pi (0 : Int))])]⟩) ?_
  refine lok_seq ?_
  refine lok_rt E0 (⟨25, mkS [(0, .x (.one (.p (pi num)))), (1, .x (.one (.p (pi den)))), (4, .x (.one (.ptr 104 0))), (8, .x (.one (.p (.val (.bool (den == (0 : Int)))))))], mkH [(104, .var [.p (pi (0 : Int)), .p (pi (0 : Int))])]⟩) ?_
  refine lok_c (den == (0 : Int)) ?_ ?_
  · intro b_3
    replace H0 := cpos H0 b_3
    refine lok_rt E0 (⟨25, mkS [(4, .x (.one (.ptr 104 0))), (5, .x (.one (.p (pi (2 : Int)))))], mkH [(104, .var [.p (pi (0 : Int)), .p (pi (0 : Int))])]⟩) ?_
    refine lok_ret ?_
    try obtain rfl := Option.some.inj H0
    try simp only [thenL, blockL]
    exact fin_au _ (.inr rfl) [] (⟨25, mkS [(4, .x (.one (.ptr 104 0))), (5, .x (.one (.p (pi (2 : Int)))))], mkH [(104, .var [.p (pi (0 : Int)), .p (pi (0 : Int))])]⟩) rfl rfl imp_au
  · intro b_3
    replace H0 := cneg H0 b_3
    refine lok_skip ?_
    try simp only [thenL, blockL, ↓reduceIte, reduceCtorEq]
    refine lok_rt E0 (⟨25, mkS [(0, .x (.one (.p (pi num)))), (1, .x (.one (.p (pi den)))), (4, .x (.one (.ptr 104 0))), (6, .x (.one (.p (.val (.bool (!((decide (num < (0 : Int))) == (decide (den < (0 : Int))))))))))], mkH [(104, .var [.p (pi (0 : Int)), .p (pi (0 : Int))])]⟩) ?_
    replace H0 := bind_some H0
    obtain ⟨y, h_0, H0⟩ := H0
    replace H0 := bind_some H0
    obtain ⟨y1, h_1, H0⟩ := H0
    replace H0 := bind_some H0
    obtain ⟨⟨y2, y3⟩, h_2, H0⟩ := H0
    try dsimp only at H0
    refine lok_rt (Env.of E0 [⟨some 17, 15, [.one (.p (pi num))], [], [.one (.p (.val (.int .u64 y)))], [], True, fun _ => ok_ratio_magnitude num y h_0, []⟩,
      ⟨some 21, 15, [.one (.p (pi den))], [], [.one (.p (.val (.int .u64 y1)))], [], True, fun _ => ok_ratio_magnitude den y1 h_1, []⟩,
      ⟨some 22, 14, [.agg [.p (.val (.bool (!((decide (num < (0 : Int))) == (decide (den < (0 : Int))))))), .p (.val (.int .u64 (0 : Int))), .p (.val (.int .u64 y))], .one (.p (.val (.int .u64 y1)))], [], [.agg [.p (pi y2.Num), .p (pi y2.Den)], .one (.p (pi y3))], [], True, fun _ => ok_ratio_reduced (ratio_signed.mk (!((decide (num < (0 : Int))) == (decide (den < (0 : Int))))) (ratio_wide.mk (0 : Int) y)) y1 (y2, y3) h_2, []⟩]) (⟨25, mkS [(4, .x (.one (.ptr 104 0))), (5, .x (.one (.p (pi y3))))], mkH [(104, .var [.p (pi y2.Num), .p (pi y2.Den)])]⟩) ?_
    refine lok_ret ?_
    try obtain rfl := Option.some.inj H0
    try simp only [thenL, blockL]
    exact fin_au _ (.inr rfl) [] (⟨25, mkS [(4, .x (.one (.ptr 104 0))), (5, .x (.one (.p (pi y3))))], mkH [(104, .var [.p (pi y2.Num), .p (pi y2.Den)])]⟩) rfl rfl imp_au
theorem ok_law01_awake  (r_ : Bool) (H0 : law01_awake = some r_) : CallOK Try.prog 7 [] [] [.one (.p (.val (.bool r_)))] [] := by
  refine callOK (n := 48) (rs := [.tmp 0]) (nb := 0) (V := []) Try.func7 rfl (by kernel_rfl) rfl rfl rfl rfl (Nat.le_of_ble_eq_true rfl) (by decide) ?_
  unfold law01_awake at H0
  refine lok_rt E0 (⟨48, mkS [], mkH []⟩) ?_
  replace H0 := bind_some H0
  obtain ⟨⟨y, y1⟩, h_0, H0⟩ := H0
  try dsimp only at H0
  refine lok_rt (Env.of E0 [⟨some 6, 11, [.one (.p (pi (6 : Int))), .one (.p (pi (-4 : Int)))], [], [.agg [.p (pi y.Num), .p (pi y.Den)], .one (.p (pi y1))], [], True, fun _ => ok_ratio_New (6 : Int) (-4 : Int) (y, y1) h_0, []⟩]) (⟨48, mkS [(1, .x (.one (.ptr 101 0))), (2, .x (.one (.p (pi y1))))], mkH [(101, .var [.p (pi y.Num), .p (pi y.Den)])]⟩) ?_
  replace H0 := bind_some H0
  obtain ⟨⟨y2, y3⟩, h_1, H0⟩ := H0
  try dsimp only at H0
  refine lok_rt (Env.of E0 [⟨some 11, 4, [.one (.p (pi (3 : Int))), .one (.p (.sl 1 (List.map encI ([(5 : Int), (3 : Int), (0 : Int)]))))], [], [.one (.p (.sl 1 (List.map encI y2))), .one (.p (pi y3))], [], True, fun _ => ok_ratio_Apportion (3 : Int) ([(5 : Int), (3 : Int), (0 : Int)]) (y2, y3) h_1, []⟩]) (⟨48, mkS [(1, .x (.one (.ptr 101 0))), (2, .x (.one (.p (pi y1)))), (3, .x (.one (.p (.sl 1 (List.map encI y2))))), (4, .x (.one (.p (pi y3))))], mkH [(101, .var [.p (pi y.Num), .p (pi y.Den)])]⟩) ?_
  replace H0 := req_some H0
  obtain ⟨⟨q_2, q_3, q_4⟩, H0⟩ := H0
  refine lok_rt E0 (⟨48, mkS [(0, .x (.one (.p (.val (.bool (((((((y1 == (0 : Int)) && ((y.Num == (-3 : Int)) && (y.Den == (2 : Int)))) && (y3 == (0 : Int))) && ((y2.length : Int) == (3 : Int))) && ((ix y2 (0 : Int)) == (2 : Int))) && ((ix y2 (1 : Int)) == (1 : Int))) && ((ix y2 (2 : Int)) == (0 : Int))))))))], mkH []⟩) ?_
  refine lok_ret ?_
  try obtain rfl := Option.some.inj H0
  try simp only [thenL, blockL]
  exact fin_au _ (.inr rfl) [] (⟨48, mkS [(0, .x (.one (.p (.val (.bool (((((((y1 == (0 : Int)) && ((y.Num == (-3 : Int)) && (y.Den == (2 : Int)))) && (y3 == (0 : Int))) && ((y2.length : Int) == (3 : Int))) && ((ix y2 (0 : Int)) == (2 : Int))) && ((ix y2 (1 : Int)) == (1 : Int))) && ((ix y2 (2 : Int)) == (0 : Int))))))))], mkH []⟩) rfl rfl imp_au
theorem ok_law01_RatioApportions (total : Int) (weights : List Int) (r_ : Bool) (H0 : law01_RatioApportions total weights = some r_) : CallOK Try.prog 3 [.one (.p (pi total)), .one (.p (.sl 1 (List.map encI weights)))] [] [.one (.p (.val (.bool r_)))] [] := by
  refine callOK (n := 35) (rs := [.tmp 4]) (nb := 0) (V := []) Try.func3 rfl (by kernel_rfl) rfl rfl rfl rfl (Nat.le_of_ble_eq_true rfl) (by decide) ?_
  unfold law01_RatioApportions at H0
  refine lok_rt E0 (⟨35, mkS [(0, .x (.one (.p (pi total)))), (1, .x (.one (.p (.sl 1 (List.map encI weights)))))], mkH []⟩) ?_
  refine lok_seq ?_
  refine lok_rt E0 (⟨35, mkS [(0, .x (.one (.p (pi total)))), (1, .x (.one (.p (.sl 1 (List.map encI weights))))), (11, .x (.one (.p (.val (.bool (decide ((120 : Int) < (weights.length : Int))))))))], mkH []⟩) ?_
  refine lok_c (decide ((120 : Int) < (weights.length : Int))) ?_ ?_
  · intro b_4
    replace H0 := cpos H0 b_4
    refine lok_rt E0 (⟨35, mkS [(4, .x (.one (.p (.val (.bool true)))))], mkH []⟩) ?_
    refine lok_ret ?_
    try obtain rfl := Option.some.inj H0
    try simp only [thenL, blockL]
    exact fin_au _ (.inr rfl) [] (⟨35, mkS [(4, .x (.one (.p (.val (.bool true)))))], mkH []⟩) rfl rfl imp_au
  · intro b_4
    replace H0 := cneg H0 b_4
    refine lok_skip ?_
    try simp only [thenL, blockL, ↓reduceIte, reduceCtorEq]
    replace H0 := bind_some H0
    obtain ⟨⟨y, y1⟩, h_0, H0⟩ := H0
    try dsimp only at H0
    refine lok_rt (Env.of E0 [⟨some 15, 4, [.one (.p (pi total)), .one (.p (.sl 1 (List.map encI weights)))], [], [.one (.p (.sl 1 (List.map encI y))), .one (.p (pi y1))], [], True, fun _ => ok_ratio_Apportion total weights (y, y1) h_0, []⟩]) (⟨35, mkS [(0, .x (.one (.p (pi total)))), (1, .x (.one (.p (.sl 1 (List.map encI weights))))), (5, .x (.one (.p (.sl 1 (List.map encI y))))), (6, .x (.one (.p (pi y1))))], mkH []⟩) ?_
    replace H0 := bind_some H0
    obtain ⟨⟨y2, y3⟩, h_1, H0⟩ := H0
    try dsimp only at H0
    refine lok_rt (Env.of E0 [⟨some 21, 5, [.one (.p (pi total)), .one (.p (.sl 1 (List.map encI weights)))], [], [.one (.p (.sl 1 (List.map encI y2))), .one (.p (pi y3))], [], True, fun _ => ok_ref01_Apportion total weights (y2, y3) h_1, []⟩]) (⟨35, mkS [(5, .x (.one (.p (.sl 1 (List.map encI y))))), (6, .x (.one (.p (pi y1)))), (7, .x (.one (.p (.sl 1 (List.map encI y2))))), (8, .x (.one (.p (pi y3))))], mkH []⟩) ?_
    replace H0 := bind_some H0
    obtain ⟨y4, h_2, H0⟩ := H0
    replace H0 := req_some H0
    obtain ⟨q_3, H0⟩ := H0
    refine lok_rt (Env.of E0 [⟨some 26, 6, [.one (.p (.sl 1 (List.map encI y))), .one (.p (.sl 1 (List.map encI y2)))], [], [.one (.p (.val (.bool y4)))], [], True, fun _ => ok_law01_same y y2 y4 h_2, []⟩,
      ⟨some 33, 7, [], [], [.one (.p (.val (.bool ((law01_awake).getD default))))], [], (law01_awake).isSome = true, fun h => ok_law01_awake _ (isSome_get h), []⟩]) (⟨35, mkS [(4, .x (.one (.p (.val (.bool ((y4 && (y1 == y3)) && ((law01_awake).getD default)))))))], mkH []⟩) ?_
    refine lok_ret ?_
    try obtain rfl := Option.some.inj H0
    try simp only [thenL, blockL]
    exact fin_au _ (.inr rfl) [] (⟨35, mkS [(4, .x (.one (.p (.val (.bool ((y4 && (y1 == y3)) && ((law01_awake).getD default)))))))], mkH []⟩) rfl rfl imp_au
end Go.LS
