/-
  The walks: the functions compute what the plain ones say. Condition: the plain function has a value.
-/
import Derived.Test.YtamifffofclhkaaK1
import Derived.Test.YtamifffofclhkaaD2
namespace Go.LS
open Go.Proofs
set_option linter.all false
set_option linter.unusedSimpArgs false
set_option linter.unusedVariables false
set_option maxRecDepth 20000

theorem ok_boundary_check (d : api_Distribution) (share : api_Ratio) (r_ : Int) (H0 : boundary_check d share = some r_) : CallOK Try.prog 35 [.agg [.p (.sl 1 (List.map encI d.Counts))], .agg [.p (pi share.Num), .p (pi share.Den)]] [] [.one (.p (pi r_))] [] := by
  refine callOK (n := 26) (rs := [.tmp 4]) (nb := 0) (V := []) Try.func35 rfl (by kernel_rfl) rfl rfl rfl rfl (Nat.le_of_ble_eq_true rfl) rfl (by decide) ?_
  unfold boundary_check at H0
  refine lok_rt E0 (⟨26, mkS [(2, .x (.one (.ptr 102 0))), (3, .x (.one (.ptr 103 0)))], mkH [(102, .var [.p (.sl 1 (List.map encI d.Counts))]), (103, .var [.p (pi share.Num), .p (pi share.Den)])]⟩) ?_
  refine lok_seq ?_
  replace H0 := bind_some H0
  obtain ⟨y, h_0, H0⟩ := H0
  replace H0 := req_some H0
  obtain ⟨q_5, H0⟩ := H0
  refine lok_rt (Env.of E0 [⟨some 6, 31, [.agg [.p (.sl 1 (List.map encI d.Counts))]], [], [.one (.p (.val (.bool y)))], [], True, fun _ => ok_distribution_Valid d y h_0⟩,
      ⟨some 10, 48, [.agg [.p (pi share.Num), .p (pi share.Den)]], [], [.one (.p (.val (.bool ((ratio_Valid share).getD default))))], [], (ratio_Valid share).isSome = true, fun h => ok_ratio_Valid share _ (isSome_get h)⟩]) (⟨26, mkS [(2, .x (.one (.ptr 102 0))), (3, .x (.one (.ptr 103 0))), (12, .x (.one (.p (.val (.bool ((!y) || (!((ratio_Valid share).getD default))))))))], mkH [(102, .var [.p (.sl 1 (List.map encI d.Counts))]), (103, .var [.p (pi share.Num), .p (pi share.Den)])]⟩) ?_
  refine lok_c ((!y) || (!((ratio_Valid share).getD default))) ?_ ?_
  · intro b_4
    replace H0 := cpos H0 b_4
    refine lok_rt E0 (⟨26, mkS [(4, .x (.one (.p (pi (1 : Int)))))], mkH []⟩) ?_
    refine lok_ret ?_
    obtain rfl := Option.some.inj H0
    try simp only [thenL, blockL]
    exact fin_au _ (.inr rfl) [] (⟨26, mkS [(4, .x (.one (.p (pi (1 : Int)))))], mkH []⟩) rfl rfl imp_au
  · intro b_4
    replace H0 := cneg H0 b_4
    refine lok_skip ?_
    try simp only [thenL, blockL, ↓reduceIte, reduceCtorEq]
    refine lok_seq ?_
    replace H0 := bind_some H0
    obtain ⟨y1, h_1, H0⟩ := H0
    refine lok_rt (Env.of E0 [⟨some 14, 40, [.agg [.p (.sl 1 (List.map encI d.Counts))]], [], [.one (.p (pi y1))], [], True, fun _ => ok_distribution_Count d y1 h_1⟩]) (⟨26, mkS [(3, .x (.one (.ptr 103 0))), (15, .x (.one (.p (.val (.bool (y1 == (0 : Int)))))))], mkH [(103, .var [.p (pi share.Num), .p (pi share.Den)])]⟩) ?_
    refine lok_c (y1 == (0 : Int)) ?_ ?_
    · intro b_3
      replace H0 := cpos H0 b_3
      refine lok_rt E0 (⟨26, mkS [(4, .x (.one (.p (pi (10 : Int)))))], mkH []⟩) ?_
      refine lok_ret ?_
      obtain rfl := Option.some.inj H0
      try simp only [thenL, blockL]
      exact fin_au _ (.inr rfl) [] (⟨26, mkS [(4, .x (.one (.p (pi (10 : Int)))))], mkH []⟩) rfl rfl imp_au
    · intro b_3
      replace H0 := cneg H0 b_3
      refine lok_skip ?_
      try simp only [thenL, blockL, ↓reduceIte, reduceCtorEq]
      refine lok_seq ?_
      refine lok_rt E0 (⟨26, mkS [(25, .x (.one (.p (.val (.bool ((decide (share.Num < (0 : Int))) || (decide (share.Den < share.Num))))))))], mkH []⟩) ?_
      refine lok_c ((decide (share.Num < (0 : Int))) || (decide (share.Den < share.Num))) ?_ ?_
      · intro b_2
        replace H0 := cpos H0 b_2
        refine lok_rt E0 (⟨26, mkS [(4, .x (.one (.p (pi (2 : Int)))))], mkH []⟩) ?_
        refine lok_ret ?_
        obtain rfl := Option.some.inj H0
        try simp only [thenL, blockL]
        exact fin_au _ (.inr rfl) [] (⟨26, mkS [(4, .x (.one (.p (pi (2 : Int)))))], mkH []⟩) rfl rfl imp_au
      · intro b_2
        replace H0 := cneg H0 b_2
        refine lok_skip ?_
        try simp only [thenL, blockL, ↓reduceIte, reduceCtorEq]
        refine lok_rt E0 (⟨26, mkS [(4, .x (.one (.p (pi (0 : Int)))))], mkH []⟩) ?_
        refine lok_ret ?_
        obtain rfl := Option.some.inj H0
        try simp only [thenL, blockL]
        exact fin_au _ (.inr rfl) [] (⟨26, mkS [(4, .x (.one (.p (pi (0 : Int)))))], mkH []⟩) rfl rfl imp_au
theorem ok_boundary_reaching (d : api_Distribution) (r_ : (List Int)) (H0 : boundary_reaching d = some r_) : CallOK Try.prog 36 [.agg [.p (.sl 1 (List.map encI d.Counts))]] [] [.one (.p (.sl 1 (List.map encI r_)))] [] := by
  refine callOK (n := 31) (rs := [.tmp 2]) (nb := 0) (V := []) Try.func36 rfl (by kernel_rfl) rfl rfl rfl rfl (Nat.le_of_ble_eq_true rfl) rfl (by decide) ?_
  unfold boundary_reaching at H0
  refine lok_rt E0 (⟨31, mkS [(1, .x (.one (.ptr 101 0)))], mkH [(101, .var [.p (.sl 1 (List.map encI d.Counts))])]⟩) ?_
  replace H0 := req_some H0
  obtain ⟨q_7, H0⟩ := H0
  refine lok_rt E0 (⟨31, mkS [(1, .x (.one (.ptr 101 0))), (3, .x (.one (.vw 109)))], mkH [(101, .var [.p (.sl 1 (List.map encI d.Counts))]), (109, .arr 1 (List.map encI (rep (IntKind.i64.wrap ((d.Counts.length : Int) + (1 : Int))) (0 : Int))))]⟩) ?_
  refine lok_join (fun x_ : (List Int) => boundary_reaching_j1 x_ = some r_) (fun x_ => ⟨31, mkS [(3, .x (.one (.vw 109)))], mkH [(109, .arr 1 (List.map encI x_))]⟩) ?hyboundary_reaching_j1 ?hxboundary_reaching_j1
  case hyboundary_reaching_j1 =>
    rintro w H0
    try dsimp only at H0 ⊢
    unfold boundary_reaching_j1 at H0
    refine lok_rt E0 (⟨31, mkS [(2, .x (.one (.vw 109)))], mkH [(109, .arr 1 (List.map encI w))]⟩) ?_
    refine lok_ret ?_
    obtain rfl := Option.some.inj H0
    try simp only [thenL, blockL]
    exact fin_au _ (.inr rfl) [] (⟨31, mkS [(2, .x (.one (.p (.sl 1 (List.map encI w)))))], mkH []⟩) rfl rfl (Imp.trans (imp_frz 109 1 (List.map encI w)) imp_au)
  case hxboundary_reaching_j1 =>
    replace H0 := bind_some H0
    obtain ⟨y, h_0, H0⟩ := H0
    refine lok_rt (Env.of E0 [⟨some 11, 32, [.agg [.p (.sl 1 (List.map encI d.Counts))]], [], [.one (.p (pi y))], [], True, fun _ => ok_boundary_greatest d y h_0⟩]) (⟨31, mkS [(1, .x (.one (.ptr 101 0))), (3, .x (.one (.vw 109))), (4, .x (.one (.p (pi y))))], mkH [(101, .var [.p (.sl 1 (List.map encI d.Counts))]), (109, .arr 1 (List.map encI (rep (IntKind.i64.wrap ((d.Counts.length : Int) + (1 : Int))) (0 : Int))))]⟩) ?_
    refine lok_block ?_
    replace H0 := bind_some H0
    obtain ⟨v_1, hv_1, H0⟩ := H0
    refine lok_iter (fun x_ => ⟨31, mkS [(1, .x (.one (.ptr 101 0))), (3, .x (.one (.vw 109))), (4, .x (.one (.p (pi x_.1))))], mkH [(101, .var [.p (.sl 1 (List.map encI d.Counts))]), (109, .arr 1 (List.map encI x_.2))]⟩) hv_1 imp_au ?_
    · rintro ⟨i, w1⟩ o_1 H1 k_1
      unfold boundary_reaching_l2 at H1
      try dsimp only at H1 ⊢
      refine lok_seq ?_
      refine lok_rt E0 (⟨31, mkS [(1, .x (.one (.ptr 101 0))), (3, .x (.one (.vw 109))), (4, .x (.one (.p (pi i)))), (13, .x (.one (.p (.val (.bool (decide ((0 : Int) ≤ i)))))))], mkH [(101, .var [.p (.sl 1 (List.map encI d.Counts))]), (109, .arr 1 (List.map encI w1))]⟩) ?_
      refine lok_c (decide ((0 : Int) ≤ i)) ?_ ?_
      · intro b_6
        replace H1 := cpos H1 b_6
        refine lok_skip ?_
        try simp only [thenL, blockL, ↓reduceIte, reduceCtorEq]
        refine lok_seq ?_
        refine lok_block ?_
        replace H1 := req_some H1
        obtain ⟨⟨q_3, q_4, q_5⟩, H1⟩ := H1
        replace H1 := bindV_some H1
        obtain ⟨w3, a_2, H1⟩ := H1
        refine lok_dlg E0 13 a_2 (⟨31, mkS [(1, .x (.one (.ptr 101 0))), (3, .x (.one (.vw 109))), (4, .x (.one (.p (pi i))))], mkH [(101, .var [.p (.sl 1 (List.map encI d.Counts))]), (109, .arr 1 (List.map encI w3))]⟩) (by kernel_rfl) (by kernel_rfl) ?_
        try simp only [thenL, blockL, ↓reduceIte, reduceCtorEq]
        refine lok_rl E0 (⟨31, mkS [(1, .x (.one (.ptr 101 0))), (3, .x (.one (.vw 109))), (4, .x (.one (.p (pi (IntKind.i64.wrap (i - (1 : Int)))))))], mkH [(101, .var [.p (.sl 1 (List.map encI d.Counts))]), (109, .arr 1 (List.map encI w3))]⟩) ?_
        try simp only [thenL, blockL, ↓reduceIte, reduceCtorEq]
        exact ⟨((IntKind.i64.wrap (i - (1 : Int))), w3), (Option.some.inj H1).symm, imp_au⟩
      · intro b_6
        replace H1 := cneg H1 b_6
        refine lok_exit ?_
        try simp only [thenL, blockL, ↓reduceIte, reduceCtorEq]
        have e_1 := k_1 _ (Option.some.inj H1).symm
        subst e_1
        try dsimp only at H0
        try simp only [thenL, blockL, ↓reduceIte, reduceCtorEq]
        exact ⟨w1, H0, imp_au⟩
theorem ok_bits_Len64 (x : Int) (r_ : Int) (H0 : bits_Len64 x = some r_) : CallOK Try.prog 87 [.one (.p (.val (.int .u64 x)))] [] [.one (.p (pi r_))] [] := by
  refine callOK (n := 25) (rs := [.tmp 2]) (nb := 0) (V := []) Try.func87 rfl (by kernel_rfl) rfl rfl rfl rfl (Nat.le_of_ble_eq_true rfl) rfl (by decide) ?_
  unfold bits_Len64 at H0
  refine lok_rt E0 (⟨25, mkS [(0, .x (.one (.p (.val (.int .u64 x))))), (2, .x (.one (.p (pi (0 : Int)))))], mkH []⟩) ?_
  refine lok_join (fun x_ : Int × Int => bits_Len64_j3 x_.1 x_.2 = some r_) (fun x_ => ⟨25, mkS [(0, .x (.one (.p (.val (.int .u64 x_.1))))), (2, .x (.one (.p (pi x_.2))))], mkH []⟩) ?hybits_Len64_j3 ?hxbits_Len64_j3
  case hybits_Len64_j3 =>
    rintro ⟨x1, n⟩ H0
    try dsimp only at H0 ⊢
    unfold bits_Len64_j3 at H0
    refine lok_join (fun x_ : Int × Int => bits_Len64_j2 x_.1 x_.2 = some r_) (fun x_ => ⟨25, mkS [(0, .x (.one (.p (.val (.int .u64 x_.1))))), (2, .x (.one (.p (pi x_.2))))], mkH []⟩) ?hybits_Len64_j2 ?hxbits_Len64_j2
    case hybits_Len64_j2 =>
      rintro ⟨x2, n1⟩ H0
      try dsimp only at H0 ⊢
      unfold bits_Len64_j2 at H0
      refine lok_join (fun x_ : Int × Int => bits_Len64_j1 x_.1 x_.2 = some r_) (fun x_ => ⟨25, mkS [(0, .x (.one (.p (.val (.int .u64 x_.1))))), (2, .x (.one (.p (pi x_.2))))], mkH []⟩) ?hybits_Len64_j1 ?hxbits_Len64_j1
      case hybits_Len64_j1 =>
        rintro ⟨x3, n2⟩ H0
        try dsimp only at H0 ⊢
        unfold bits_Len64_j1 at H0
        replace H0 := req_some H0
        obtain ⟨q_1, H0⟩ := H0
        replace H0 := bindV_some H0
        obtain ⟨n3, a_0, H0⟩ := H0
        refine lok_rtg E0 a_0 (⟨25, mkS [(2, .x (.one (.p (pi n3))))], mkH []⟩) ?_
        refine lok_ret ?_
        obtain rfl := Option.some.inj H0
        try simp only [thenL, blockL]
        exact fin_au _ (.inr rfl) [] (⟨25, mkS [(2, .x (.one (.p (pi n3))))], mkH []⟩) rfl rfl imp_au
      case hxbits_Len64_j1 =>
        refine lok_rt E0 (⟨25, mkS [(0, .x (.one (.p (.val (.int .u64 x2))))), (2, .x (.one (.p (pi n1)))), (14, .x (.one (.p (.val (.bool (decide ((256 : Int) ≤ x2)))))))], mkH []⟩) ?_
        refine lok_c (decide ((256 : Int) ≤ x2)) ?_ ?_
        · intro b_2
          replace H0 := cpos H0 b_2
          refine lok_rt E0 (⟨25, mkS [(0, .x (.one (.p (.val (.int .u64 (bShr .u64 x2 (8 : Int))))))), (2, .x (.one (.p (pi n1))))], mkH []⟩) ?_
          refine lok_rl E0 (⟨25, mkS [(0, .x (.one (.p (.val (.int .u64 (bShr .u64 x2 (8 : Int))))))), (2, .x (.one (.p (pi (IntKind.i64.wrap (n1 + (8 : Int)))))))], mkH []⟩) ?_
          try simp only [thenL, blockL, ↓reduceIte, reduceCtorEq]
          exact ⟨((bShr .u64 x2 (8 : Int)), (IntKind.i64.wrap (n1 + (8 : Int)))), H0, imp_au⟩
        · intro b_2
          replace H0 := cneg H0 b_2
          refine lok_skip ?_
          try simp only [thenL, blockL, ↓reduceIte, reduceCtorEq]
          exact ⟨(x2, n1), H0, imp_au⟩
    case hxbits_Len64_j2 =>
      refine lok_rt E0 (⟨25, mkS [(0, .x (.one (.p (.val (.int .u64 x1))))), (2, .x (.one (.p (pi n)))), (8, .x (.one (.p (.val (.bool (decide ((65536 : Int) ≤ x1)))))))], mkH []⟩) ?_
      refine lok_c (decide ((65536 : Int) ≤ x1)) ?_ ?_
      · intro b_3
        replace H0 := cpos H0 b_3
        refine lok_rt E0 (⟨25, mkS [(0, .x (.one (.p (.val (.int .u64 (bShr .u64 x1 (16 : Int))))))), (2, .x (.one (.p (pi n))))], mkH []⟩) ?_
        refine lok_rl E0 (⟨25, mkS [(0, .x (.one (.p (.val (.int .u64 (bShr .u64 x1 (16 : Int))))))), (2, .x (.one (.p (pi (IntKind.i64.wrap (n + (16 : Int)))))))], mkH []⟩) ?_
        try simp only [thenL, blockL, ↓reduceIte, reduceCtorEq]
        exact ⟨((bShr .u64 x1 (16 : Int)), (IntKind.i64.wrap (n + (16 : Int)))), H0, imp_au⟩
      · intro b_3
        replace H0 := cneg H0 b_3
        refine lok_skip ?_
        try simp only [thenL, blockL, ↓reduceIte, reduceCtorEq]
        exact ⟨(x1, n), H0, imp_au⟩
  case hxbits_Len64_j3 =>
    refine lok_rt E0 (⟨25, mkS [(0, .x (.one (.p (.val (.int .u64 x))))), (2, .x (.one (.p (pi (0 : Int))))), (4, .x (.one (.p (.val (.bool (decide ((4294967296 : Int) ≤ x)))))))], mkH []⟩) ?_
    refine lok_c (decide ((4294967296 : Int) ≤ x)) ?_ ?_
    · intro b_4
      replace H0 := cpos H0 b_4
      refine lok_rt E0 (⟨25, mkS [(0, .x (.one (.p (.val (.int .u64 (bShr .u64 x (32 : Int)))))))], mkH []⟩) ?_
      refine lok_rl E0 (⟨25, mkS [(0, .x (.one (.p (.val (.int .u64 (bShr .u64 x (32 : Int))))))), (2, .x (.one (.p (pi (32 : Int)))))], mkH []⟩) ?_
      try simp only [thenL, blockL, ↓reduceIte, reduceCtorEq]
      exact ⟨((bShr .u64 x (32 : Int)), (32 : Int)), H0, imp_au⟩
    · intro b_4
      replace H0 := cneg H0 b_4
      refine lok_skip ?_
      try simp only [thenL, blockL, ↓reduceIte, reduceCtorEq]
      exact ⟨(x, (0 : Int)), H0, imp_au⟩
theorem ok_bits_LeadingZeros64 (x : Int) (r_ : Int) (H0 : bits_LeadingZeros64 x = some r_) : CallOK Try.prog 84 [.one (.p (.val (.int .u64 x)))] [] [.one (.p (pi r_))] [] := by
  refine callOK (n := 6) (rs := [.tmp 2]) (nb := 0) (V := []) Try.func84 rfl (by kernel_rfl) rfl rfl rfl rfl (Nat.le_of_ble_eq_true rfl) rfl (by decide) ?_
  unfold bits_LeadingZeros64 at H0
  refine lok_rt E0 (⟨6, mkS [(0, .x (.one (.p (.val (.int .u64 x)))))], mkH []⟩) ?_
  replace H0 := bind_some H0
  obtain ⟨y, h_0, H0⟩ := H0
  refine lok_rt (Env.of E0 [⟨some 4, 87, [.one (.p (.val (.int .u64 x)))], [], [.one (.p (pi y))], [], True, fun _ => ok_bits_Len64 x y h_0⟩]) (⟨6, mkS [(2, .x (.one (.p (pi (IntKind.i64.wrap ((64 : Int) - y))))))], mkH []⟩) ?_
  refine lok_ret ?_
  obtain rfl := Option.some.inj H0
  try simp only [thenL, blockL]
  exact fin_au _ (.inr rfl) [] (⟨6, mkS [(2, .x (.one (.p (pi (IntKind.i64.wrap ((64 : Int) - y))))))], mkH []⟩) rfl rfl imp_au
theorem ok_bits_Div64 (hi : Int) (lo : Int) (y : Int) (r_ : Int × Int) (H0 : bits_Div64 hi lo y = some r_) : CallOK Try.prog 78 [.one (.p (.val (.int .u64 hi))), .one (.p (.val (.int .u64 lo))), .one (.p (.val (.int .u64 y)))] [] [.one (.p (.val (.int .u64 r_.1))), .one (.p (.val (.int .u64 r_.2)))] [] := by
  refine callOK (n := 135) (rs := [.tmp 6, .tmp 7]) (nb := 0) (V := []) Try.func78 rfl (by kernel_rfl) rfl rfl rfl rfl (Nat.le_of_ble_eq_true rfl) rfl (by decide) ?_
  unfold bits_Div64 at H0
  refine lok_rt E0 (⟨135, mkS [(0, .x (.one (.p (.val (.int .u64 hi))))), (1, .x (.one (.p (.val (.int .u64 lo))))), (2, .x (.one (.p (.val (.int .u64 y)))))], mkH []⟩) ?_
  refine lok_join (fun x_ : Unit => bits_Div64_j6 hi lo y = some r_) (fun x_ => ⟨135, mkS [(0, .x (.one (.p (.val (.int .u64 hi))))), (1, .x (.one (.p (.val (.int .u64 lo))))), (2, .x (.one (.p (.val (.int .u64 y)))))], mkH []⟩) ?hybits_Div64_j6 ?hxbits_Div64_j6
  case hybits_Div64_j6 =>
    rintro _ H0
    try dsimp only at H0 ⊢
    unfold bits_Div64_j6 at H0
    refine lok_join (fun x_ : Unit => bits_Div64_j5 hi lo y = some r_) (fun x_ => ⟨135, mkS [(0, .x (.one (.p (.val (.int .u64 hi))))), (1, .x (.one (.p (.val (.int .u64 lo))))), (2, .x (.one (.p (.val (.int .u64 y)))))], mkH []⟩) ?hybits_Div64_j5 ?hxbits_Div64_j5
    case hybits_Div64_j5 =>
      rintro _ H0
      try dsimp only at H0 ⊢
      unfold bits_Div64_j5 at H0
      refine lok_seq ?_
      refine lok_rt E0 (⟨135, mkS [(0, .x (.one (.p (.val (.int .u64 hi))))), (1, .x (.one (.p (.val (.int .u64 lo))))), (2, .x (.one (.p (.val (.int .u64 y))))), (27, .x (.one (.p (.val (.bool (hi == (0 : Int)))))))], mkH []⟩) ?_
      refine lok_c (hi == (0 : Int)) ?_ ?_
      · intro b_25
        replace H0 := cpos H0 b_25
        replace H0 := req_some H0
        obtain ⟨q_0, H0⟩ := H0
        refine lok_dt E0 7 (⟨135, mkS [(6, .x (.one (.p (.val (.int .u64 (IntKind.u64.wrap (Int.tdiv lo y))))))), (7, .x (.one (.p (.val (.int .u64 (Int.tmod lo y))))))], mkH []⟩) (by kernel_rfl) (by kernel_rfl) ?_
        refine lok_ret ?_
        obtain rfl := Option.some.inj H0
        try simp only [thenL, blockL]
        exact fin_au _ (.inr rfl) [] (⟨135, mkS [(6, .x (.one (.p (.val (.int .u64 (IntKind.u64.wrap (Int.tdiv lo y))))))), (7, .x (.one (.p (.val (.int .u64 (Int.tmod lo y))))))], mkH []⟩) rfl rfl imp_au
      · intro b_25
        replace H0 := cneg H0 b_25
        refine lok_skip ?_
        try simp only [thenL, blockL, ↓reduceIte, reduceCtorEq]
        replace H0 := bind_some H0
        obtain ⟨y1, h_1, H0⟩ := H0
        refine lok_rt (Env.of E0 [⟨some 35, 84, [.one (.p (.val (.int .u64 y)))], [], [.one (.p (pi y1))], [], True, fun _ => ok_bits_LeadingZeros64 y y1 h_1⟩]) (⟨135, mkS [(0, .x (.one (.p (.val (.int .u64 hi))))), (1, .x (.one (.p (.val (.int .u64 lo))))), (2, .x (.one (.p (.val (.int .u64 y))))), (8, .x (.one (.p (.val (.int .u64 (IntKind.u64.wrap y1))))))], mkH []⟩) ?_
        replace H0 := req_some H0
        obtain ⟨q_24, H0⟩ := H0
        refine lok_rt E0 (⟨135, mkS [(0, .x (.one (.p (.val (.int .u64 hi))))), (1, .x (.one (.p (.val (.int .u64 lo))))), (2, .x (.one (.p (.val (.int .u64 (bShl .u64 y (IntKind.u64.wrap y1))))))), (8, .x (.one (.p (.val (.int .u64 (IntKind.u64.wrap y1))))))], mkH []⟩) ?_
        refine lok_rt E0 (⟨135, mkS [(0, .x (.one (.p (.val (.int .u64 hi))))), (1, .x (.one (.p (.val (.int .u64 lo))))), (2, .x (.one (.p (.val (.int .u64 (bShl .u64 y (IntKind.u64.wrap y1))))))), (8, .x (.one (.p (.val (.int .u64 (IntKind.u64.wrap y1)))))), (9, .x (.one (.p (.val (.int .u64 (bShr .u64 (bShl .u64 y (IntKind.u64.wrap y1)) (32 : Int)))))))], mkH []⟩) ?_
        refine lok_rt E0 (⟨135, mkS [(0, .x (.one (.p (.val (.int .u64 hi))))), (1, .x (.one (.p (.val (.int .u64 lo))))), (2, .x (.one (.p (.val (.int .u64 (bShl .u64 y (IntKind.u64.wrap y1))))))), (8, .x (.one (.p (.val (.int .u64 (IntKind.u64.wrap y1)))))), (9, .x (.one (.p (.val (.int .u64 (bShr .u64 (bShl .u64 y (IntKind.u64.wrap y1)) (32 : Int))))))), (10, .x (.one (.p (.val (.int .u64 (bAnd .u64 (bShl .u64 y (IntKind.u64.wrap y1)) (4294967295 : Int)))))))], mkH []⟩) ?_
        replace H0 := req_some H0
        obtain ⟨⟨q_22, q_23⟩, H0⟩ := H0
        replace H0 := bindV_some H0
        obtain ⟨un32, a_2, H0⟩ := H0
        refine lok_rtg E0 a_2 (⟨135, mkS [(1, .x (.one (.p (.val (.int .u64 lo))))), (2, .x (.one (.p (.val (.int .u64 (bShl .u64 y (IntKind.u64.wrap y1))))))), (8, .x (.one (.p (.val (.int .u64 (IntKind.u64.wrap y1)))))), (9, .x (.one (.p (.val (.int .u64 (bShr .u64 (bShl .u64 y (IntKind.u64.wrap y1)) (32 : Int))))))), (10, .x (.one (.p (.val (.int .u64 (bAnd .u64 (bShl .u64 y (IntKind.u64.wrap y1)) (4294967295 : Int))))))), (11, .x (.one (.p (.val (.int .u64 un32)))))], mkH []⟩) ?_
        replace H0 := req_some H0
        obtain ⟨q_21, H0⟩ := H0
        refine lok_rt E0 (⟨135, mkS [(2, .x (.one (.p (.val (.int .u64 (bShl .u64 y (IntKind.u64.wrap y1))))))), (8, .x (.one (.p (.val (.int .u64 (IntKind.u64.wrap y1)))))), (9, .x (.one (.p (.val (.int .u64 (bShr .u64 (bShl .u64 y (IntKind.u64.wrap y1)) (32 : Int))))))), (10, .x (.one (.p (.val (.int .u64 (bAnd .u64 (bShl .u64 y (IntKind.u64.wrap y1)) (4294967295 : Int))))))), (11, .x (.one (.p (.val (.int .u64 un32))))), (12, .x (.one (.p (.val (.int .u64 (bShl .u64 lo (IntKind.u64.wrap y1)))))))], mkH []⟩) ?_
        refine lok_rt E0 (⟨135, mkS [(2, .x (.one (.p (.val (.int .u64 (bShl .u64 y (IntKind.u64.wrap y1))))))), (8, .x (.one (.p (.val (.int .u64 (IntKind.u64.wrap y1)))))), (9, .x (.one (.p (.val (.int .u64 (bShr .u64 (bShl .u64 y (IntKind.u64.wrap y1)) (32 : Int))))))), (10, .x (.one (.p (.val (.int .u64 (bAnd .u64 (bShl .u64 y (IntKind.u64.wrap y1)) (4294967295 : Int))))))), (11, .x (.one (.p (.val (.int .u64 un32))))), (12, .x (.one (.p (.val (.int .u64 (bShl .u64 lo (IntKind.u64.wrap y1))))))), (13, .x (.one (.p (.val (.int .u64 (bShr .u64 (bShl .u64 lo (IntKind.u64.wrap y1)) (32 : Int)))))))], mkH []⟩) ?_
        refine lok_rt E0 (⟨135, mkS [(2, .x (.one (.p (.val (.int .u64 (bShl .u64 y (IntKind.u64.wrap y1))))))), (8, .x (.one (.p (.val (.int .u64 (IntKind.u64.wrap y1)))))), (9, .x (.one (.p (.val (.int .u64 (bShr .u64 (bShl .u64 y (IntKind.u64.wrap y1)) (32 : Int))))))), (10, .x (.one (.p (.val (.int .u64 (bAnd .u64 (bShl .u64 y (IntKind.u64.wrap y1)) (4294967295 : Int))))))), (11, .x (.one (.p (.val (.int .u64 un32))))), (13, .x (.one (.p (.val (.int .u64 (bShr .u64 (bShl .u64 lo (IntKind.u64.wrap y1)) (32 : Int))))))), (14, .x (.one (.p (.val (.int .u64 (bAnd .u64 (bShl .u64 lo (IntKind.u64.wrap y1)) (4294967295 : Int)))))))], mkH []⟩) ?_
        replace H0 := req_some H0
        obtain ⟨q_20, H0⟩ := H0
        replace H0 := bindV_some H0
        obtain ⟨q1, a_3, H0⟩ := H0
        refine lok_rtg E0 a_3 (⟨135, mkS [(2, .x (.one (.p (.val (.int .u64 (bShl .u64 y (IntKind.u64.wrap y1))))))), (8, .x (.one (.p (.val (.int .u64 (IntKind.u64.wrap y1)))))), (9, .x (.one (.p (.val (.int .u64 (bShr .u64 (bShl .u64 y (IntKind.u64.wrap y1)) (32 : Int))))))), (10, .x (.one (.p (.val (.int .u64 (bAnd .u64 (bShl .u64 y (IntKind.u64.wrap y1)) (4294967295 : Int))))))), (11, .x (.one (.p (.val (.int .u64 un32))))), (13, .x (.one (.p (.val (.int .u64 (bShr .u64 (bShl .u64 lo (IntKind.u64.wrap y1)) (32 : Int))))))), (14, .x (.one (.p (.val (.int .u64 (bAnd .u64 (bShl .u64 lo (IntKind.u64.wrap y1)) (4294967295 : Int))))))), (15, .x (.one (.p (.val (.int .u64 q1)))))], mkH []⟩) ?_
        replace H0 := bindV_some H0
        obtain ⟨rhat, a_4, H0⟩ := H0
        refine lok_rtg E0 a_4 (⟨135, mkS [(2, .x (.one (.p (.val (.int .u64 (bShl .u64 y (IntKind.u64.wrap y1))))))), (8, .x (.one (.p (.val (.int .u64 (IntKind.u64.wrap y1)))))), (9, .x (.one (.p (.val (.int .u64 (bShr .u64 (bShl .u64 y (IntKind.u64.wrap y1)) (32 : Int))))))), (10, .x (.one (.p (.val (.int .u64 (bAnd .u64 (bShl .u64 y (IntKind.u64.wrap y1)) (4294967295 : Int))))))), (11, .x (.one (.p (.val (.int .u64 un32))))), (13, .x (.one (.p (.val (.int .u64 (bShr .u64 (bShl .u64 lo (IntKind.u64.wrap y1)) (32 : Int))))))), (14, .x (.one (.p (.val (.int .u64 (bAnd .u64 (bShl .u64 lo (IntKind.u64.wrap y1)) (4294967295 : Int))))))), (15, .x (.one (.p (.val (.int .u64 q1))))), (16, .x (.one (.p (.val (.int .u64 rhat)))))], mkH []⟩) ?_
        refine lok_join (fun x_ : Int => bits_Div64_j3 lo y y1 un32 x_ = some r_) (fun x_ => ⟨135, mkS [(2, .x (.one (.p (.val (.int .u64 (bShl .u64 y (IntKind.u64.wrap y1))))))), (8, .x (.one (.p (.val (.int .u64 (IntKind.u64.wrap y1)))))), (9, .x (.one (.p (.val (.int .u64 (bShr .u64 (bShl .u64 y (IntKind.u64.wrap y1)) (32 : Int))))))), (10, .x (.one (.p (.val (.int .u64 (bAnd .u64 (bShl .u64 y (IntKind.u64.wrap y1)) (4294967295 : Int))))))), (11, .x (.one (.p (.val (.int .u64 un32))))), (13, .x (.one (.p (.val (.int .u64 (bShr .u64 (bShl .u64 lo (IntKind.u64.wrap y1)) (32 : Int))))))), (14, .x (.one (.p (.val (.int .u64 (bAnd .u64 (bShl .u64 lo (IntKind.u64.wrap y1)) (4294967295 : Int))))))), (15, .x (.one (.p (.val (.int .u64 x_)))))], mkH []⟩) ?hybits_Div64_j3 ?hxbits_Div64_j3
        case hybits_Div64_j3 =>
          rintro q11 H0
          try dsimp only at H0 ⊢
          unfold bits_Div64_j3 at H0
          replace H0 := bindV_some H0
          obtain ⟨un21, a_5, H0⟩ := H0
          refine lok_rtg E0 a_5 (⟨135, mkS [(2, .x (.one (.p (.val (.int .u64 (bShl .u64 y (IntKind.u64.wrap y1))))))), (8, .x (.one (.p (.val (.int .u64 (IntKind.u64.wrap y1)))))), (9, .x (.one (.p (.val (.int .u64 (bShr .u64 (bShl .u64 y (IntKind.u64.wrap y1)) (32 : Int))))))), (10, .x (.one (.p (.val (.int .u64 (bAnd .u64 (bShl .u64 y (IntKind.u64.wrap y1)) (4294967295 : Int))))))), (14, .x (.one (.p (.val (.int .u64 (bAnd .u64 (bShl .u64 lo (IntKind.u64.wrap y1)) (4294967295 : Int))))))), (15, .x (.one (.p (.val (.int .u64 q11))))), (17, .x (.one (.p (.val (.int .u64 un21)))))], mkH []⟩) ?_
          replace H0 := req_some H0
          obtain ⟨q_15, H0⟩ := H0
          replace H0 := bindV_some H0
          obtain ⟨q0, a_6, H0⟩ := H0
          refine lok_rtg E0 a_6 (⟨135, mkS [(2, .x (.one (.p (.val (.int .u64 (bShl .u64 y (IntKind.u64.wrap y1))))))), (8, .x (.one (.p (.val (.int .u64 (IntKind.u64.wrap y1)))))), (9, .x (.one (.p (.val (.int .u64 (bShr .u64 (bShl .u64 y (IntKind.u64.wrap y1)) (32 : Int))))))), (10, .x (.one (.p (.val (.int .u64 (bAnd .u64 (bShl .u64 y (IntKind.u64.wrap y1)) (4294967295 : Int))))))), (14, .x (.one (.p (.val (.int .u64 (bAnd .u64 (bShl .u64 lo (IntKind.u64.wrap y1)) (4294967295 : Int))))))), (15, .x (.one (.p (.val (.int .u64 q11))))), (17, .x (.one (.p (.val (.int .u64 un21))))), (18, .x (.one (.p (.val (.int .u64 q0)))))], mkH []⟩) ?_
          replace H0 := bindV_some H0
          obtain ⟨rhat1, a_7, H0⟩ := H0
          refine lok_rtg E0 a_7 (⟨135, mkS [(2, .x (.one (.p (.val (.int .u64 (bShl .u64 y (IntKind.u64.wrap y1))))))), (8, .x (.one (.p (.val (.int .u64 (IntKind.u64.wrap y1)))))), (9, .x (.one (.p (.val (.int .u64 (bShr .u64 (bShl .u64 y (IntKind.u64.wrap y1)) (32 : Int))))))), (10, .x (.one (.p (.val (.int .u64 (bAnd .u64 (bShl .u64 y (IntKind.u64.wrap y1)) (4294967295 : Int))))))), (14, .x (.one (.p (.val (.int .u64 (bAnd .u64 (bShl .u64 lo (IntKind.u64.wrap y1)) (4294967295 : Int))))))), (15, .x (.one (.p (.val (.int .u64 q11))))), (16, .x (.one (.p (.val (.int .u64 rhat1))))), (17, .x (.one (.p (.val (.int .u64 un21))))), (18, .x (.one (.p (.val (.int .u64 q0)))))], mkH []⟩) ?_
          refine lok_join (fun x_ : Int => bits_Div64_j1 lo y y1 q11 un21 x_ = some r_) (fun x_ => ⟨135, mkS [(2, .x (.one (.p (.val (.int .u64 (bShl .u64 y (IntKind.u64.wrap y1))))))), (8, .x (.one (.p (.val (.int .u64 (IntKind.u64.wrap y1)))))), (14, .x (.one (.p (.val (.int .u64 (bAnd .u64 (bShl .u64 lo (IntKind.u64.wrap y1)) (4294967295 : Int))))))), (15, .x (.one (.p (.val (.int .u64 q11))))), (17, .x (.one (.p (.val (.int .u64 un21))))), (18, .x (.one (.p (.val (.int .u64 x_)))))], mkH []⟩) ?hybits_Div64_j1 ?hxbits_Div64_j1
          case hybits_Div64_j1 =>
            rintro q01 H0
            try dsimp only at H0 ⊢
            unfold bits_Div64_j1 at H0
            replace H0 := req_some H0
            obtain ⟨q_10, H0⟩ := H0
            replace H0 := bindV_some H0
            obtain ⟨quo, a_8, H0⟩ := H0
            replace H0 := bindV_some H0
            obtain ⟨rem, a_9, H0⟩ := H0
            refine lok_rtg E0 (And.intro a_8 a_9) (⟨135, mkS [(6, .x (.one (.p (.val (.int .u64 quo))))), (7, .x (.one (.p (.val (.int .u64 rem)))))], mkH []⟩) ?_
            refine lok_ret ?_
            obtain rfl := Option.some.inj H0
            try simp only [thenL, blockL]
            exact fin_au _ (.inr rfl) [] (⟨135, mkS [(6, .x (.one (.p (.val (.int .u64 quo))))), (7, .x (.one (.p (.val (.int .u64 rem)))))], mkH []⟩) rfl rfl imp_au
          case hxbits_Div64_j1 =>
            refine lok_block ?_
            replace H0 := bind_some H0
            obtain ⟨v_11, hv_11, H0⟩ := H0
            refine lok_iter (fun x_ => ⟨135, mkS [(2, .x (.one (.p (.val (.int .u64 (bShl .u64 y (IntKind.u64.wrap y1))))))), (8, .x (.one (.p (.val (.int .u64 (IntKind.u64.wrap y1)))))), (9, .x (.one (.p (.val (.int .u64 (bShr .u64 (bShl .u64 y (IntKind.u64.wrap y1)) (32 : Int))))))), (10, .x (.one (.p (.val (.int .u64 (bAnd .u64 (bShl .u64 y (IntKind.u64.wrap y1)) (4294967295 : Int))))))), (14, .x (.one (.p (.val (.int .u64 (bAnd .u64 (bShl .u64 lo (IntKind.u64.wrap y1)) (4294967295 : Int))))))), (15, .x (.one (.p (.val (.int .u64 q11))))), (16, .x (.one (.p (.val (.int .u64 x_.1))))), (17, .x (.one (.p (.val (.int .u64 un21))))), (18, .x (.one (.p (.val (.int .u64 x_.2)))))], mkH []⟩) hv_11 imp_au ?_
            · rintro ⟨rhat2, q02⟩ o_1 H1 k_1
              unfold bits_Div64_l2 at H1
              try dsimp only at H1 ⊢
              refine lok_seq ?_
              refine lok_rt E0 (⟨135, mkS [(2, .x (.one (.p (.val (.int .u64 (bShl .u64 y (IntKind.u64.wrap y1))))))), (8, .x (.one (.p (.val (.int .u64 (IntKind.u64.wrap y1)))))), (9, .x (.one (.p (.val (.int .u64 (bShr .u64 (bShl .u64 y (IntKind.u64.wrap y1)) (32 : Int))))))), (10, .x (.one (.p (.val (.int .u64 (bAnd .u64 (bShl .u64 y (IntKind.u64.wrap y1)) (4294967295 : Int))))))), (14, .x (.one (.p (.val (.int .u64 (bAnd .u64 (bShl .u64 lo (IntKind.u64.wrap y1)) (4294967295 : Int))))))), (15, .x (.one (.p (.val (.int .u64 q11))))), (16, .x (.one (.p (.val (.int .u64 rhat2))))), (17, .x (.one (.p (.val (.int .u64 un21))))), (18, .x (.one (.p (.val (.int .u64 q02))))), (113, .x (.one (.p (.val (.bool ((decide ((4294967296 : Int) ≤ q02)) || (decide ((IntKind.u64.wrap ((IntKind.u64.wrap ((4294967296 : Int) * rhat2)) + (bAnd .u64 (bShl .u64 lo (IntKind.u64.wrap y1)) (4294967295 : Int)))) < (IntKind.u64.wrap (q02 * (bAnd .u64 (bShl .u64 y (IntKind.u64.wrap y1)) (4294967295 : Int))))))))))))], mkH []⟩) ?_
              refine lok_c ((decide ((4294967296 : Int) ≤ q02)) || (decide ((IntKind.u64.wrap ((IntKind.u64.wrap ((4294967296 : Int) * rhat2)) + (bAnd .u64 (bShl .u64 lo (IntKind.u64.wrap y1)) (4294967295 : Int)))) < (IntKind.u64.wrap (q02 * (bAnd .u64 (bShl .u64 y (IntKind.u64.wrap y1)) (4294967295 : Int))))))) ?_ ?_
              · intro b_14
                replace H1 := cpos H1 b_14
                refine lok_skip ?_
                try simp only [thenL, blockL, ↓reduceIte, reduceCtorEq]
                refine lok_block ?_
                refine lok_rt E0 (⟨135, mkS [(2, .x (.one (.p (.val (.int .u64 (bShl .u64 y (IntKind.u64.wrap y1))))))), (8, .x (.one (.p (.val (.int .u64 (IntKind.u64.wrap y1)))))), (9, .x (.one (.p (.val (.int .u64 (bShr .u64 (bShl .u64 y (IntKind.u64.wrap y1)) (32 : Int))))))), (10, .x (.one (.p (.val (.int .u64 (bAnd .u64 (bShl .u64 y (IntKind.u64.wrap y1)) (4294967295 : Int))))))), (14, .x (.one (.p (.val (.int .u64 (bAnd .u64 (bShl .u64 lo (IntKind.u64.wrap y1)) (4294967295 : Int))))))), (15, .x (.one (.p (.val (.int .u64 q11))))), (16, .x (.one (.p (.val (.int .u64 rhat2))))), (17, .x (.one (.p (.val (.int .u64 un21))))), (18, .x (.one (.p (.val (.int .u64 (IntKind.u64.wrap (q02 - (1 : Int))))))))], mkH []⟩) ?_
                replace H1 := bindV_some H1
                obtain ⟨rhat3, a_12, H1⟩ := H1
                refine lok_rtg E0 a_12 (⟨135, mkS [(2, .x (.one (.p (.val (.int .u64 (bShl .u64 y (IntKind.u64.wrap y1))))))), (8, .x (.one (.p (.val (.int .u64 (IntKind.u64.wrap y1)))))), (9, .x (.one (.p (.val (.int .u64 (bShr .u64 (bShl .u64 y (IntKind.u64.wrap y1)) (32 : Int))))))), (10, .x (.one (.p (.val (.int .u64 (bAnd .u64 (bShl .u64 y (IntKind.u64.wrap y1)) (4294967295 : Int))))))), (14, .x (.one (.p (.val (.int .u64 (bAnd .u64 (bShl .u64 lo (IntKind.u64.wrap y1)) (4294967295 : Int))))))), (15, .x (.one (.p (.val (.int .u64 q11))))), (16, .x (.one (.p (.val (.int .u64 rhat3))))), (17, .x (.one (.p (.val (.int .u64 un21))))), (18, .x (.one (.p (.val (.int .u64 (IntKind.u64.wrap (q02 - (1 : Int))))))))], mkH []⟩) ?_
                refine lok_rt E0 (⟨135, mkS [(2, .x (.one (.p (.val (.int .u64 (bShl .u64 y (IntKind.u64.wrap y1))))))), (8, .x (.one (.p (.val (.int .u64 (IntKind.u64.wrap y1)))))), (9, .x (.one (.p (.val (.int .u64 (bShr .u64 (bShl .u64 y (IntKind.u64.wrap y1)) (32 : Int))))))), (10, .x (.one (.p (.val (.int .u64 (bAnd .u64 (bShl .u64 y (IntKind.u64.wrap y1)) (4294967295 : Int))))))), (14, .x (.one (.p (.val (.int .u64 (bAnd .u64 (bShl .u64 lo (IntKind.u64.wrap y1)) (4294967295 : Int))))))), (15, .x (.one (.p (.val (.int .u64 q11))))), (16, .x (.one (.p (.val (.int .u64 rhat3))))), (17, .x (.one (.p (.val (.int .u64 un21))))), (18, .x (.one (.p (.val (.int .u64 (IntKind.u64.wrap (q02 - (1 : Int)))))))), (120, .x (.one (.p (.val (.bool (decide ((4294967296 : Int) ≤ rhat3)))))))], mkH []⟩) ?_
                refine lok_c (decide ((4294967296 : Int) ≤ rhat3)) ?_ ?_
                · intro b_13
                  replace H1 := cpos H1 b_13
                  refine lok_exit ?_
                  try simp only [thenL, blockL, ↓reduceIte, reduceCtorEq]
                  have e_1 := k_1 _ (Option.some.inj H1).symm
                  subst e_1
                  try dsimp only at H0
                  try simp only [thenL, blockL, ↓reduceIte, reduceCtorEq]
                  exact ⟨(IntKind.u64.wrap (q02 - (1 : Int))), H0, imp_au⟩
                · intro b_13
                  replace H1 := cneg H1 b_13
                  refine lok_skip ?_
                  try simp only [thenL, blockL, ↓reduceIte, reduceCtorEq]
                  exact ⟨(rhat3, (IntKind.u64.wrap (q02 - (1 : Int)))), (Option.some.inj H1).symm, imp_au⟩
              · intro b_14
                replace H1 := cneg H1 b_14
                refine lok_exit ?_
                try simp only [thenL, blockL, ↓reduceIte, reduceCtorEq]
                have e_1 := k_1 _ (Option.some.inj H1).symm
                subst e_1
                try dsimp only at H0
                try simp only [thenL, blockL, ↓reduceIte, reduceCtorEq]
                exact ⟨q02, H0, imp_au⟩
        case hxbits_Div64_j3 =>
          refine lok_block ?_
          replace H0 := bind_some H0
          obtain ⟨v_16, hv_16, H0⟩ := H0
          refine lok_iter (fun x_ => ⟨135, mkS [(2, .x (.one (.p (.val (.int .u64 (bShl .u64 y (IntKind.u64.wrap y1))))))), (8, .x (.one (.p (.val (.int .u64 (IntKind.u64.wrap y1)))))), (9, .x (.one (.p (.val (.int .u64 (bShr .u64 (bShl .u64 y (IntKind.u64.wrap y1)) (32 : Int))))))), (10, .x (.one (.p (.val (.int .u64 (bAnd .u64 (bShl .u64 y (IntKind.u64.wrap y1)) (4294967295 : Int))))))), (11, .x (.one (.p (.val (.int .u64 un32))))), (13, .x (.one (.p (.val (.int .u64 (bShr .u64 (bShl .u64 lo (IntKind.u64.wrap y1)) (32 : Int))))))), (14, .x (.one (.p (.val (.int .u64 (bAnd .u64 (bShl .u64 lo (IntKind.u64.wrap y1)) (4294967295 : Int))))))), (15, .x (.one (.p (.val (.int .u64 x_.1))))), (16, .x (.one (.p (.val (.int .u64 x_.2)))))], mkH []⟩) hv_16 imp_au ?_
          · rintro ⟨q12, rhat4⟩ o_1 H1 k_1
            unfold bits_Div64_l4 at H1
            try dsimp only at H1 ⊢
            refine lok_seq ?_
            refine lok_rt E0 (⟨135, mkS [(2, .x (.one (.p (.val (.int .u64 (bShl .u64 y (IntKind.u64.wrap y1))))))), (8, .x (.one (.p (.val (.int .u64 (IntKind.u64.wrap y1)))))), (9, .x (.one (.p (.val (.int .u64 (bShr .u64 (bShl .u64 y (IntKind.u64.wrap y1)) (32 : Int))))))), (10, .x (.one (.p (.val (.int .u64 (bAnd .u64 (bShl .u64 y (IntKind.u64.wrap y1)) (4294967295 : Int))))))), (11, .x (.one (.p (.val (.int .u64 un32))))), (13, .x (.one (.p (.val (.int .u64 (bShr .u64 (bShl .u64 lo (IntKind.u64.wrap y1)) (32 : Int))))))), (14, .x (.one (.p (.val (.int .u64 (bAnd .u64 (bShl .u64 lo (IntKind.u64.wrap y1)) (4294967295 : Int))))))), (15, .x (.one (.p (.val (.int .u64 q12))))), (16, .x (.one (.p (.val (.int .u64 rhat4))))), (78, .x (.one (.p (.val (.bool ((decide ((4294967296 : Int) ≤ q12)) || (decide ((IntKind.u64.wrap ((IntKind.u64.wrap ((4294967296 : Int) * rhat4)) + (bShr .u64 (bShl .u64 lo (IntKind.u64.wrap y1)) (32 : Int)))) < (IntKind.u64.wrap (q12 * (bAnd .u64 (bShl .u64 y (IntKind.u64.wrap y1)) (4294967295 : Int))))))))))))], mkH []⟩) ?_
            refine lok_c ((decide ((4294967296 : Int) ≤ q12)) || (decide ((IntKind.u64.wrap ((IntKind.u64.wrap ((4294967296 : Int) * rhat4)) + (bShr .u64 (bShl .u64 lo (IntKind.u64.wrap y1)) (32 : Int)))) < (IntKind.u64.wrap (q12 * (bAnd .u64 (bShl .u64 y (IntKind.u64.wrap y1)) (4294967295 : Int))))))) ?_ ?_
            · intro b_19
              replace H1 := cpos H1 b_19
              refine lok_skip ?_
              try simp only [thenL, blockL, ↓reduceIte, reduceCtorEq]
              refine lok_block ?_
              refine lok_rt E0 (⟨135, mkS [(2, .x (.one (.p (.val (.int .u64 (bShl .u64 y (IntKind.u64.wrap y1))))))), (8, .x (.one (.p (.val (.int .u64 (IntKind.u64.wrap y1)))))), (9, .x (.one (.p (.val (.int .u64 (bShr .u64 (bShl .u64 y (IntKind.u64.wrap y1)) (32 : Int))))))), (10, .x (.one (.p (.val (.int .u64 (bAnd .u64 (bShl .u64 y (IntKind.u64.wrap y1)) (4294967295 : Int))))))), (11, .x (.one (.p (.val (.int .u64 un32))))), (13, .x (.one (.p (.val (.int .u64 (bShr .u64 (bShl .u64 lo (IntKind.u64.wrap y1)) (32 : Int))))))), (14, .x (.one (.p (.val (.int .u64 (bAnd .u64 (bShl .u64 lo (IntKind.u64.wrap y1)) (4294967295 : Int))))))), (15, .x (.one (.p (.val (.int .u64 (IntKind.u64.wrap (q12 - (1 : Int)))))))), (16, .x (.one (.p (.val (.int .u64 rhat4)))))], mkH []⟩) ?_
              replace H1 := bindV_some H1
              obtain ⟨rhat5, a_17, H1⟩ := H1
              refine lok_rtg E0 a_17 (⟨135, mkS [(2, .x (.one (.p (.val (.int .u64 (bShl .u64 y (IntKind.u64.wrap y1))))))), (8, .x (.one (.p (.val (.int .u64 (IntKind.u64.wrap y1)))))), (9, .x (.one (.p (.val (.int .u64 (bShr .u64 (bShl .u64 y (IntKind.u64.wrap y1)) (32 : Int))))))), (10, .x (.one (.p (.val (.int .u64 (bAnd .u64 (bShl .u64 y (IntKind.u64.wrap y1)) (4294967295 : Int))))))), (11, .x (.one (.p (.val (.int .u64 un32))))), (13, .x (.one (.p (.val (.int .u64 (bShr .u64 (bShl .u64 lo (IntKind.u64.wrap y1)) (32 : Int))))))), (14, .x (.one (.p (.val (.int .u64 (bAnd .u64 (bShl .u64 lo (IntKind.u64.wrap y1)) (4294967295 : Int))))))), (15, .x (.one (.p (.val (.int .u64 (IntKind.u64.wrap (q12 - (1 : Int)))))))), (16, .x (.one (.p (.val (.int .u64 rhat5)))))], mkH []⟩) ?_
              refine lok_rt E0 (⟨135, mkS [(2, .x (.one (.p (.val (.int .u64 (bShl .u64 y (IntKind.u64.wrap y1))))))), (8, .x (.one (.p (.val (.int .u64 (IntKind.u64.wrap y1)))))), (9, .x (.one (.p (.val (.int .u64 (bShr .u64 (bShl .u64 y (IntKind.u64.wrap y1)) (32 : Int))))))), (10, .x (.one (.p (.val (.int .u64 (bAnd .u64 (bShl .u64 y (IntKind.u64.wrap y1)) (4294967295 : Int))))))), (11, .x (.one (.p (.val (.int .u64 un32))))), (13, .x (.one (.p (.val (.int .u64 (bShr .u64 (bShl .u64 lo (IntKind.u64.wrap y1)) (32 : Int))))))), (14, .x (.one (.p (.val (.int .u64 (bAnd .u64 (bShl .u64 lo (IntKind.u64.wrap y1)) (4294967295 : Int))))))), (15, .x (.one (.p (.val (.int .u64 (IntKind.u64.wrap (q12 - (1 : Int)))))))), (16, .x (.one (.p (.val (.int .u64 rhat5))))), (85, .x (.one (.p (.val (.bool (decide ((4294967296 : Int) ≤ rhat5)))))))], mkH []⟩) ?_
              refine lok_c (decide ((4294967296 : Int) ≤ rhat5)) ?_ ?_
              · intro b_18
                replace H1 := cpos H1 b_18
                refine lok_exit ?_
                try simp only [thenL, blockL, ↓reduceIte, reduceCtorEq]
                have e_1 := k_1 _ (Option.some.inj H1).symm
                subst e_1
                try dsimp only at H0
                try simp only [thenL, blockL, ↓reduceIte, reduceCtorEq]
                exact ⟨(IntKind.u64.wrap (q12 - (1 : Int))), H0, imp_au⟩
              · intro b_18
                replace H1 := cneg H1 b_18
                refine lok_skip ?_
                try simp only [thenL, blockL, ↓reduceIte, reduceCtorEq]
                exact ⟨((IntKind.u64.wrap (q12 - (1 : Int))), rhat5), (Option.some.inj H1).symm, imp_au⟩
            · intro b_19
              replace H1 := cneg H1 b_19
              refine lok_exit ?_
              try simp only [thenL, blockL, ↓reduceIte, reduceCtorEq]
              have e_1 := k_1 _ (Option.some.inj H1).symm
              subst e_1
              try dsimp only at H0
              try simp only [thenL, blockL, ↓reduceIte, reduceCtorEq]
              exact ⟨q12, H0, imp_au⟩
    case hxbits_Div64_j5 =>
      refine lok_rt E0 (⟨135, mkS [(0, .x (.one (.p (.val (.int .u64 hi))))), (1, .x (.one (.p (.val (.int .u64 lo))))), (2, .x (.one (.p (.val (.int .u64 y))))), (24, .x (.one (.p (.val (.bool (decide (y ≤ hi)))))))], mkH []⟩) ?_
      refine lok_c (decide (y ≤ hi)) ?_ ?_
      · intro b_26
        replace H0 := cpos H0 b_26
        cases H0
      · intro b_26
        replace H0 := cneg H0 b_26
        refine lok_skip ?_
        try simp only [thenL, blockL, ↓reduceIte, reduceCtorEq]
        exact ⟨(), H0, imp_au⟩
  case hxbits_Div64_j6 =>
    refine lok_rt E0 (⟨135, mkS [(0, .x (.one (.p (.val (.int .u64 hi))))), (1, .x (.one (.p (.val (.int .u64 lo))))), (2, .x (.one (.p (.val (.int .u64 y))))), (20, .x (.one (.p (.val (.bool (y == (0 : Int)))))))], mkH []⟩) ?_
    refine lok_c (y == (0 : Int)) ?_ ?_
    · intro b_27
      replace H0 := cpos H0 b_27
      cases H0
    · intro b_27
      replace H0 := cneg H0 b_27
      refine lok_skip ?_
      try simp only [thenL, blockL, ↓reduceIte, reduceCtorEq]
      exact ⟨(), H0, imp_au⟩
theorem ok_bits_Rem64 (hi : Int) (lo : Int) (y : Int) (r_ : Int) (H0 : bits_Rem64 hi lo y = some r_) : CallOK Try.prog 77 [.one (.p (.val (.int .u64 hi))), .one (.p (.val (.int .u64 lo))), .one (.p (.val (.int .u64 y)))] [] [.one (.p (.val (.int .u64 r_)))] [] := by
  refine callOK (n := 19) (rs := [.tmp 6]) (nb := 0) (V := []) Try.func77 rfl (by kernel_rfl) rfl rfl rfl rfl (Nat.le_of_ble_eq_true rfl) rfl (by decide) ?_
  unfold bits_Rem64 at H0
  refine lok_rt E0 (⟨19, mkS [(0, .x (.one (.p (.val (.int .u64 hi))))), (1, .x (.one (.p (.val (.int .u64 lo))))), (2, .x (.one (.p (.val (.int .u64 y)))))], mkH []⟩) ?_
  replace H0 := req_some H0
  obtain ⟨q_1, H0⟩ := H0
  replace H0 := bind_some H0
  obtain ⟨⟨y1, y2⟩, h_0, H0⟩ := H0
  try dsimp only at H0
  refine lok_rt (Env.of E0 [⟨some 15, 78, [.one (.p (.val (.int .u64 (Int.tmod hi y)))), .one (.p (.val (.int .u64 lo))), .one (.p (.val (.int .u64 y)))], [], [.one (.p (.val (.int .u64 y1))), .one (.p (.val (.int .u64 y2)))], [], True, fun _ => ok_bits_Div64 (Int.tmod hi y) lo y (y1, y2) h_0⟩]) (⟨19, mkS [(8, .x (.one (.p (.val (.int .u64 y2)))))], mkH []⟩) ?_
  refine lok_rt E0 (⟨19, mkS [(6, .x (.one (.p (.val (.int .u64 y2)))))], mkH []⟩) ?_
  refine lok_ret ?_
  obtain rfl := Option.some.inj H0
  try simp only [thenL, blockL]
  exact fin_au _ (.inr rfl) [] (⟨19, mkS [(6, .x (.one (.p (.val (.int .u64 y2)))))], mkH []⟩) rfl rfl imp_au
theorem ok_ratio_wide_mod (a : ratio_wide) (d : Int) (r_ : Int) (H0 : ratio_wide_mod a d = some r_) : CallOK Try.prog 63 [.agg [.p (.val (.int .u64 a.hi)), .p (.val (.int .u64 a.lo))], .one (.p (.val (.int .u64 d)))] [] [.one (.p (.val (.int .u64 r_)))] [] := by
  refine callOK (n := 11) (rs := [.tmp 4]) (nb := 0) (V := []) Try.func63 rfl (by kernel_rfl) rfl rfl rfl rfl (Nat.le_of_ble_eq_true rfl) rfl (by decide) ?_
  unfold ratio_wide_mod at H0
  refine lok_rt E0 (⟨11, mkS [(1, .x (.one (.p (.val (.int .u64 d))))), (2, .x (.one (.ptr 102 0)))], mkH [(102, .var [.p (.val (.int .u64 a.hi)), .p (.val (.int .u64 a.lo))])]⟩) ?_
  replace H0 := bind_some H0
  obtain ⟨y, h_0, H0⟩ := H0
  refine lok_rt (Env.of E0 [⟨some 10, 77, [.one (.p (.val (.int .u64 a.hi))), .one (.p (.val (.int .u64 a.lo))), .one (.p (.val (.int .u64 d)))], [], [.one (.p (.val (.int .u64 y)))], [], True, fun _ => ok_bits_Rem64 a.hi a.lo d y h_0⟩]) (⟨11, mkS [(4, .x (.one (.p (.val (.int .u64 y)))))], mkH []⟩) ?_
  refine lok_ret ?_
  obtain rfl := Option.some.inj H0
  try simp only [thenL, blockL]
  exact fin_au _ (.inr rfl) [] (⟨11, mkS [(4, .x (.one (.p (.val (.int .u64 y)))))], mkH []⟩) rfl rfl imp_au
theorem ok_ratio_fitted (neg : Bool) (num : ratio_wide) (den : ratio_wide) (r_ : api_Ratio × Int) (H0 : ratio_fitted neg num den = some r_) : CallOK Try.prog 64 [.one (.p (.val (.bool neg))), .agg [.p (.val (.int .u64 num.hi)), .p (.val (.int .u64 num.lo))], .agg [.p (.val (.int .u64 den.hi)), .p (.val (.int .u64 den.lo))]] [] [.agg [.p (pi r_.1.Num), .p (pi r_.1.Den)], .one (.p (pi r_.2))] [] := by
  refine callOK (n := 39) (rs := [.cell 6 40, .tmp 7]) (nb := 0) (V := []) Try.func64 rfl (by kernel_rfl) rfl rfl rfl rfl (Nat.le_of_ble_eq_true rfl) rfl (by decide) ?_
  unfold ratio_fitted at H0
  refine lok_rt E0 (⟨39, mkS [(0, .x (.one (.p (.val (.bool neg))))), (4, .x (.one (.ptr 104 0))), (5, .x (.one (.ptr 105 0))), (6, .x (.one (.ptr 106 0)))], mkH [(104, .var [.p (.val (.int .u64 num.hi)), .p (.val (.int .u64 num.lo))]), (105, .var [.p (.val (.int .u64 den.hi)), .p (.val (.int .u64 den.lo))]), (106, .var [.p (pi (0 : Int)), .p (pi (0 : Int))])]⟩) ?_
  refine lok_seq ?_
  refine lok_rt E0 (⟨39, mkS [(0, .x (.one (.p (.val (.bool neg))))), (4, .x (.one (.ptr 104 0))), (5, .x (.one (.ptr 105 0))), (6, .x (.one (.ptr 106 0))), (26, .x (.one (.p (.val (.bool ((((num.hi != (0 : Int)) || (den.hi != (0 : Int))) || (decide ((1152921504606846976 : Int) < num.lo))) || (decide ((1152921504606846976 : Int) < den.lo))))))))], mkH [(104, .var [.p (.val (.int .u64 num.hi)), .p (.val (.int .u64 num.lo))]), (105, .var [.p (.val (.int .u64 den.hi)), .p (.val (.int .u64 den.lo))]), (106, .var [.p (pi (0 : Int)), .p (pi (0 : Int))])]⟩) ?_
  refine lok_c ((((num.hi != (0 : Int)) || (den.hi != (0 : Int))) || (decide ((1152921504606846976 : Int) < num.lo))) || (decide ((1152921504606846976 : Int) < den.lo))) ?_ ?_
  · intro b_1
    replace H0 := cpos H0 b_1
    refine lok_rt E0 (⟨39, mkS [(6, .x (.one (.ptr 106 0))), (7, .x (.one (.p (pi (6 : Int)))))], mkH [(106, .var [.p (pi (0 : Int)), .p (pi (0 : Int))])]⟩) ?_
    refine lok_ret ?_
    obtain rfl := Option.some.inj H0
    try simp only [thenL, blockL]
    exact fin_au _ (.inr rfl) [] (⟨39, mkS [(6, .x (.one (.ptr 106 0))), (7, .x (.one (.p (pi (6 : Int)))))], mkH [(106, .var [.p (pi (0 : Int)), .p (pi (0 : Int))])]⟩) rfl rfl imp_au
  · intro b_1
    replace H0 := cneg H0 b_1
    refine lok_skip ?_
    try simp only [thenL, blockL, ↓reduceIte, reduceCtorEq]
    refine lok_rt E0 (⟨39, mkS [(0, .x (.one (.p (.val (.bool neg))))), (5, .x (.one (.ptr 105 0))), (6, .x (.one (.ptr 106 0))), (8, .x (.one (.p (pi (IntKind.i64.wrap num.lo)))))], mkH [(105, .var [.p (.val (.int .u64 den.hi)), .p (.val (.int .u64 den.lo))]), (106, .var [.p (pi (0 : Int)), .p (pi (0 : Int))])]⟩) ?_
    refine lok_join (fun x_ : Int => ratio_fitted_j1 den x_ = some r_) (fun x_ => ⟨39, mkS [(5, .x (.one (.ptr 105 0))), (6, .x (.one (.ptr 106 0))), (8, .x (.one (.p (pi x_))))], mkH [(105, .var [.p (.val (.int .u64 den.hi)), .p (.val (.int .u64 den.lo))]), (106, .var [.p (pi (0 : Int)), .p (pi (0 : Int))])]⟩) ?hyratio_fitted_j1 ?hxratio_fitted_j1
    case hyratio_fitted_j1 =>
      rintro n H0
      try dsimp only at H0 ⊢
      unfold ratio_fitted_j1 at H0
      refine lok_rt E0 (⟨39, mkS [(6, .x (.one (.ptr 106 0))), (7, .x (.one (.p (pi (0 : Int)))))], mkH [(106, .var [.p (pi n), .p (pi (IntKind.i64.wrap den.lo))])]⟩) ?_
      refine lok_ret ?_
      obtain rfl := Option.some.inj H0
      try simp only [thenL, blockL]
      exact fin_au _ (.inr rfl) [] (⟨39, mkS [(6, .x (.one (.ptr 106 0))), (7, .x (.one (.p (pi (0 : Int)))))], mkH [(106, .var [.p (pi n), .p (pi (IntKind.i64.wrap den.lo))])]⟩) rfl rfl imp_au
    case hxratio_fitted_j1 =>
      refine lok_rt E0 (⟨39, mkS [(5, .x (.one (.ptr 105 0))), (6, .x (.one (.ptr 106 0))), (8, .x (.one (.p (pi (IntKind.i64.wrap num.lo))))), (31, .x (.one (.p (.val (.bool neg)))))], mkH [(105, .var [.p (.val (.int .u64 den.hi)), .p (.val (.int .u64 den.lo))]), (106, .var [.p (pi (0 : Int)), .p (pi (0 : Int))])]⟩) ?_
      refine lok_c neg ?_ ?_
      · intro b_0
        replace H0 := cpos H0 b_0
        refine lok_rl E0 (⟨39, mkS [(5, .x (.one (.ptr 105 0))), (6, .x (.one (.ptr 106 0))), (8, .x (.one (.p (pi (IntKind.i64.wrap (0 - (IntKind.i64.wrap num.lo)))))))], mkH [(105, .var [.p (.val (.int .u64 den.hi)), .p (.val (.int .u64 den.lo))]), (106, .var [.p (pi (0 : Int)), .p (pi (0 : Int))])]⟩) ?_
        try simp only [thenL, blockL, ↓reduceIte, reduceCtorEq]
        exact ⟨(IntKind.i64.wrap (0 - (IntKind.i64.wrap num.lo))), H0, imp_au⟩
      · intro b_0
        replace H0 := cneg H0 b_0
        refine lok_skip ?_
        try simp only [thenL, blockL, ↓reduceIte, reduceCtorEq]
        exact ⟨(IntKind.i64.wrap num.lo), H0, imp_au⟩
theorem ok_ratio_wide_over (a : ratio_wide) (d : Int) (r_ : ratio_wide) (H0 : ratio_wide_over a d = some r_) : CallOK Try.prog 65 [.agg [.p (.val (.int .u64 a.hi)), .p (.val (.int .u64 a.lo))], .one (.p (.val (.int .u64 d)))] [] [.agg [.p (.val (.int .u64 r_.hi)), .p (.val (.int .u64 r_.lo))]] [] := by
  refine callOK (n := 28) (rs := [.cell 4 82]) (nb := 0) (V := []) Try.func65 rfl (by kernel_rfl) rfl rfl rfl rfl (Nat.le_of_ble_eq_true rfl) rfl (by decide) ?_
  unfold ratio_wide_over at H0
  refine lok_rt E0 (⟨28, mkS [(1, .x (.one (.p (.val (.int .u64 d))))), (2, .x (.one (.ptr 102 0))), (4, .x (.one (.ptr 104 0)))], mkH [(102, .var [.p (.val (.int .u64 a.hi)), .p (.val (.int .u64 a.lo))]), (104, .var [.p (.val (.int .u64 (0 : Int))), .p (.val (.int .u64 (0 : Int)))])]⟩) ?_
  replace H0 := req_some H0
  obtain ⟨q_1, H0⟩ := H0
  refine lok_dt E0 9 (⟨28, mkS [(1, .x (.one (.p (.val (.int .u64 d))))), (2, .x (.one (.ptr 102 0))), (4, .x (.one (.ptr 104 0))), (5, .x (.one (.p (.val (.int .u64 (IntKind.u64.wrap (Int.tdiv a.hi d))))))), (6, .x (.one (.p (.val (.int .u64 (Int.tmod a.hi d))))))], mkH [(102, .var [.p (.val (.int .u64 a.hi)), .p (.val (.int .u64 a.lo))]), (104, .var [.p (.val (.int .u64 (0 : Int))), .p (.val (.int .u64 (0 : Int)))])]⟩) (by kernel_rfl) (by kernel_rfl) ?_
  replace H0 := bind_some H0
  obtain ⟨⟨y, y1⟩, h_0, H0⟩ := H0
  try dsimp only at H0
  refine lok_rt (Env.of E0 [⟨some 22, 78, [.one (.p (.val (.int .u64 (Int.tmod a.hi d)))), .one (.p (.val (.int .u64 a.lo))), .one (.p (.val (.int .u64 d)))], [], [.one (.p (.val (.int .u64 y))), .one (.p (.val (.int .u64 y1)))], [], True, fun _ => ok_bits_Div64 (Int.tmod a.hi d) a.lo d (y, y1) h_0⟩]) (⟨28, mkS [(4, .x (.one (.ptr 104 0))), (5, .x (.one (.p (.val (.int .u64 (IntKind.u64.wrap (Int.tdiv a.hi d))))))), (7, .x (.one (.p (.val (.int .u64 y)))))], mkH [(104, .var [.p (.val (.int .u64 (0 : Int))), .p (.val (.int .u64 (0 : Int)))])]⟩) ?_
  refine lok_rt E0 (⟨28, mkS [(4, .x (.one (.ptr 104 0)))], mkH [(104, .var [.p (.val (.int .u64 (IntKind.u64.wrap (Int.tdiv a.hi d)))), .p (.val (.int .u64 y))])]⟩) ?_
  refine lok_ret ?_
  obtain rfl := Option.some.inj H0
  try simp only [thenL, blockL]
  exact fin_au _ (.inr rfl) [] (⟨28, mkS [(4, .x (.one (.ptr 104 0)))], mkH [(104, .var [.p (.val (.int .u64 (IntKind.u64.wrap (Int.tdiv a.hi d)))), .p (.val (.int .u64 y))])]⟩) rfl rfl imp_au
theorem ok_ratio_reduced (num : ratio_signed) (den : Int) (r_ : api_Ratio × Int) (H0 : ratio_reduced num den = some r_) : CallOK Try.prog 51 [.agg [.p (.val (.bool num.neg)), .p (.val (.int .u64 num.abs.hi)), .p (.val (.int .u64 num.abs.lo))], .one (.p (.val (.int .u64 den)))] [] [.agg [.p (pi r_.1.Num), .p (pi r_.1.Den)], .one (.p (pi r_.2))] [] := by
  refine callOK (n := 26) (rs := [.cell 4 40, .tmp 5]) (nb := 0) (V := []) Try.func51 rfl (by kernel_rfl) rfl rfl rfl rfl (Nat.le_of_ble_eq_true rfl) rfl (by decide) ?_
  unfold ratio_reduced at H0
  refine lok_rt E0 (⟨26, mkS [(1, .x (.one (.p (.val (.int .u64 den))))), (2, .x (.one (.ptr 102 0))), (4, .x (.one (.ptr 104 0)))], mkH [(102, .var [.p (.val (.bool num.neg)), .p (.val (.int .u64 num.abs.hi)), .p (.val (.int .u64 num.abs.lo))]), (104, .var [.p (pi (0 : Int)), .p (pi (0 : Int))])]⟩) ?_
  replace H0 := bind_some H0
  obtain ⟨y, h_0, H0⟩ := H0
  replace H0 := bind_some H0
  obtain ⟨y1, h_1, H0⟩ := H0
  refine lok_rt (Env.of E0 [⟨some 10, 63, [.agg [.p (.val (.int .u64 num.abs.hi)), .p (.val (.int .u64 num.abs.lo))], .one (.p (.val (.int .u64 den)))], [], [.one (.p (.val (.int .u64 y)))], [], True, fun _ => ok_ratio_wide_mod num.abs den y h_0⟩,
      ⟨some 12, 60, [.one (.p (.val (.int .u64 y))), .one (.p (.val (.int .u64 den)))], [], [.one (.p (.val (.int .u64 y1)))], [], True, fun _ => ok_ratio_gcd y den y1 h_1⟩]) (⟨26, mkS [(1, .x (.one (.p (.val (.int .u64 den))))), (2, .x (.one (.ptr 102 0))), (4, .x (.one (.ptr 104 0))), (6, .x (.one (.p (.val (.int .u64 y1)))))], mkH [(102, .var [.p (.val (.bool num.neg)), .p (.val (.int .u64 num.abs.hi)), .p (.val (.int .u64 num.abs.lo))]), (104, .var [.p (pi (0 : Int)), .p (pi (0 : Int))])]⟩) ?_
  replace H0 := bind_some H0
  obtain ⟨y2, h_2, H0⟩ := H0
  replace H0 := req_some H0
  obtain ⟨q_4, H0⟩ := H0
  replace H0 := bind_some H0
  obtain ⟨⟨y3, y4⟩, h_3, H0⟩ := H0
  try dsimp only at H0
  refine lok_dt (Env.of E0 [⟨some 18, 65, [.agg [.p (.val (.int .u64 num.abs.hi)), .p (.val (.int .u64 num.abs.lo))], .one (.p (.val (.int .u64 y1)))], [], [.agg [.p (.val (.int .u64 y2.hi)), .p (.val (.int .u64 y2.lo))]], [], True, fun _ => ok_ratio_wide_over num.abs y1 y2 h_2⟩,
      ⟨some 23, 64, [.one (.p (.val (.bool num.neg))), .agg [.p (.val (.int .u64 y2.hi)), .p (.val (.int .u64 y2.lo))], .agg [.p (.val (.int .u64 (0 : Int))), .p (.val (.int .u64 (IntKind.u64.wrap (Int.tdiv den y1))))]], [], [.agg [.p (pi y3.Num), .p (pi y3.Den)], .one (.p (pi y4))], [], True, fun _ => ok_ratio_fitted num.neg y2 (ratio_wide.mk (0 : Int) (IntKind.u64.wrap (Int.tdiv den y1))) (y3, y4) h_3⟩]) 13 (⟨26, mkS [(4, .x (.one (.ptr 104 0))), (5, .x (.one (.p (pi y4))))], mkH [(104, .var [.p (pi y3.Num), .p (pi y3.Den)])]⟩) (by kernel_rfl) (by kernel_rfl) ?_
  refine lok_ret ?_
  obtain rfl := Option.some.inj H0
  try simp only [thenL, blockL]
  exact fin_au _ (.inr rfl) [] (⟨26, mkS [(4, .x (.one (.ptr 104 0))), (5, .x (.one (.p (pi y4))))], mkH [(104, .var [.p (pi y3.Num), .p (pi y3.Den)])]⟩) rfl rfl imp_au
theorem ok_ratio_New (num : Int) (den : Int) (r_ : api_Ratio × Int) (H0 : ratio_New num den = some r_) : CallOK Try.prog 41 [.one (.p (pi num)), .one (.p (pi den))] [] [.agg [.p (pi r_.1.Num), .p (pi r_.1.Den)], .one (.p (pi r_.2))] [] := by
  refine callOK (n := 25) (rs := [.cell 4 40, .tmp 5]) (nb := 0) (V := []) Try.func41 rfl (by kernel_rfl) rfl rfl rfl rfl (Nat.le_of_ble_eq_true rfl) rfl (by decide) ?_
  unfold ratio_New at H0
  refine lok_rt E0 (⟨25, mkS [(0, .x (.one (.p (pi num)))), (1, .x (.one (.p (pi den)))), (4, .x (.one (.ptr 104 0)))], mkH [(104, .var [.p (pi (0 : Int)), .p (pi (0 : Int))])]⟩) ?_
  refine lok_seq ?_
  refine lok_rt E0 (⟨25, mkS [(0, .x (.one (.p (pi num)))), (1, .x (.one (.p (pi den)))), (4, .x (.one (.ptr 104 0))), (8, .x (.one (.p (.val (.bool (den == (0 : Int)))))))], mkH [(104, .var [.p (pi (0 : Int)), .p (pi (0 : Int))])]⟩) ?_
  refine lok_c (den == (0 : Int)) ?_ ?_
  · intro b_3
    replace H0 := cpos H0 b_3
    refine lok_rt E0 (⟨25, mkS [(4, .x (.one (.ptr 104 0))), (5, .x (.one (.p (pi (2 : Int)))))], mkH [(104, .var [.p (pi (0 : Int)), .p (pi (0 : Int))])]⟩) ?_
    refine lok_ret ?_
    obtain rfl := Option.some.inj H0
    try simp only [thenL, blockL]
    exact fin_au _ (.inr rfl) [] (⟨25, mkS [(4, .x (.one (.ptr 104 0))), (5, .x (.one (.p (pi (2 : Int)))))], mkH [(104, .var [.p (pi (0 : Int)), .p (pi (0 : Int))])]⟩) rfl rfl imp_au
  · intro b_3
    replace H0 := cneg H0 b_3
    refine lok_skip ?_
    try simp only [thenL, blockL, ↓reduceIte, reduceCtorEq]
    refine lok_rt E0 (⟨25, mkS [(0, .x (.one (.p (pi num)))), (1, .x (.one (.p (pi den)))), (4, .x (.one (.ptr 104 0))), (6, .x (.one (.p (.val (.bool (!((decide (num < (0 : Int))) == (decide (den < (0 : Int))))))))))], mkH [(104, .var [.p (pi (0 : Int)), .p (pi (0 : Int))])]⟩) ?_
    replace H0 := bind_some H0
    obtain ⟨y, h_0, H0⟩ := H0
    replace H0 := bind_some H0
    obtain ⟨y1, h_1, H0⟩ := H0
    replace H0 := bind_some H0
    obtain ⟨⟨y2, y3⟩, h_2, H0⟩ := H0
    try dsimp only at H0
    refine lok_rt (Env.of E0 [⟨some 17, 52, [.one (.p (pi num))], [], [.one (.p (.val (.int .u64 y)))], [], True, fun _ => ok_ratio_magnitude num y h_0⟩,
      ⟨some 21, 52, [.one (.p (pi den))], [], [.one (.p (.val (.int .u64 y1)))], [], True, fun _ => ok_ratio_magnitude den y1 h_1⟩,
      ⟨some 22, 51, [.agg [.p (.val (.bool (!((decide (num < (0 : Int))) == (decide (den < (0 : Int))))))), .p (.val (.int .u64 (0 : Int))), .p (.val (.int .u64 y))], .one (.p (.val (.int .u64 y1)))], [], [.agg [.p (pi y2.Num), .p (pi y2.Den)], .one (.p (pi y3))], [], True, fun _ => ok_ratio_reduced (ratio_signed.mk (!((decide (num < (0 : Int))) == (decide (den < (0 : Int))))) (ratio_wide.mk (0 : Int) y)) y1 (y2, y3) h_2⟩]) (⟨25, mkS [(4, .x (.one (.ptr 104 0))), (5, .x (.one (.p (pi y3))))], mkH [(104, .var [.p (pi y2.Num), .p (pi y2.Den)])]⟩) ?_
    refine lok_ret ?_
    obtain rfl := Option.some.inj H0
    try simp only [thenL, blockL]
    exact fin_au _ (.inr rfl) [] (⟨25, mkS [(4, .x (.one (.ptr 104 0))), (5, .x (.one (.p (pi y3))))], mkH [(104, .var [.p (pi y2.Num), .p (pi y2.Den)])]⟩) rfl rfl imp_au
theorem ok_bits_Mul64 (x : Int) (y : Int) (r_ : Int × Int) (H0 : bits_Mul64 x y = some r_) : CallOK Try.prog 82 [.one (.p (.val (.int .u64 x))), .one (.p (.val (.int .u64 y)))] [] [.one (.p (.val (.int .u64 r_.1))), .one (.p (.val (.int .u64 r_.2)))] [] := by
  refine callOK (n := 51) (rs := [.tmp 4, .tmp 5]) (nb := 0) (V := []) Try.func82 rfl (by kernel_rfl) rfl rfl rfl rfl (Nat.le_of_ble_eq_true rfl) rfl (by decide) ?_
  unfold bits_Mul64 at H0
  refine lok_rt E0 (⟨51, mkS [(0, .x (.one (.p (.val (.int .u64 x))))), (1, .x (.one (.p (.val (.int .u64 y)))))], mkH []⟩) ?_
  refine lok_rt E0 (⟨51, mkS [(0, .x (.one (.p (.val (.int .u64 x))))), (1, .x (.one (.p (.val (.int .u64 y))))), (6, .x (.one (.p (.val (.int .u64 (bAnd .u64 x (4294967295 : Int)))))))], mkH []⟩) ?_
  refine lok_rt E0 (⟨51, mkS [(0, .x (.one (.p (.val (.int .u64 x))))), (1, .x (.one (.p (.val (.int .u64 y))))), (6, .x (.one (.p (.val (.int .u64 (bAnd .u64 x (4294967295 : Int))))))), (7, .x (.one (.p (.val (.int .u64 (bShr .u64 x (32 : Int)))))))], mkH []⟩) ?_
  refine lok_rt E0 (⟨51, mkS [(0, .x (.one (.p (.val (.int .u64 x))))), (1, .x (.one (.p (.val (.int .u64 y))))), (6, .x (.one (.p (.val (.int .u64 (bAnd .u64 x (4294967295 : Int))))))), (7, .x (.one (.p (.val (.int .u64 (bShr .u64 x (32 : Int))))))), (8, .x (.one (.p (.val (.int .u64 (bAnd .u64 y (4294967295 : Int)))))))], mkH []⟩) ?_
  refine lok_rt E0 (⟨51, mkS [(0, .x (.one (.p (.val (.int .u64 x))))), (1, .x (.one (.p (.val (.int .u64 y))))), (6, .x (.one (.p (.val (.int .u64 (bAnd .u64 x (4294967295 : Int))))))), (7, .x (.one (.p (.val (.int .u64 (bShr .u64 x (32 : Int))))))), (8, .x (.one (.p (.val (.int .u64 (bAnd .u64 y (4294967295 : Int))))))), (9, .x (.one (.p (.val (.int .u64 (bShr .u64 y (32 : Int)))))))], mkH []⟩) ?_
  replace H0 := bindV_some H0
  obtain ⟨w0, a_0, H0⟩ := H0
  refine lok_rtg E0 a_0 (⟨51, mkS [(0, .x (.one (.p (.val (.int .u64 x))))), (1, .x (.one (.p (.val (.int .u64 y))))), (6, .x (.one (.p (.val (.int .u64 (bAnd .u64 x (4294967295 : Int))))))), (7, .x (.one (.p (.val (.int .u64 (bShr .u64 x (32 : Int))))))), (8, .x (.one (.p (.val (.int .u64 (bAnd .u64 y (4294967295 : Int))))))), (9, .x (.one (.p (.val (.int .u64 (bShr .u64 y (32 : Int))))))), (10, .x (.one (.p (.val (.int .u64 w0)))))], mkH []⟩) ?_
  replace H0 := bindV_some H0
  obtain ⟨t, a_1, H0⟩ := H0
  refine lok_rtg E0 a_1 (⟨51, mkS [(0, .x (.one (.p (.val (.int .u64 x))))), (1, .x (.one (.p (.val (.int .u64 y))))), (6, .x (.one (.p (.val (.int .u64 (bAnd .u64 x (4294967295 : Int))))))), (7, .x (.one (.p (.val (.int .u64 (bShr .u64 x (32 : Int))))))), (9, .x (.one (.p (.val (.int .u64 (bShr .u64 y (32 : Int))))))), (11, .x (.one (.p (.val (.int .u64 t)))))], mkH []⟩) ?_
  refine lok_rt E0 (⟨51, mkS [(0, .x (.one (.p (.val (.int .u64 x))))), (1, .x (.one (.p (.val (.int .u64 y))))), (6, .x (.one (.p (.val (.int .u64 (bAnd .u64 x (4294967295 : Int))))))), (7, .x (.one (.p (.val (.int .u64 (bShr .u64 x (32 : Int))))))), (9, .x (.one (.p (.val (.int .u64 (bShr .u64 y (32 : Int))))))), (11, .x (.one (.p (.val (.int .u64 t))))), (12, .x (.one (.p (.val (.int .u64 (bAnd .u64 t (4294967295 : Int)))))))], mkH []⟩) ?_
  refine lok_rt E0 (⟨51, mkS [(0, .x (.one (.p (.val (.int .u64 x))))), (1, .x (.one (.p (.val (.int .u64 y))))), (6, .x (.one (.p (.val (.int .u64 (bAnd .u64 x (4294967295 : Int))))))), (7, .x (.one (.p (.val (.int .u64 (bShr .u64 x (32 : Int))))))), (9, .x (.one (.p (.val (.int .u64 (bShr .u64 y (32 : Int))))))), (12, .x (.one (.p (.val (.int .u64 (bAnd .u64 t (4294967295 : Int))))))), (13, .x (.one (.p (.val (.int .u64 (bShr .u64 t (32 : Int)))))))], mkH []⟩) ?_
  replace H0 := bindV_some H0
  obtain ⟨w1, a_2, H0⟩ := H0
  refine lok_rtg E0 a_2 (⟨51, mkS [(0, .x (.one (.p (.val (.int .u64 x))))), (1, .x (.one (.p (.val (.int .u64 y))))), (7, .x (.one (.p (.val (.int .u64 (bShr .u64 x (32 : Int))))))), (9, .x (.one (.p (.val (.int .u64 (bShr .u64 y (32 : Int))))))), (12, .x (.one (.p (.val (.int .u64 w1))))), (13, .x (.one (.p (.val (.int .u64 (bShr .u64 t (32 : Int)))))))], mkH []⟩) ?_
  replace H0 := bindV_some H0
  obtain ⟨hi, a_3, H0⟩ := H0
  refine lok_rtg E0 a_3 (⟨51, mkS [(0, .x (.one (.p (.val (.int .u64 x))))), (1, .x (.one (.p (.val (.int .u64 y))))), (4, .x (.one (.p (.val (.int .u64 hi)))))], mkH []⟩) ?_
  refine lok_rt E0 (⟨51, mkS [(4, .x (.one (.p (.val (.int .u64 hi))))), (5, .x (.one (.p (.val (.int .u64 (IntKind.u64.wrap (x * y)))))))], mkH []⟩) ?_
  refine lok_ret ?_
  obtain rfl := Option.some.inj H0
  try simp only [thenL, blockL]
  exact fin_au _ (.inr rfl) [] (⟨51, mkS [(4, .x (.one (.p (.val (.int .u64 hi))))), (5, .x (.one (.p (.val (.int .u64 (IntKind.u64.wrap (x * y)))))))], mkH []⟩) rfl rfl imp_au
theorem ok_ratio_product (a : Int) (b : Int) (r_ : ratio_wide) (H0 : ratio_product a b = some r_) : CallOK Try.prog 75 [.one (.p (.val (.int .u64 a))), .one (.p (.val (.int .u64 b)))] [] [.agg [.p (.val (.int .u64 r_.hi)), .p (.val (.int .u64 r_.lo))]] [] := by
  refine callOK (n := 16) (rs := [.cell 4 82]) (nb := 0) (V := []) Try.func75 rfl (by kernel_rfl) rfl rfl rfl rfl (Nat.le_of_ble_eq_true rfl) rfl (by decide) ?_
  unfold ratio_product at H0
  refine lok_rt E0 (⟨16, mkS [(0, .x (.one (.p (.val (.int .u64 a))))), (1, .x (.one (.p (.val (.int .u64 b))))), (4, .x (.one (.ptr 104 0)))], mkH [(104, .var [.p (.val (.int .u64 (0 : Int))), .p (.val (.int .u64 (0 : Int)))])]⟩) ?_
  replace H0 := bind_some H0
  obtain ⟨⟨y, y1⟩, h_0, H0⟩ := H0
  try dsimp only at H0
  refine lok_rt (Env.of E0 [⟨some 10, 82, [.one (.p (.val (.int .u64 a))), .one (.p (.val (.int .u64 b)))], [], [.one (.p (.val (.int .u64 y))), .one (.p (.val (.int .u64 y1)))], [], True, fun _ => ok_bits_Mul64 a b (y, y1) h_0⟩]) (⟨16, mkS [(4, .x (.one (.ptr 104 0))), (5, .x (.one (.p (.val (.int .u64 y))))), (6, .x (.one (.p (.val (.int .u64 y1)))))], mkH [(104, .var [.p (.val (.int .u64 (0 : Int))), .p (.val (.int .u64 (0 : Int)))])]⟩) ?_
  refine lok_rt E0 (⟨16, mkS [(4, .x (.one (.ptr 104 0)))], mkH [(104, .var [.p (.val (.int .u64 y)), .p (.val (.int .u64 y1))])]⟩) ?_
  refine lok_ret ?_
  obtain rfl := Option.some.inj H0
  try simp only [thenL, blockL]
  exact fin_au _ (.inr rfl) [] (⟨16, mkS [(4, .x (.one (.ptr 104 0)))], mkH [(104, .var [.p (.val (.int .u64 y)), .p (.val (.int .u64 y1))])]⟩) rfl rfl imp_au
theorem ok_ratio_signedProduct (num : Int) (factor : Int) (r_ : ratio_signed) (H0 : ratio_signedProduct num factor = some r_) : CallOK Try.prog 61 [.one (.p (pi num)), .one (.p (.val (.int .u64 factor)))] [] [.agg [.p (.val (.bool r_.neg)), .p (.val (.int .u64 r_.abs.hi)), .p (.val (.int .u64 r_.abs.lo))]] [] := by
  refine callOK (n := 12) (rs := [.cell 4 84]) (nb := 0) (V := []) Try.func61 rfl (by kernel_rfl) rfl rfl rfl rfl (Nat.le_of_ble_eq_true rfl) rfl (by decide) ?_
  unfold ratio_signedProduct at H0
  refine lok_rt E0 (⟨12, mkS [(0, .x (.one (.p (pi num)))), (1, .x (.one (.p (.val (.int .u64 factor))))), (4, .x (.one (.ptr 104 0)))], mkH [(104, .var [.p (.val (.bool false)), .p (.val (.int .u64 (0 : Int))), .p (.val (.int .u64 (0 : Int)))])]⟩) ?_
  replace H0 := bind_some H0
  obtain ⟨y, h_0, H0⟩ := H0
  replace H0 := bind_some H0
  obtain ⟨y1, h_1, H0⟩ := H0
  refine lok_rt (Env.of E0 [⟨some 8, 52, [.one (.p (pi num))], [], [.one (.p (.val (.int .u64 y)))], [], True, fun _ => ok_ratio_magnitude num y h_0⟩,
      ⟨some 10, 75, [.one (.p (.val (.int .u64 y))), .one (.p (.val (.int .u64 factor)))], [], [.agg [.p (.val (.int .u64 y1.hi)), .p (.val (.int .u64 y1.lo))]], [], True, fun _ => ok_ratio_product y factor y1 h_1⟩]) (⟨12, mkS [(4, .x (.one (.ptr 104 0)))], mkH [(104, .var [.p (.val (.bool (decide (num < (0 : Int))))), .p (.val (.int .u64 y1.hi)), .p (.val (.int .u64 y1.lo))])]⟩) ?_
  refine lok_ret ?_
  obtain rfl := Option.some.inj H0
  try simp only [thenL, blockL]
  exact fin_au _ (.inr rfl) [] (⟨12, mkS [(4, .x (.one (.ptr 104 0)))], mkH [(104, .var [.p (.val (.bool (decide (num < (0 : Int))))), .p (.val (.int .u64 y1.hi)), .p (.val (.int .u64 y1.lo))])]⟩) rfl rfl imp_au
end Go.LS
