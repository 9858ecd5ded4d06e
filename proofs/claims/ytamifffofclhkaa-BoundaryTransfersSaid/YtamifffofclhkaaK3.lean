/-
  The walks: the functions compute what the plain ones say. Condition: the plain function has a value.
-/
import Derived.Test.YtamifffofclhkaaK2
import Derived.Test.YtamifffofclhkaaD3
namespace Go.LS
open Go.Proofs
set_option linter.all false
set_option linter.unusedSimpArgs false
set_option linter.unusedVariables false
set_option maxRecDepth 20000

theorem ok_boundary_reaching (d : api_Distribution) (r_ : (List Int)) (H0 : boundary_reaching d = some r_) : CallOK Try.prog 36 [.agg [.p (.sl 1 (List.map encI d.Counts))]] [] [.one (.p (.sl 1 (List.map encI r_)))] [] := by
  refine callOK (n := 31) (rs := [.tmp 2]) (nb := 0) (V := []) Try.func36 rfl (by kernel_rfl) rfl rfl rfl rfl (Nat.le_of_ble_eq_true rfl) (by decide) ?_
  unfold boundary_reaching at H0
  refine lok_rt E0 (⟨31, mkS [(1, .x (.one (.ptr 101 0)))], mkH [(101, .var [.p (.sl 1 (List.map encI d.Counts))])]⟩) ?_
  replace H0 := req_some H0
  obtain ⟨q_7, H0⟩ := H0
  refine lok_rt E0 (⟨31, mkS [(1, .x (.one (.ptr 101 0))), (3, .x (.one (.vw 109)))], mkH [(101, .var [.p (.sl 1 (List.map encI d.Counts))]), (109, .arr 1 (List.map encI (rep (IntKind.i64.wrap ((d.Counts.length : Int) + (1 : Int))) (0 : Int))))]⟩) ?_
  refine lok_join (fun x_ : (List Int) => boundary_reaching_j1 x_ = some r_) (fun x_ => ⟨31, mkS [(3, .x (.one (.vw 109)))], mkH [(109, .arr 1 (List.map encI x_))]⟩) ?hyboundary_reaching_j1 ?hxboundary_reaching_j1
  case hyboundary_reaching_j1 =>
    rintro w H0
    try dsimp only at H0 ⊢
    unfold boundary_reaching_j1 at H0
    refine lok_rt E0 (⟨31, mkS [(2, .x (.one (.vw 109)))], mkH [(109, .arr 1 (List.map encI w))]⟩) ?_
    refine lok_ret ?_
    obtain rfl := Option.some.inj H0
    try simp only [thenL, blockL]
    exact fin_au _ (.inr rfl) [] (⟨31, mkS [(2, .x (.one (.p (.sl 1 (List.map encI w)))))], mkH []⟩) rfl rfl (Imp.trans (imp_frz 109 1 (List.map encI w)) imp_au)
  case hxboundary_reaching_j1 =>
    replace H0 := bind_some H0
    obtain ⟨y, h_0, H0⟩ := H0
    refine lok_rt (Env.of E0 [⟨some 11, 32, [.agg [.p (.sl 1 (List.map encI d.Counts))]], [], [.one (.p (pi y))], [], True, fun _ => ok_boundary_greatest d y h_0, []⟩]) (⟨31, mkS [(1, .x (.one (.ptr 101 0))), (3, .x (.one (.vw 109))), (4, .x (.one (.p (pi y))))], mkH [(101, .var [.p (.sl 1 (List.map encI d.Counts))]), (109, .arr 1 (List.map encI (rep (IntKind.i64.wrap ((d.Counts.length : Int) + (1 : Int))) (0 : Int))))]⟩) ?_
    refine lok_block ?_
    replace H0 := bind_some H0
    obtain ⟨v_1, hv_1, H0⟩ := H0
    refine lok_iter (fun x_ => ⟨31, mkS [(1, .x (.one (.ptr 101 0))), (3, .x (.one (.vw 109))), (4, .x (.one (.p (pi x_.1))))], mkH [(101, .var [.p (.sl 1 (List.map encI d.Counts))]), (109, .arr 1 (List.map encI x_.2))]⟩) hv_1 imp_au ?_
    · rintro ⟨i, w1⟩ o_1 H1 k_1
      unfold boundary_reaching_l2 at H1
      try dsimp only at H1 ⊢
      refine lok_seq ?_
      refine lok_rt E0 (⟨31, mkS [(1, .x (.one (.ptr 101 0))), (3, .x (.one (.vw 109))), (4, .x (.one (.p (pi i)))), (13, .x (.one (.p (.val (.bool (decide ((0 : Int) ≤ i)))))))], mkH [(101, .var [.p (.sl 1 (List.map encI d.Counts))]), (109, .arr 1 (List.map encI w1))]⟩) ?_
      refine lok_c (decide ((0 : Int) ≤ i)) ?_ ?_
      · intro b_6
        replace H1 := cpos H1 b_6
        refine lok_skip ?_
        try simp only [thenL, blockL, ↓reduceIte, reduceCtorEq]
        refine lok_seq ?_
        refine lok_block ?_
        replace H1 := req_some H1
        obtain ⟨⟨q_3, q_4, q_5⟩, H1⟩ := H1
        replace H1 := bindV_some H1
        obtain ⟨w3, a_2, H1⟩ := H1
        refine lok_dlg E0 13 a_2 (⟨31, mkS [(1, .x (.one (.ptr 101 0))), (3, .x (.one (.vw 109))), (4, .x (.one (.p (pi i))))], mkH [(101, .var [.p (.sl 1 (List.map encI d.Counts))]), (109, .arr 1 (List.map encI w3))]⟩) (by kernel_rfl) (by kernel_rfl) ?_
        try simp only [thenL, blockL, ↓reduceIte, reduceCtorEq]
        refine lok_rl E0 (⟨31, mkS [(1, .x (.one (.ptr 101 0))), (3, .x (.one (.vw 109))), (4, .x (.one (.p (pi (IntKind.i64.wrap (i - (1 : Int)))))))], mkH [(101, .var [.p (.sl 1 (List.map encI d.Counts))]), (109, .arr 1 (List.map encI w3))]⟩) ?_
        try simp only [thenL, blockL, ↓reduceIte, reduceCtorEq]
        exact ⟨((IntKind.i64.wrap (i - (1 : Int))), w3), (Option.some.inj H1).symm, imp_au⟩
      · intro b_6
        replace H1 := cneg H1 b_6
        refine lok_exit ?_
        try simp only [thenL, blockL, ↓reduceIte, reduceCtorEq]
        have e_1 := k_1 _ (Option.some.inj H1).symm
        subst e_1
        try dsimp only at H0
        try simp only [thenL, blockL, ↓reduceIte, reduceCtorEq]
        exact ⟨w1, H0, imp_au⟩
theorem ok_ratio_reduced (num : ratio_signed) (den : Int) (r_ : api_Ratio × Int) (H0 : ratio_reduced num den = some r_) : CallOK Try.prog 51 [.agg [.p (.val (.bool num.neg)), .p (.val (.int .u64 num.abs.hi)), .p (.val (.int .u64 num.abs.lo))], .one (.p (.val (.int .u64 den)))] [] [.agg [.p (pi r_.1.Num), .p (pi r_.1.Den)], .one (.p (pi r_.2))] [] := by
  refine callOK (n := 26) (rs := [.cell 4 40, .tmp 5]) (nb := 0) (V := []) Try.func51 rfl (by kernel_rfl) rfl rfl rfl rfl (Nat.le_of_ble_eq_true rfl) (by decide) ?_
  unfold ratio_reduced at H0
  refine lok_rt E0 (⟨26, mkS [(1, .x (.one (.p (.val (.int .u64 den))))), (2, .x (.one (.ptr 102 0))), (4, .x (.one (.ptr 104 0)))], mkH [(102, .var [.p (.val (.bool num.neg)), .p (.val (.int .u64 num.abs.hi)), .p (.val (.int .u64 num.abs.lo))]), (104, .var [.p (pi (0 : Int)), .p (pi (0 : Int))])]⟩) ?_
  replace H0 := bind_some H0
  obtain ⟨y, h_0, H0⟩ := H0
  replace H0 := bind_some H0
  obtain ⟨y1, h_1, H0⟩ := H0
  refine lok_rt (Env.of E0 [⟨some 10, 63, [.agg [.p (.val (.int .u64 num.abs.hi)), .p (.val (.int .u64 num.abs.lo))], .one (.p (.val (.int .u64 den)))], [], [.one (.p (.val (.int .u64 y)))], [], True, fun _ => ok_ratio_wide_mod num.abs den y h_0, []⟩,
      ⟨some 12, 60, [.one (.p (.val (.int .u64 y))), .one (.p (.val (.int .u64 den)))], [], [.one (.p (.val (.int .u64 y1)))], [], True, fun _ => ok_ratio_gcd y den y1 h_1, []⟩]) (⟨26, mkS [(1, .x (.one (.p (.val (.int .u64 den))))), (2, .x (.one (.ptr 102 0))), (4, .x (.one (.ptr 104 0))), (6, .x (.one (.p (.val (.int .u64 y1)))))], mkH [(102, .var [.p (.val (.bool num.neg)), .p (.val (.int .u64 num.abs.hi)), .p (.val (.int .u64 num.abs.lo))]), (104, .var [.p (pi (0 : Int)), .p (pi (0 : Int))])]⟩) ?_
  replace H0 := bind_some H0
  obtain ⟨y2, h_2, H0⟩ := H0
  replace H0 := req_some H0
  obtain ⟨q_4, H0⟩ := H0
  replace H0 := bind_some H0
  obtain ⟨⟨y3, y4⟩, h_3, H0⟩ := H0
  try dsimp only at H0
  refine lok_dt (Env.of E0 [⟨some 18, 65, [.agg [.p (.val (.int .u64 num.abs.hi)), .p (.val (.int .u64 num.abs.lo))], .one (.p (.val (.int .u64 y1)))], [], [.agg [.p (.val (.int .u64 y2.hi)), .p (.val (.int .u64 y2.lo))]], [], True, fun _ => ok_ratio_wide_over num.abs y1 y2 h_2, []⟩,
      ⟨some 23, 64, [.one (.p (.val (.bool num.neg))), .agg [.p (.val (.int .u64 y2.hi)), .p (.val (.int .u64 y2.lo))], .agg [.p (.val (.int .u64 (0 : Int))), .p (.val (.int .u64 (IntKind.u64.wrap (Int.tdiv den y1))))]], [], [.agg [.p (pi y3.Num), .p (pi y3.Den)], .one (.p (pi y4))], [], True, fun _ => ok_ratio_fitted num.neg y2 (ratio_wide.mk (0 : Int) (IntKind.u64.wrap (Int.tdiv den y1))) (y3, y4) h_3, []⟩]) 13 (⟨26, mkS [(4, .x (.one (.ptr 104 0))), (5, .x (.one (.p (pi y4))))], mkH [(104, .var [.p (pi y3.Num), .p (pi y3.Den)])]⟩) (by kernel_rfl) (by kernel_rfl) ?_
  refine lok_ret ?_
  obtain rfl := Option.some.inj H0
  try simp only [thenL, blockL]
  exact fin_au _ (.inr rfl) [] (⟨26, mkS [(4, .x (.one (.ptr 104 0))), (5, .x (.one (.p (pi y4))))], mkH [(104, .var [.p (pi y3.Num), .p (pi y3.Den)])]⟩) rfl rfl imp_au
theorem ok_ratio_New (num : Int) (den : Int) (r_ : api_Ratio × Int) (H0 : ratio_New num den = some r_) : CallOK Try.prog 41 [.one (.p (pi num)), .one (.p (pi den))] [] [.agg [.p (pi r_.1.Num), .p (pi r_.1.Den)], .one (.p (pi r_.2))] [] := by
  refine callOK (n := 25) (rs := [.cell 4 40, .tmp 5]) (nb := 0) (V := []) Try.func41 rfl (by kernel_rfl) rfl rfl rfl rfl (Nat.le_of_ble_eq_true rfl) (by decide) ?_
  unfold ratio_New at H0
  refine lok_rt E0 (⟨25, mkS [(0, .x (.one (.p (pi num)))), (1, .x (.one (.p (pi den)))), (4, .x (.one (.ptr 104 0)))], mkH [(104, .var [.p (pi (0 : Int)), .p (pi (0 : Int))])]⟩) ?_
  refine lok_seq ?_
  refine lok_rt E0 (⟨25, mkS [(0, .x (.one (.p (pi num)))), (1, .x (.one (.p (pi den)))), (4, .x (.one (.ptr 104 0))), (8, .x (.one (.p (.val (.bool (den == (0 : Int)))))))], mkH [(104, .var [.p (pi (0 : Int)), .p (pi (0 : Int))])]⟩) ?_
  refine lok_c (den == (0 : Int)) ?_ ?_
  · intro b_3
    replace H0 := cpos H0 b_3
    refine lok_rt E0 (⟨25, mkS [(4, .x (.one (.ptr 104 0))), (5, .x (.one (.p (pi (2 : Int)))))], mkH [(104, .var [.p (pi (0 : Int)), .p (pi (0 : Int))])]⟩) ?_
    refine lok_ret ?_
    obtain rfl := Option.some.inj H0
    try simp only [thenL, blockL]
    exact fin_au _ (.inr rfl) [] (⟨25, mkS [(4, .x (.one (.ptr 104 0))), (5, .x (.one (.p (pi (2 : Int)))))], mkH [(104, .var [.p (pi (0 : Int)), .p (pi (0 : Int))])]⟩) rfl rfl imp_au
  · intro b_3
    replace H0 := cneg H0 b_3
    refine lok_skip ?_
    try simp only [thenL, blockL, ↓reduceIte, reduceCtorEq]
    refine lok_rt E0 (⟨25, mkS [(0, .x (.one (.p (pi num)))), (1, .x (.one (.p (pi den)))), (4, .x (.one (.ptr 104 0))), (6, .x (.one (.p (.val (.bool (!((decide (num < (0 : Int))) == (decide (den < (0 : Int))))))))))], mkH [(104, .var [.p (pi (0 : Int)), .p (pi (0 : Int))])]⟩) ?_
    replace H0 := bind_some H0
    obtain ⟨y, h_0, H0⟩ := H0
    replace H0 := bind_some H0
    obtain ⟨y1, h_1, H0⟩ := H0
    replace H0 := bind_some H0
    obtain ⟨⟨y2, y3⟩, h_2, H0⟩ := H0
    try dsimp only at H0
    refine lok_rt (Env.of E0 [⟨some 17, 52, [.one (.p (pi num))], [], [.one (.p (.val (.int .u64 y)))], [], True, fun _ => ok_ratio_magnitude num y h_0, []⟩,
      ⟨some 21, 52, [.one (.p (pi den))], [], [.one (.p (.val (.int .u64 y1)))], [], True, fun _ => ok_ratio_magnitude den y1 h_1, []⟩,
      ⟨some 22, 51, [.agg [.p (.val (.bool (!((decide (num < (0 : Int))) == (decide (den < (0 : Int))))))), .p (.val (.int .u64 (0 : Int))), .p (.val (.int .u64 y))], .one (.p (.val (.int .u64 y1)))], [], [.agg [.p (pi y2.Num), .p (pi y2.Den)], .one (.p (pi y3))], [], True, fun _ => ok_ratio_reduced (ratio_signed.mk (!((decide (num < (0 : Int))) == (decide (den < (0 : Int))))) (ratio_wide.mk (0 : Int) y)) y1 (y2, y3) h_2, []⟩]) (⟨25, mkS [(4, .x (.one (.ptr 104 0))), (5, .x (.one (.p (pi y3))))], mkH [(104, .var [.p (pi y2.Num), .p (pi y2.Den)])]⟩) ?_
    refine lok_ret ?_
    obtain rfl := Option.some.inj H0
    try simp only [thenL, blockL]
    exact fin_au _ (.inr rfl) [] (⟨25, mkS [(4, .x (.one (.ptr 104 0))), (5, .x (.one (.p (pi y3))))], mkH [(104, .var [.p (pi y2.Num), .p (pi y2.Den)])]⟩) rfl rfl imp_au
theorem ok_boundary_compareShare (part : Int) (all : Int) (share : api_Ratio) (r_ : Int) (H0 : boundary_compareShare part all share = some r_) : CallOK Try.prog 37 [.one (.p (pi part)), .one (.p (pi all)), .agg [.p (pi share.Num), .p (pi share.Den)]] [] [.one (.p (pi r_))] [] := by
  refine callOK (n := 18) (rs := [.tmp 6]) (nb := 0) (V := []) Try.func37 rfl (by kernel_rfl) rfl rfl rfl rfl (Nat.le_of_ble_eq_true rfl) (by decide) ?_
  unfold boundary_compareShare at H0
  refine lok_rt E0 (⟨18, mkS [(0, .x (.one (.p (pi part)))), (1, .x (.one (.p (pi all)))), (5, .x (.one (.ptr 105 0)))], mkH [(105, .var [.p (pi share.Num), .p (pi share.Den)])]⟩) ?_
  replace H0 := bind_some H0
  obtain ⟨⟨y, y1⟩, h_0, H0⟩ := H0
  try dsimp only at H0
  refine lok_rt (Env.of E0 [⟨some 12, 41, [.one (.p (pi part)), .one (.p (pi all))], [], [.agg [.p (pi y.Num), .p (pi y.Den)], .one (.p (pi y1))], [], True, fun _ => ok_ratio_New part all (y, y1) h_0, []⟩]) (⟨18, mkS [(5, .x (.one (.ptr 105 0))), (7, .x (.one (.ptr 107 0)))], mkH [(105, .var [.p (pi share.Num), .p (pi share.Den)]), (107, .var [.p (pi y.Num), .p (pi y.Den)])]⟩) ?_
  replace H0 := bind_some H0
  obtain ⟨y2, h_1, H0⟩ := H0
  refine lok_rt (Env.of E0 [⟨some 17, 49, [.agg [.p (pi y.Num), .p (pi y.Den)], .agg [.p (pi share.Num), .p (pi share.Den)]], [], [.one (.p (pi y2))], [], True, fun _ => ok_ratio_Compare y share y2 h_1, []⟩]) (⟨18, mkS [(6, .x (.one (.p (pi y2))))], mkH []⟩) ?_
  refine lok_ret ?_
  obtain rfl := Option.some.inj H0
  try simp only [thenL, blockL]
  exact fin_au _ (.inr rfl) [] (⟨18, mkS [(6, .x (.one (.p (pi y2))))], mkH []⟩) rfl rfl imp_au
theorem ok_boundary_Share (d : api_Distribution) (share : api_Ratio) (r_ : Int × Int) (H0 : boundary_Share d share = some r_) : CallOK Try.prog 19 [.agg [.p (.sl 1 (List.map encI d.Counts))], .agg [.p (pi share.Num), .p (pi share.Den)]] [] [.one (.p (pi r_.1)), .one (.p (pi r_.2))] [] := by
  refine callOK (n := 35) (rs := [.tmp 4, .tmp 5]) (nb := 0) (V := []) Try.func19 rfl (by kernel_rfl) rfl rfl rfl rfl (Nat.le_of_ble_eq_true rfl) (by decide) ?_
  unfold boundary_Share at H0
  refine lok_rt E0 (⟨35, mkS [(2, .x (.one (.ptr 102 0))), (3, .x (.one (.ptr 103 0)))], mkH [(102, .var [.p (.sl 1 (List.map encI d.Counts))]), (103, .var [.p (pi share.Num), .p (pi share.Den)])]⟩) ?_
  refine lok_seq ?_
  replace H0 := bind_some H0
  obtain ⟨y, h_0, H0⟩ := H0
  refine lok_rt (Env.of E0 [⟨some 11, 35, [.agg [.p (.sl 1 (List.map encI d.Counts))], .agg [.p (pi share.Num), .p (pi share.Den)]], [], [.one (.p (pi y))], [], True, fun _ => ok_boundary_check d share y h_0, []⟩]) (⟨35, mkS [(2, .x (.one (.ptr 102 0))), (3, .x (.one (.ptr 103 0))), (6, .x (.one (.p (pi y))))], mkH [(102, .var [.p (.sl 1 (List.map encI d.Counts))]), (103, .var [.p (pi share.Num), .p (pi share.Den)])]⟩) ?_
  refine lok_rt E0 (⟨35, mkS [(2, .x (.one (.ptr 102 0))), (3, .x (.one (.ptr 103 0))), (6, .x (.one (.p (pi y)))), (13, .x (.one (.p (.val (.bool (y != (0 : Int)))))))], mkH [(102, .var [.p (.sl 1 (List.map encI d.Counts))]), (103, .var [.p (pi share.Num), .p (pi share.Den)])]⟩) ?_
  refine lok_c (y != (0 : Int)) ?_ ?_
  · intro b_8
    replace H0 := cpos H0 b_8
    refine lok_rt E0 (⟨35, mkS [(4, .x (.one (.p (pi (0 : Int))))), (5, .x (.one (.p (pi y))))], mkH []⟩) ?_
    refine lok_ret ?_
    obtain rfl := Option.some.inj H0
    try simp only [thenL, blockL]
    exact fin_au _ (.inr rfl) [] (⟨35, mkS [(4, .x (.one (.p (pi (0 : Int))))), (5, .x (.one (.p (pi y))))], mkH []⟩) rfl rfl imp_au
  · intro b_8
    replace H0 := cneg H0 b_8
    refine lok_skip ?_
    try simp only [thenL, blockL, ↓reduceIte, reduceCtorEq]
    replace H0 := bind_some H0
    obtain ⟨y1, h_1, H0⟩ := H0
    refine lok_rt (Env.of E0 [⟨some 16, 36, [.agg [.p (.sl 1 (List.map encI d.Counts))]], [], [.one (.p (.sl 1 (List.map encI y1)))], [], True, fun _ => ok_boundary_reaching d y1 h_1, []⟩]) (⟨35, mkS [(3, .x (.one (.ptr 103 0))), (7, .x (.one (.p (.sl 1 (List.map encI y1)))))], mkH [(103, .var [.p (pi share.Num), .p (pi share.Den)])]⟩) ?_
    refine lok_join (fun x_ : Unit => boundary_Share_j1 = some r_) (fun x_ => ⟨35, mkS [], mkH []⟩) ?hyboundary_Share_j1 ?hxboundary_Share_j1
    case hyboundary_Share_j1 =>
      rintro _ H0
      try dsimp only at H0 ⊢
      unfold boundary_Share_j1 at H0
      refine lok_rt E0 (⟨35, mkS [(4, .x (.one (.p (pi (0 : Int))))), (5, .x (.one (.p (pi (0 : Int)))))], mkH []⟩) ?_
      refine lok_ret ?_
      obtain rfl := Option.some.inj H0
      try simp only [thenL, blockL]
      exact fin_au _ (.inr rfl) [] (⟨35, mkS [(4, .x (.one (.p (pi (0 : Int))))), (5, .x (.one (.p (pi (0 : Int)))))], mkH []⟩) rfl rfl imp_au
    case hxboundary_Share_j1 =>
      refine lok_rt E0 (⟨35, mkS [(3, .x (.one (.ptr 103 0))), (7, .x (.one (.p (.sl 1 (List.map encI y1))))), (8, .x (.one (.p (pi (IntKind.i64.wrap ((y1.length : Int) - (1 : Int)))))))], mkH [(103, .var [.p (pi share.Num), .p (pi share.Den)])]⟩) ?_
      refine lok_block ?_
      replace H0 := bind_some H0
      obtain ⟨v_2, hv_2, H0⟩ := H0
      refine lok_iter (fun x_ => ⟨35, mkS [(3, .x (.one (.ptr 103 0))), (7, .x (.one (.p (.sl 1 (List.map encI y1))))), (8, .x (.one (.p (pi x_))))], mkH [(103, .var [.p (pi share.Num), .p (pi share.Den)])]⟩) hv_2 imp_au ?_
      · rintro b o_1 H1 k_1
        unfold boundary_Share_l2 at H1
        try dsimp only at H1 ⊢
        refine lok_seq ?_
        refine lok_rt E0 (⟨35, mkS [(3, .x (.one (.ptr 103 0))), (7, .x (.one (.p (.sl 1 (List.map encI y1))))), (8, .x (.one (.p (pi b)))), (21, .x (.one (.p (.val (.bool (decide ((0 : Int) < b)))))))], mkH [(103, .var [.p (pi share.Num), .p (pi share.Den)])]⟩) ?_
        refine lok_c (decide ((0 : Int) < b)) ?_ ?_
        · intro b_7
          replace H1 := cpos H1 b_7
          refine lok_skip ?_
          try simp only [thenL, blockL, ↓reduceIte, reduceCtorEq]
          refine lok_seq ?_
          refine lok_block ?_
          replace H1 := req_some H1
          obtain ⟨⟨q_5, q_6⟩, H1⟩ := H1
          replace H1 := bind_some H1
          obtain ⟨y2, h_3, H1⟩ := H1
          refine lok_dt (Env.of E0 [⟨some 32, 37, [.one (.p (pi (ix y1 b))), .one (.p (pi (ix y1 (0 : Int)))), .agg [.p (pi share.Num), .p (pi share.Den)]], [], [.one (.p (pi y2))], [], True, fun _ => ok_boundary_compareShare (ix y1 b) (ix y1 (0 : Int)) share y2 h_3, []⟩]) 8 (⟨35, mkS [(3, .x (.one (.ptr 103 0))), (7, .x (.one (.p (.sl 1 (List.map encI y1))))), (8, .x (.one (.p (pi b)))), (33, .x (.one (.p (.val (.bool (decide ((0 : Int) ≤ y2)))))))], mkH [(103, .var [.p (pi share.Num), .p (pi share.Den)])]⟩) (by kernel_rfl) (by kernel_rfl) ?_
          refine lok_c (decide ((0 : Int) ≤ y2)) ?_ ?_
          · intro b_4
            replace H1 := cpos H1 b_4
            refine lok_rt E0 (⟨35, mkS [(4, .x (.one (.p (pi b)))), (5, .x (.one (.p (pi (0 : Int)))))], mkH []⟩) ?_
            refine lok_ret ?_
            try simp only [thenL, blockL, ↓reduceIte, reduceCtorEq]
            have e_1 := k_1 _ (Option.some.inj H1).symm
            subst e_1
            try dsimp only at H0
            obtain rfl := Option.some.inj H0
            try simp only [thenL, blockL]
            exact fin_au _ (.inr rfl) [] (⟨35, mkS [(4, .x (.one (.p (pi b)))), (5, .x (.one (.p (pi (0 : Int)))))], mkH []⟩) rfl rfl imp_au
          · intro b_4
            replace H1 := cneg H1 b_4
            refine lok_skip ?_
            try simp only [thenL, blockL, ↓reduceIte, reduceCtorEq]
            refine lok_rl E0 (⟨35, mkS [(3, .x (.one (.ptr 103 0))), (7, .x (.one (.p (.sl 1 (List.map encI y1))))), (8, .x (.one (.p (pi (IntKind.i64.wrap (b - (1 : Int)))))))], mkH [(103, .var [.p (pi share.Num), .p (pi share.Den)])]⟩) ?_
            try simp only [thenL, blockL, ↓reduceIte, reduceCtorEq]
            exact ⟨(IntKind.i64.wrap (b - (1 : Int))), (Option.some.inj H1).symm, imp_au⟩
        · intro b_7
          replace H1 := cneg H1 b_7
          refine lok_exit ?_
          try simp only [thenL, blockL, ↓reduceIte, reduceCtorEq]
          have e_1 := k_1 _ (Option.some.inj H1).symm
          subst e_1
          try dsimp only at H0
          try simp only [thenL, blockL, ↓reduceIte, reduceCtorEq]
          exact ⟨(), H0, imp_au⟩
theorem ok_law35_sane  (r_ : Bool) (H0 : law35_sane = some r_) : CallOK Try.prog 9 [] [] [.one (.p (.val (.bool r_)))] [] := by
  refine callOK (n := 76) (rs := [.tmp 0]) (nb := 0) (V := []) Try.func9 rfl (by kernel_rfl) rfl rfl rfl rfl (Nat.le_of_ble_eq_true rfl) (by decide) ?_
  unfold law35_sane at H0
  refine lok_rt E0 (⟨76, mkS [], mkH []⟩) ?_
  refine lok_rt E0 (⟨76, mkS [(1, .x (.one (.ptr 101 0)))], mkH [(101, .var [.fl 1 (List.map encI ([(1 : Int), (1 : Int), (1 : Int), (1 : Int)]))])]⟩) ?_
  replace H0 := bind_some H0
  obtain ⟨⟨y, y1⟩, h_0, H0⟩ := H0
  try dsimp only at H0
  refine lok_rt (Env.of E0 [⟨some 15, 19, [.agg [.p (.sl 1 (List.map encI ([(1 : Int), (1 : Int), (1 : Int), (1 : Int)])))], .agg [.p (pi (1 : Int)), .p (pi (2 : Int))]], [], [.one (.p (pi y)), .one (.p (pi y1))], [], True, fun _ => ok_boundary_Share (api_Distribution.mk ([(1 : Int), (1 : Int), (1 : Int), (1 : Int)])) (api_Ratio.mk (1 : Int) (2 : Int)) (y, y1) h_0, []⟩]) (⟨76, mkS [(1, .x (.one (.ptr 101 0))), (2, .x (.one (.p (pi y)))), (3, .x (.one (.p (pi y1))))], mkH [(101, .var [.fl 1 (List.map encI ([(1 : Int), (1 : Int), (1 : Int), (1 : Int)]))])]⟩) ?_
  replace H0 := bind_some H0
  obtain ⟨⟨y2, y3⟩, h_1, H0⟩ := H0
  try dsimp only at H0
  refine lok_rt (Env.of E0 [⟨some 21, 19, [.agg [.p (.sl 1 (List.map encI ([(1 : Int), (1 : Int), (1 : Int), (1 : Int)])))], .agg [.p (pi (0 : Int)), .p (pi (1 : Int))]], [], [.one (.p (pi y2)), .one (.p (pi y3))], [], True, fun _ => ok_boundary_Share (api_Distribution.mk ([(1 : Int), (1 : Int), (1 : Int), (1 : Int)])) (api_Ratio.mk (0 : Int) (1 : Int)) (y2, y3) h_1, []⟩]) (⟨76, mkS [(1, .x (.one (.ptr 101 0))), (2, .x (.one (.p (pi y)))), (3, .x (.one (.p (pi y1)))), (4, .x (.one (.p (pi y2)))), (5, .x (.one (.p (pi y3))))], mkH [(101, .var [.fl 1 (List.map encI ([(1 : Int), (1 : Int), (1 : Int), (1 : Int)]))])]⟩) ?_
  replace H0 := bind_some H0
  obtain ⟨⟨y4, y5⟩, h_2, H0⟩ := H0
  try dsimp only at H0
  refine lok_rt (Env.of E0 [⟨some 25, 17, [.one (.p (pi (70 : Int))), .one (.p (pi (40 : Int))), .one (.p (pi (4 : Int)))], [], [.one (.p (.sl 1 (List.map encI y4))), .one (.p (pi y5))], [], True, fun _ => ok_boundary_Interpolate (70 : Int) (40 : Int) (4 : Int) (y4, y5) h_2, []⟩]) (⟨76, mkS [(1, .x (.one (.ptr 101 0))), (2, .x (.one (.p (pi y)))), (3, .x (.one (.p (pi y1)))), (4, .x (.one (.p (pi y2)))), (5, .x (.one (.p (pi y3)))), (6, .x (.one (.p (.sl 1 (List.map encI y4))))), (7, .x (.one (.p (pi y5))))], mkH [(101, .var [.fl 1 (List.map encI ([(1 : Int), (1 : Int), (1 : Int), (1 : Int)]))])]⟩) ?_
  replace H0 := bind_some H0
  obtain ⟨⟨y6, y7⟩, h_3, H0⟩ := H0
  try dsimp only at H0
  refine lok_rt (Env.of E0 [⟨some 31, 13, [.agg [.p (.sl 1 (List.map encI ([(1 : Int), (1 : Int), (1 : Int), (1 : Int)])))], .one (.p (.sl 1 (List.map encI ([(3 : Int), (1 : Int)]))))], [], [.one (.p (.sl 1 (List.map encI y6))), .one (.p (pi y7))], [], True, fun _ => ok_boundary_Tally (api_Distribution.mk ([(1 : Int), (1 : Int), (1 : Int), (1 : Int)])) ([(3 : Int), (1 : Int)]) (y6, y7) h_3, []⟩]) (⟨76, mkS [(2, .x (.one (.p (pi y)))), (3, .x (.one (.p (pi y1)))), (4, .x (.one (.p (pi y2)))), (5, .x (.one (.p (pi y3)))), (6, .x (.one (.p (.sl 1 (List.map encI y4))))), (7, .x (.one (.p (pi y5)))), (8, .x (.one (.p (.sl 1 (List.map encI y6))))), (9, .x (.one (.p (pi y7))))], mkH []⟩) ?_
  replace H0 := req_some H0
  obtain ⟨⟨q_4, q_5, q_6, q_7⟩, H0⟩ := H0
  refine lok_rt (Env.of E0 [⟨some 59, 15, [.one (.p (.sl 1 (List.map encI y4))), .one (.p (.sl 1 (List.map encI ([(70 : Int), (62 : Int), (55 : Int), (47 : Int), (40 : Int)]))))], [], [.one (.p (.val (.bool ((law35_same y4 ([(70 : Int), (62 : Int), (55 : Int), (47 : Int), (40 : Int)])).getD default))))], [], (law35_same y4 ([(70 : Int), (62 : Int), (55 : Int), (47 : Int), (40 : Int)])).isSome = true, fun h => ok_law35_same y4 ([(70 : Int), (62 : Int), (55 : Int), (47 : Int), (40 : Int)]) _ (isSome_get h), []⟩,
      ⟨some 64, 15, [.one (.p (.sl 1 (List.map encI y6))), .one (.p (.sl 1 (List.map encI ([(1 : Int), (2 : Int), (1 : Int)]))))], [], [.one (.p (.val (.bool ((law35_same y6 ([(1 : Int), (2 : Int), (1 : Int)])).getD default))))], [], (law35_same y6 ([(1 : Int), (2 : Int), (1 : Int)])).isSome = true, fun h => ok_law35_same y6 ([(1 : Int), (2 : Int), (1 : Int)]) _ (isSome_get h), []⟩,
      ⟨some 68, 14, [.one (.p (.sl 1 (List.map encI ([(3 : Int), (1 : Int)])))), .one (.p (pi (2 : Int)))], [], [.one (.p (pi ((boundary_Grade ([(3 : Int), (1 : Int)]) (2 : Int)).getD default)))], [], (boundary_Grade ([(3 : Int), (1 : Int)]) (2 : Int)).isSome = true, fun h => ok_boundary_Grade ([(3 : Int), (1 : Int)]) (2 : Int) _ (isSome_get h), []⟩,
      ⟨some 73, 27, [.one (.p (.sl 1 (List.map encI ([(3 : Int), (1 : Int)])))), .one (.p (pi (3 : Int)))], [], [.one (.p (pi ((boundary_Check ([(3 : Int), (1 : Int)]) (3 : Int)).getD default)))], [], (boundary_Check ([(3 : Int), (1 : Int)]) (3 : Int)).isSome = true, fun h => ok_boundary_Check ([(3 : Int), (1 : Int)]) (3 : Int) _ (isSome_get h), []⟩]) (⟨76, mkS [(0, .x (.one (.p (.val (.bool ((((((((((y1 == (0 : Int)) && (y3 == (0 : Int))) && (y5 == (0 : Int))) && (y7 == (0 : Int))) && (y == (2 : Int))) && (y2 == (4 : Int))) && ((law35_same y4 ([(70 : Int), (62 : Int), (55 : Int), (47 : Int), (40 : Int)])).getD default)) && ((law35_same y6 ([(1 : Int), (2 : Int), (1 : Int)])).getD default)) && (((boundary_Grade ([(3 : Int), (1 : Int)]) (2 : Int)).getD default) == (1 : Int))) && (((boundary_Check ([(3 : Int), (1 : Int)]) (3 : Int)).getD default) == (0 : Int))))))))], mkH []⟩) ?_
  refine lok_ret ?_
  obtain rfl := Option.some.inj H0
  try simp only [thenL, blockL]
  exact fin_au _ (.inr rfl) [] (⟨76, mkS [(0, .x (.one (.p (.val (.bool ((((((((((y1 == (0 : Int)) && (y3 == (0 : Int))) && (y5 == (0 : Int))) && (y7 == (0 : Int))) && (y == (2 : Int))) && (y2 == (4 : Int))) && ((law35_same y4 ([(70 : Int), (62 : Int), (55 : Int), (47 : Int), (40 : Int)])).getD default)) && ((law35_same y6 ([(1 : Int), (2 : Int), (1 : Int)])).getD default)) && (((boundary_Grade ([(3 : Int), (1 : Int)]) (2 : Int)).getD default) == (1 : Int))) && (((boundary_Check ([(3 : Int), (1 : Int)]) (3 : Int)).getD default) == (0 : Int))))))))], mkH []⟩) rfl rfl imp_au
set_option maxHeartbeats 4000000 in
theorem ok_law35_BoundaryTransfers (t : List Int) (most : Int) (r_ : Bool) (H0 : law35_BoundaryTransfers t most = some r_) : CallOK Try.prog 7 [.one (.p (.sl 1 (List.map encI t))), .one (.p (.val (.int .u8 most)))] [] [.one (.p (.val (.bool r_)))] [] := by
  refine callOK (n := 72) (rs := [.tmp 4]) (nb := 0) (V := []) Try.func7 rfl (by kernel_rfl) rfl rfl rfl rfl (Nat.le_of_ble_eq_true rfl) (by decide) ?_
  unfold law35_BoundaryTransfers at H0
  refine lok_rt E0 (⟨72, mkS [(0, .x (.one (.p (.sl 1 (List.map encI t))))), (1, .x (.one (.p (.val (.int .u8 most)))))], mkH []⟩) ?_
  refine lok_seq ?_
  replace H0 := bind_some H0
  obtain ⟨y, h_0, H0⟩ := H0
  refine lok_rt (Env.of E0 [⟨some 15, 8, [.one (.p (.sl 1 (List.map encI t)))], [], [.one (.p (.val (.bool y)))], [], True, fun _ => ok_mark_Light t y h_0, []⟩]) (⟨72, mkS [(0, .x (.one (.p (.sl 1 (List.map encI t))))), (1, .x (.one (.p (.val (.int .u8 most))))), (16, .x (.one (.p (.val (.bool (!y))))))], mkH []⟩) ?_
  refine lok_c (!y) ?_ ?_
  · intro b_15
    replace H0 := cpos H0 b_15
    replace H0 := bind_some H0
    obtain ⟨y1, h_1, H0⟩ := H0
    refine lok_rt (Env.of E0 [⟨some 17, 9, [], [], [.one (.p (.val (.bool y1)))], [], True, fun _ => ok_law35_sane y1 h_1, []⟩]) (⟨72, mkS [(4, .x (.one (.p (.val (.bool y1)))))], mkH []⟩) ?_
    refine lok_ret ?_
    obtain rfl := Option.some.inj H0
    try simp only [thenL, blockL]
    exact fin_au _ (.inr rfl) [] (⟨72, mkS [(4, .x (.one (.p (.val (.bool y1)))))], mkH []⟩) rfl rfl imp_au
  · intro b_15
    replace H0 := cneg H0 b_15
    refine lok_skip ?_
    try simp only [thenL, blockL, ↓reduceIte, reduceCtorEq]
    replace H0 := bind_some H0
    obtain ⟨y2, h_2, H0⟩ := H0
    refine lok_rt (Env.of E0 [⟨some 19, 10, [.one (.p (.sl 1 (List.map encI t)))], [], [.one (.ptr 0 0)], [some (.var [.p (.sl 1 (List.map encI y2.L)), .p (pi y2.At)])], True, fun _ => ok_mark_Roll t y2 h_2, []⟩]) (⟨72, mkS [(1, .x (.one (.p (.val (.int .u8 most))))), (5, .x (.one (.ptr 1019 0)))], mkH [(1019, .var [.p (.sl 1 (List.map encI y2.L)), .p (pi y2.At)])]⟩) ?_
    replace H0 := bind_some H0
    obtain ⟨⟨y3, y4⟩, h_3, H0⟩ := H0
    try dsimp only at H0
    refine lok_rt (Env.of E0 [⟨some 21, 25, [.one (.ptr 0 0)], [.var [.p (.sl 1 (List.map encI y2.L)), .p (pi y2.At)]], [.agg [.p (.sl 4 (List.map enc_api_Point y3.Points))]], [some (.var [.p (.sl 1 (List.map encI y4.L)), .p (pi y4.At)])], True, fun _ => ok_mark_Dice_Curve y2 (y3, y4) h_3, []⟩]) (⟨72, mkS [(1, .x (.one (.p (.val (.int .u8 most))))), (5, .x (.one (.ptr 1019 0))), (6, .x (.one (.ptr 106 0)))], mkH [(106, .var [.p (.sl 4 (List.map enc_api_Point y3.Points))]), (1019, .var [.p (.sl 1 (List.map encI y4.L)), .p (pi y4.At)])]⟩) ?_
    refine lok_rt E0 (⟨72, mkS [(5, .x (.one (.ptr 1019 0))), (6, .x (.one (.ptr 106 0))), (7, .x (.one (.p (pi (IntKind.i64.wrap (Int.tmod most (30 : Int)))))))], mkH [(106, .var [.p (.sl 4 (List.map enc_api_Point y3.Points))]), (1019, .var [.p (.sl 1 (List.map encI y4.L)), .p (pi y4.At)])]⟩) ?_
    replace H0 := bind_some H0
    obtain ⟨⟨y5, y6⟩, h_4, H0⟩ := H0
    try dsimp only at H0
    refine lok_rt (Env.of E0 [⟨some 26, 12, [.one (.ptr 0 0), .one (.p (pi (40 : Int)))], [.var [.p (.sl 1 (List.map encI y4.L)), .p (pi y4.At)]], [.one (.p (.sl 1 (List.map encI y5)))], [some (.var [.p (.sl 1 (List.map encI y6.L)), .p (pi y6.At)])], True, fun _ => ok_mark_Dice_Bounds y4 (40 : Int) (y5, y6) h_4, []⟩]) (⟨72, mkS [(6, .x (.one (.ptr 106 0))), (7, .x (.one (.p (pi (IntKind.i64.wrap (Int.tmod most (30 : Int))))))), (8, .x (.one (.p (.sl 1 (List.map encI y5)))))], mkH [(106, .var [.p (.sl 4 (List.map enc_api_Point y3.Points))])]⟩) ?_
    replace H0 := bind_some H0
    obtain ⟨⟨y7, y8⟩, h_5, H0⟩ := H0
    try dsimp only at H0
    refine lok_rt (Env.of E0 [⟨some 31, 26, [.one (.p (.sl 1 (List.map encI y5))), .agg [.p (.sl 4 (List.map enc_api_Point y3.Points))], .one (.p (pi (IntKind.i64.wrap (Int.tmod most (30 : Int)))))], [], [.one (.p (.sl 1 (List.map encI y7))), .one (.p (pi y8))], [], True, fun _ => ok_boundary_Transfer y5 y3 (IntKind.i64.wrap (Int.tmod most (30 : Int))) (y7, y8) h_5, []⟩]) (⟨72, mkS [(6, .x (.one (.ptr 106 0))), (7, .x (.one (.p (pi (IntKind.i64.wrap (Int.tmod most (30 : Int))))))), (8, .x (.one (.p (.sl 1 (List.map encI y5))))), (9, .x (.one (.p (.sl 1 (List.map encI y7))))), (10, .x (.one (.p (pi y8))))], mkH [(106, .var [.p (.sl 4 (List.map enc_api_Point y3.Points))])]⟩) ?_
    refine lok_seq ?_
    replace H0 := req_some H0
    obtain ⟨q_14, H0⟩ := H0
    refine lok_rt (Env.of E0 [⟨some 46, 27, [.one (.p (.sl 1 (List.map encI y7))), .one (.p (pi (IntKind.i64.wrap (Int.tmod most (30 : Int)))))], [], [.one (.p (pi ((boundary_Check y7 (IntKind.i64.wrap (Int.tmod most (30 : Int)))).getD default)))], [], (boundary_Check y7 (IntKind.i64.wrap (Int.tmod most (30 : Int)))).isSome = true, fun h => ok_boundary_Check y7 (IntKind.i64.wrap (Int.tmod most (30 : Int))) _ (isSome_get h), []⟩]) (⟨72, mkS [(6, .x (.one (.ptr 106 0))), (7, .x (.one (.p (pi (IntKind.i64.wrap (Int.tmod most (30 : Int))))))), (8, .x (.one (.p (.sl 1 (List.map encI y5))))), (9, .x (.one (.p (.sl 1 (List.map encI y7))))), (48, .x (.one (.p (.val (.bool (((y8 != (0 : Int)) || ((y7.length : Int) != (y5.length : Int))) || (((boundary_Check y7 (IntKind.i64.wrap (Int.tmod most (30 : Int)))).getD default) != (0 : Int))))))))], mkH [(106, .var [.p (.sl 4 (List.map enc_api_Point y3.Points))])]⟩) ?_
    refine lok_c (((y8 != (0 : Int)) || ((y7.length : Int) != (y5.length : Int))) || (((boundary_Check y7 (IntKind.i64.wrap (Int.tmod most (30 : Int)))).getD default) != (0 : Int))) ?_ ?_
    · intro b_13
      replace H0 := cpos H0 b_13
      refine lok_rt E0 (⟨72, mkS [(4, .x (.one (.p (.val (.bool false)))))], mkH []⟩) ?_
      refine lok_ret ?_
      obtain rfl := Option.some.inj H0
      try simp only [thenL, blockL]
      exact fin_au _ (.inr rfl) [] (⟨72, mkS [(4, .x (.one (.p (.val (.bool false)))))], mkH []⟩) rfl rfl imp_au
    · intro b_13
      replace H0 := cneg H0 b_13
      refine lok_skip ?_
      try simp only [thenL, blockL, ↓reduceIte, reduceCtorEq]
      refine lok_join (fun x_ : Unit => law35_BoundaryTransfers_j1 = some r_) (fun x_ => ⟨72, mkS [], mkH []⟩) ?hylaw35_BoundaryTransfers_j1 ?hxlaw35_BoundaryTransfers_j1
      case hylaw35_BoundaryTransfers_j1 =>
        rintro _ H0
        try dsimp only at H0 ⊢
        unfold law35_BoundaryTransfers_j1 at H0
        replace H0 := bind_some H0
        obtain ⟨y9, h_6, H0⟩ := H0
        refine lok_rt (Env.of E0 [⟨some 71, 9, [], [], [.one (.p (.val (.bool y9)))], [], True, fun _ => ok_law35_sane y9 h_6, []⟩]) (⟨72, mkS [(4, .x (.one (.p (.val (.bool y9)))))], mkH []⟩) ?_
        refine lok_ret ?_
        obtain rfl := Option.some.inj H0
        try simp only [thenL, blockL]
        exact fin_au _ (.inr rfl) [] (⟨72, mkS [(4, .x (.one (.p (.val (.bool y9)))))], mkH []⟩) rfl rfl imp_au
      case hxlaw35_BoundaryTransfers_j1 =>
        refine lok_rt E0 (⟨72, mkS [(6, .x (.one (.ptr 106 0))), (7, .x (.one (.p (pi (IntKind.i64.wrap (Int.tmod most (30 : Int))))))), (8, .x (.one (.p (.sl 1 (List.map encI y5))))), (9, .x (.one (.p (.sl 1 (List.map encI y7))))), (11, .x (.one (.p (pi (0 : Int)))))], mkH [(106, .var [.p (.sl 4 (List.map enc_api_Point y3.Points))])]⟩) ?_
        refine lok_block ?_
        replace H0 := bind_some H0
        obtain ⟨v_7, hv_7, H0⟩ := H0
        refine lok_iter (fun x_ => ⟨72, mkS [(6, .x (.one (.ptr 106 0))), (7, .x (.one (.p (pi (IntKind.i64.wrap (Int.tmod most (30 : Int))))))), (8, .x (.one (.p (.sl 1 (List.map encI y5))))), (9, .x (.one (.p (.sl 1 (List.map encI y7))))), (11, .x (.one (.p (pi x_))))], mkH [(106, .var [.p (.sl 4 (List.map enc_api_Point y3.Points))])]⟩) hv_7 imp_au ?_
        · rintro m o_1 H1 k_1
          unfold law35_BoundaryTransfers_l2 at H1
          try dsimp only at H1 ⊢
          refine lok_seq ?_
          refine lok_rt E0 (⟨72, mkS [(6, .x (.one (.ptr 106 0))), (7, .x (.one (.p (pi (IntKind.i64.wrap (Int.tmod most (30 : Int))))))), (8, .x (.one (.p (.sl 1 (List.map encI y5))))), (9, .x (.one (.p (.sl 1 (List.map encI y7))))), (11, .x (.one (.p (pi m)))), (51, .x (.one (.p (.val (.bool (decide (m ≤ (IntKind.i64.wrap (Int.tmod most (30 : Int))))))))))], mkH [(106, .var [.p (.sl 4 (List.map enc_api_Point y3.Points))])]⟩) ?_
          refine lok_c (decide (m ≤ (IntKind.i64.wrap (Int.tmod most (30 : Int))))) ?_ ?_
          · intro b_12
            replace H1 := cpos H1 b_12
            refine lok_skip ?_
            try simp only [thenL, blockL, ↓reduceIte, reduceCtorEq]
            refine lok_seq ?_
            refine lok_block ?_
            replace H1 := bind_some H1
            obtain ⟨⟨y10, y11⟩, h_8, H1⟩ := H1
            try dsimp only at H1
            refine lok_rt (Env.of E0 [⟨some 57, 28, [.agg [.p (.sl 4 (List.map enc_api_Point y3.Points))], .one (.p (pi m)), .one (.p (pi (200 : Int)))], [], [.one (.p (pi y10)), .one (.p (pi y11))], [], True, fun _ => ok_conversion_Convert y3 m (200 : Int) (y10, y11) h_8, []⟩]) (⟨72, mkS [(6, .x (.one (.ptr 106 0))), (7, .x (.one (.p (pi (IntKind.i64.wrap (Int.tmod most (30 : Int))))))), (8, .x (.one (.p (.sl 1 (List.map encI y5))))), (9, .x (.one (.p (.sl 1 (List.map encI y7))))), (11, .x (.one (.p (pi m)))), (12, .x (.one (.p (pi y10)))), (13, .x (.one (.p (pi y11))))], mkH [(106, .var [.p (.sl 4 (List.map enc_api_Point y3.Points))])]⟩) ?_
            replace H1 := req_some H1
            obtain ⟨⟨q_10, q_11⟩, H1⟩ := H1
            refine lok_rt (Env.of E0 [⟨some 65, 14, [.one (.p (.sl 1 (List.map encI y7))), .one (.p (pi m))], [], [.one (.p (pi ((boundary_Grade y7 m).getD default)))], [], (boundary_Grade y7 m).isSome = true, fun h => ok_boundary_Grade y7 m _ (isSome_get h), []⟩,
      ⟨some 68, 14, [.one (.p (.sl 1 (List.map encI y5))), .one (.p (pi y10))], [], [.one (.p (pi ((boundary_Grade y5 y10).getD default)))], [], (boundary_Grade y5 y10).isSome = true, fun h => ok_boundary_Grade y5 y10 _ (isSome_get h), []⟩]) (⟨72, mkS [(6, .x (.one (.ptr 106 0))), (7, .x (.one (.p (pi (IntKind.i64.wrap (Int.tmod most (30 : Int))))))), (8, .x (.one (.p (.sl 1 (List.map encI y5))))), (9, .x (.one (.p (.sl 1 (List.map encI y7))))), (11, .x (.one (.p (pi m)))), (70, .x (.one (.p (.val (.bool ((y11 != (0 : Int)) || (((boundary_Grade y7 m).getD default) != ((boundary_Grade y5 y10).getD default))))))))], mkH [(106, .var [.p (.sl 4 (List.map enc_api_Point y3.Points))])]⟩) ?_
            refine lok_c ((y11 != (0 : Int)) || (((boundary_Grade y7 m).getD default) != ((boundary_Grade y5 y10).getD default))) ?_ ?_
            · intro b_9
              replace H1 := cpos H1 b_9
              refine lok_rt E0 (⟨72, mkS [(4, .x (.one (.p (.val (.bool false)))))], mkH []⟩) ?_
              refine lok_ret ?_
              try simp only [thenL, blockL, ↓reduceIte, reduceCtorEq]
              have e_1 := k_1 _ (Option.some.inj H1).symm
              subst e_1
              try dsimp only at H0
              obtain rfl := Option.some.inj H0
              try simp only [thenL, blockL]
              exact fin_au _ (.inr rfl) [] (⟨72, mkS [(4, .x (.one (.p (.val (.bool false)))))], mkH []⟩) rfl rfl imp_au
            · intro b_9
              replace H1 := cneg H1 b_9
              refine lok_skip ?_
              try simp only [thenL, blockL, ↓reduceIte, reduceCtorEq]
              refine lok_rl E0 (⟨72, mkS [(6, .x (.one (.ptr 106 0))), (7, .x (.one (.p (pi (IntKind.i64.wrap (Int.tmod most (30 : Int))))))), (8, .x (.one (.p (.sl 1 (List.map encI y5))))), (9, .x (.one (.p (.sl 1 (List.map encI y7))))), (11, .x (.one (.p (pi (IntKind.i64.wrap (m + (1 : Int)))))))], mkH [(106, .var [.p (.sl 4 (List.map enc_api_Point y3.Points))])]⟩) ?_
              try simp only [thenL, blockL, ↓reduceIte, reduceCtorEq]
              exact ⟨(IntKind.i64.wrap (m + (1 : Int))), (Option.some.inj H1).symm, imp_au⟩
          · intro b_12
            replace H1 := cneg H1 b_12
            refine lok_exit ?_
            try simp only [thenL, blockL, ↓reduceIte, reduceCtorEq]
            have e_1 := k_1 _ (Option.some.inj H1).symm
            subst e_1
            try dsimp only at H0
            try simp only [thenL, blockL, ↓reduceIte, reduceCtorEq]
            exact ⟨(), H0, imp_au⟩
end Go.LS
