/-
  The walks: the functions compute what the plain ones say. Condition: the plain function has a value.
-/
import Derived.Test.YtogfplnonlpmcaaK1
import Derived.Test.YtogfplnonlpmcaaD2
namespace Go.LS
open Go.Proofs
set_option linter.all false
set_option linter.unusedSimpArgs false
set_option linter.unusedVariables false
set_option maxRecDepth 20000

theorem ok_ratio_Add (a : api_Ratio) (b : api_Ratio) (r_ : api_Ratio × Int) (H0 : ratio_Add a b = some r_) : CallOK Try.prog 48 [.agg [.p (pi a.Num), .p (pi a.Den)], .agg [.p (pi b.Num), .p (pi b.Den)]] [] [.agg [.p (pi r_.1.Num), .p (pi r_.1.Den)], .one (.p (pi r_.2))] [] := by
  refine callOK (n := 64) (rs := [.cell 4 36, .tmp 5]) (nb := 0) (V := []) Try.func48 rfl (by kernel_rfl) rfl rfl rfl rfl (Nat.le_of_ble_eq_true rfl) (by decide) ?_
  unfold ratio_Add at H0
  refine lok_rt E0 (⟨64, mkS [(2, .x (.one (.ptr 102 0))), (3, .x (.one (.ptr 103 0))), (4, .x (.one (.ptr 104 0)))], mkH [(102, .var [.p (pi a.Num), .p (pi a.Den)]), (103, .var [.p (pi b.Num), .p (pi b.Den)]), (104, .var [.p (pi (0 : Int)), .p (pi (0 : Int))])]⟩) ?_
  refine lok_seq ?_
  replace H0 := bind_some H0
  obtain ⟨y, h_0, H0⟩ := H0
  replace H0 := req_some H0
  obtain ⟨q_15, H0⟩ := H0
  refine lok_rt (Env.of E0 [⟨some 12, 78, [.agg [.p (pi a.Num), .p (pi a.Den)]], [], [.one (.p (.val (.bool y)))], [], True, fun _ => ok_ratio_Valid a y h_0, []⟩,
      ⟨some 16, 78, [.agg [.p (pi b.Num), .p (pi b.Den)]], [], [.one (.p (.val (.bool ((ratio_Valid b).getD default))))], [], (ratio_Valid b).isSome = true, fun h => ok_ratio_Valid b _ (isSome_get h), []⟩]) (⟨64, mkS [(2, .x (.one (.ptr 102 0))), (3, .x (.one (.ptr 103 0))), (4, .x (.one (.ptr 104 0))), (18, .x (.one (.p (.val (.bool ((!y) || (!((ratio_Valid b).getD default))))))))], mkH [(102, .var [.p (pi a.Num), .p (pi a.Den)]), (103, .var [.p (pi b.Num), .p (pi b.Den)]), (104, .var [.p (pi (0 : Int)), .p (pi (0 : Int))])]⟩) ?_
  refine lok_c ((!y) || (!((ratio_Valid b).getD default))) ?_ ?_
  · intro b_14
    replace H0 := cpos H0 b_14
    refine lok_rt E0 (⟨64, mkS [(4, .x (.one (.ptr 104 0))), (5, .x (.one (.p (pi (1 : Int)))))], mkH [(104, .var [.p (pi (0 : Int)), .p (pi (0 : Int))])]⟩) ?_
    refine lok_ret ?_
    obtain rfl := Option.some.inj H0
    try simp only [thenL, blockL]
    exact fin_au _ (.inr rfl) [] (⟨64, mkS [(4, .x (.one (.ptr 104 0))), (5, .x (.one (.p (pi (1 : Int)))))], mkH [(104, .var [.p (pi (0 : Int)), .p (pi (0 : Int))])]⟩) rfl rfl imp_au
  · intro b_14
    replace H0 := cneg H0 b_14
    refine lok_skip ?_
    try simp only [thenL, blockL, ↓reduceIte, reduceCtorEq]
    refine lok_dt E0 7 (⟨64, mkS [(2, .x (.one (.ptr 102 0))), (3, .x (.one (.ptr 103 0))), (4, .x (.one (.ptr 104 0))), (6, .x (.one (.p (.val (.int .u64 (IntKind.u64.wrap a.Den)))))), (7, .x (.one (.p (.val (.int .u64 (IntKind.u64.wrap b.Den))))))], mkH [(102, .var [.p (pi a.Num), .p (pi a.Den)]), (103, .var [.p (pi b.Num), .p (pi b.Den)]), (104, .var [.p (pi (0 : Int)), .p (pi (0 : Int))])]⟩) (by kernel_rfl) (by kernel_rfl) ?_
    replace H0 := bind_some H0
    obtain ⟨y1, h_1, H0⟩ := H0
    refine lok_rt (Env.of E0 [⟨some 28, 79, [.one (.p (.val (.int .u64 (IntKind.u64.wrap a.Den)))), .one (.p (.val (.int .u64 (IntKind.u64.wrap b.Den))))], [], [.one (.p (.val (.int .u64 y1)))], [], True, fun _ => ok_ratio_gcd (IntKind.u64.wrap a.Den) (IntKind.u64.wrap b.Den) y1 h_1, []⟩]) (⟨64, mkS [(2, .x (.one (.ptr 102 0))), (3, .x (.one (.ptr 103 0))), (4, .x (.one (.ptr 104 0))), (6, .x (.one (.p (.val (.int .u64 (IntKind.u64.wrap a.Den)))))), (7, .x (.one (.p (.val (.int .u64 (IntKind.u64.wrap b.Den)))))), (8, .x (.one (.p (.val (.int .u64 y1)))))], mkH [(102, .var [.p (pi a.Num), .p (pi a.Den)]), (103, .var [.p (pi b.Num), .p (pi b.Den)]), (104, .var [.p (pi (0 : Int)), .p (pi (0 : Int))])]⟩) ?_
    replace H0 := req_some H0
    obtain ⟨q_12, H0⟩ := H0
    replace H0 := bind_some H0
    obtain ⟨y2, h_2, H0⟩ := H0
    replace H0 := req_some H0
    obtain ⟨q_13, H0⟩ := H0
    replace H0 := bind_some H0
    obtain ⟨y3, h_3, H0⟩ := H0
    replace H0 := bind_some H0
    obtain ⟨y4, h_4, H0⟩ := H0
    refine lok_et (Env.of E0 [⟨some 34, 80, [.one (.p (pi a.Num)), .one (.p (.val (.int .u64 (IntKind.u64.wrap (Int.tdiv (IntKind.u64.wrap b.Den) y1)))))], [], [.agg [.p (.val (.bool y2.neg)), .p (.val (.int .u64 y2.abs.hi)), .p (.val (.int .u64 y2.abs.lo))]], [], True, fun _ => ok_ratio_signedProduct a.Num (IntKind.u64.wrap (Int.tdiv (IntKind.u64.wrap b.Den) y1)) y2 h_2, []⟩,
      ⟨some 40, 80, [.one (.p (pi b.Num)), .one (.p (.val (.int .u64 (IntKind.u64.wrap (Int.tdiv (IntKind.u64.wrap a.Den) y1)))))], [], [.agg [.p (.val (.bool y3.neg)), .p (.val (.int .u64 y3.abs.hi)), .p (.val (.int .u64 y3.abs.lo))]], [], True, fun _ => ok_ratio_signedProduct b.Num (IntKind.u64.wrap (Int.tdiv (IntKind.u64.wrap a.Den) y1)) y3 h_3, []⟩,
      ⟨some 41, 81, [.agg [.p (.val (.bool y2.neg)), .p (.val (.int .u64 y2.abs.hi)), .p (.val (.int .u64 y2.abs.lo))], .agg [.p (.val (.bool y3.neg)), .p (.val (.int .u64 y3.abs.hi)), .p (.val (.int .u64 y3.abs.lo))]], [], [.agg [.p (.val (.bool y4.neg)), .p (.val (.int .u64 y4.abs.hi)), .p (.val (.int .u64 y4.abs.lo))]], [], True, fun _ => ok_ratio_signed_plus y2 y3 y4 h_4, []⟩]) 64 [⟨[(2, .x (.one (.ptr 102 0)))], [], [(29, .x (.one (.ptr 102 0)))], [], none⟩,
      ⟨[(29, .x (.one (.ptr 102 0)))], [(102, some (.var [.p (pi a.Num), .p (pi a.Den)]))], [(30, .x (.one (.p (pi a.Num))))], [], none⟩,
      ⟨[(7, .x (.one (.p (.val (.int .u64 (IntKind.u64.wrap b.Den))))))], [], [(31, .x (.one (.p (.val (.int .u64 (IntKind.u64.wrap b.Den))))))], [], none⟩,
      ⟨[(8, .x (.one (.p (.val (.int .u64 y1)))))], [], [(32, .x (.one (.p (.val (.int .u64 y1)))))], [], none⟩,
      ⟨[(31, .x (.one (.p (.val (.int .u64 (IntKind.u64.wrap b.Den)))))), (32, .x (.one (.p (.val (.int .u64 y1)))))], [], [(33, .x (.one (.p (.val (.int .u64 (IntKind.u64.wrap (Int.tdiv (IntKind.u64.wrap b.Den) y1)))))))], [], none⟩,
      ⟨[(30, .x (.one (.p (pi a.Num)))), (33, .x (.one (.p (.val (.int .u64 (IntKind.u64.wrap (Int.tdiv (IntKind.u64.wrap b.Den) y1)))))))], [], [(34, .x (.agg [.p (.val (.bool y2.neg)), .p (.val (.int .u64 y2.abs.hi)), .p (.val (.int .u64 y2.abs.lo))]))], [], none⟩,
      ⟨[(3, .x (.one (.ptr 103 0)))], [], [(35, .x (.one (.ptr 103 0)))], [], none⟩,
      ⟨[(35, .x (.one (.ptr 103 0)))], [(103, some (.var [.p (pi b.Num), .p (pi b.Den)]))], [(36, .x (.one (.p (pi b.Num))))], [], none⟩,
      ⟨[(6, .x (.one (.p (.val (.int .u64 (IntKind.u64.wrap a.Den))))))], [], [(37, .x (.one (.p (.val (.int .u64 (IntKind.u64.wrap a.Den))))))], [], none⟩,
      ⟨[(8, .x (.one (.p (.val (.int .u64 y1)))))], [], [(38, .x (.one (.p (.val (.int .u64 y1)))))], [], none⟩,
      ⟨[(37, .x (.one (.p (.val (.int .u64 (IntKind.u64.wrap a.Den)))))), (38, .x (.one (.p (.val (.int .u64 y1)))))], [], [(39, .x (.one (.p (.val (.int .u64 (IntKind.u64.wrap (Int.tdiv (IntKind.u64.wrap a.Den) y1)))))))], [], none⟩,
      ⟨[(36, .x (.one (.p (pi b.Num)))), (39, .x (.one (.p (.val (.int .u64 (IntKind.u64.wrap (Int.tdiv (IntKind.u64.wrap a.Den) y1)))))))], [], [(40, .x (.agg [.p (.val (.bool y3.neg)), .p (.val (.int .u64 y3.abs.hi)), .p (.val (.int .u64 y3.abs.lo))]))], [], none⟩,
      ⟨[(34, .x (.agg [.p (.val (.bool y2.neg)), .p (.val (.int .u64 y2.abs.hi)), .p (.val (.int .u64 y2.abs.lo))])), (40, .x (.agg [.p (.val (.bool y3.neg)), .p (.val (.int .u64 y3.abs.hi)), .p (.val (.int .u64 y3.abs.lo))]))], [], [(41, .x (.agg [.p (.val (.bool y4.neg)), .p (.val (.int .u64 y4.abs.hi)), .p (.val (.int .u64 y4.abs.lo))]))], [], none⟩,
      ⟨[], [(109, none)], [(9, .x (.one (.ptr 109 0)))], [(109, some (.var [.p (.val (.bool false)), .p (.val (.int .u64 (0 : Int))), .p (.val (.int .u64 (0 : Int)))]))], some 109⟩] (⟨64, mkS [(4, .x (.one (.ptr 104 0))), (6, .x (.one (.p (.val (.int .u64 (IntKind.u64.wrap a.Den)))))), (7, .x (.one (.p (.val (.int .u64 (IntKind.u64.wrap b.Den)))))), (8, .x (.one (.p (.val (.int .u64 y1))))), (9, .x (.one (.ptr 109 0)))], mkH [(104, .var [.p (pi (0 : Int)), .p (pi (0 : Int))]), (109, .var [.p (.val (.bool y4.neg)), .p (.val (.int .u64 y4.abs.hi)), .p (.val (.int .u64 y4.abs.lo))])]⟩) (by kernel_rfl) (by kernel_rfl) (by kernel_rfl) rfl rfl rfl ?_
    replace H0 := bind_some H0
    obtain ⟨y5, h_5, H0⟩ := H0
    replace H0 := bind_some H0
    obtain ⟨y6, h_6, H0⟩ := H0
    refine lok_rt (Env.of E0 [⟨some 45, 82, [.agg [.p (.val (.int .u64 y4.abs.hi)), .p (.val (.int .u64 y4.abs.lo))], .one (.p (.val (.int .u64 y1)))], [], [.one (.p (.val (.int .u64 y5)))], [], True, fun _ => ok_ratio_wide_mod y4.abs y1 y5 h_5, []⟩,
      ⟨some 47, 79, [.one (.p (.val (.int .u64 y5))), .one (.p (.val (.int .u64 y1)))], [], [.one (.p (.val (.int .u64 y6)))], [], True, fun _ => ok_ratio_gcd y5 y1 y6 h_6, []⟩]) (⟨64, mkS [(4, .x (.one (.ptr 104 0))), (6, .x (.one (.p (.val (.int .u64 (IntKind.u64.wrap a.Den)))))), (7, .x (.one (.p (.val (.int .u64 (IntKind.u64.wrap b.Den)))))), (8, .x (.one (.p (.val (.int .u64 y1))))), (9, .x (.one (.ptr 109 0))), (10, .x (.one (.p (.val (.int .u64 y6)))))], mkH [(104, .var [.p (pi (0 : Int)), .p (pi (0 : Int))]), (109, .var [.p (.val (.bool y4.neg)), .p (.val (.int .u64 y4.abs.hi)), .p (.val (.int .u64 y4.abs.lo))])]⟩) ?_
    replace H0 := bind_some H0
    obtain ⟨y7, h_7, H0⟩ := H0
    replace H0 := req_some H0
    obtain ⟨⟨q_10, q_11⟩, H0⟩ := H0
    replace H0 := bind_some H0
    obtain ⟨y8, h_8, H0⟩ := H0
    replace H0 := bind_some H0
    obtain ⟨⟨y9, y10⟩, h_9, H0⟩ := H0
    try dsimp only at H0
    refine lok_dt (Env.of E0 [⟨some 53, 84, [.agg [.p (.val (.int .u64 y4.abs.hi)), .p (.val (.int .u64 y4.abs.lo))], .one (.p (.val (.int .u64 y6)))], [], [.agg [.p (.val (.int .u64 y7.hi)), .p (.val (.int .u64 y7.lo))]], [], True, fun _ => ok_ratio_wide_over y4.abs y6 y7 h_7, []⟩,
      ⟨some 60, 85, [.one (.p (.val (.int .u64 (IntKind.u64.wrap (Int.tdiv (IntKind.u64.wrap a.Den) y1))))), .one (.p (.val (.int .u64 (IntKind.u64.wrap (Int.tdiv (IntKind.u64.wrap b.Den) y6)))))], [], [.agg [.p (.val (.int .u64 y8.hi)), .p (.val (.int .u64 y8.lo))]], [], True, fun _ => ok_ratio_product (IntKind.u64.wrap (Int.tdiv (IntKind.u64.wrap a.Den) y1)) (IntKind.u64.wrap (Int.tdiv (IntKind.u64.wrap b.Den) y6)) y8 h_8, []⟩,
      ⟨some 61, 83, [.one (.p (.val (.bool y4.neg))), .agg [.p (.val (.int .u64 y7.hi)), .p (.val (.int .u64 y7.lo))], .agg [.p (.val (.int .u64 y8.hi)), .p (.val (.int .u64 y8.lo))]], [], [.agg [.p (pi y9.Num), .p (pi y9.Den)], .one (.p (pi y10))], [], True, fun _ => ok_ratio_fitted y4.neg y7 y8 (y9, y10) h_9, []⟩]) 16 (⟨64, mkS [(4, .x (.one (.ptr 104 0))), (5, .x (.one (.p (pi y10))))], mkH [(104, .var [.p (pi y9.Num), .p (pi y9.Den)])]⟩) (by kernel_rfl) (by kernel_rfl) ?_
    refine lok_ret ?_
    obtain rfl := Option.some.inj H0
    try simp only [thenL, blockL]
    exact fin_au _ (.inr rfl) [] (⟨64, mkS [(4, .x (.one (.ptr 104 0))), (5, .x (.one (.p (pi y10))))], mkH [(104, .var [.p (pi y9.Num), .p (pi y9.Den)])]⟩) rfl rfl imp_au
theorem ok_ratio_Less (a : api_Ratio) (b : api_Ratio) (r_ : Bool) (H0 : ratio_Less a b = some r_) : CallOK Try.prog 49 [.agg [.p (pi a.Num), .p (pi a.Den)], .agg [.p (pi b.Num), .p (pi b.Den)]] [] [.one (.p (.val (.bool r_)))] [] := by
  refine callOK (n := 9) (rs := [.tmp 4]) (nb := 0) (V := []) Try.func49 rfl (by kernel_rfl) rfl rfl rfl rfl (Nat.le_of_ble_eq_true rfl) (by decide) ?_
  unfold ratio_Less at H0
  refine lok_rt E0 (⟨9, mkS [(2, .x (.one (.ptr 102 0))), (3, .x (.one (.ptr 103 0)))], mkH [(102, .var [.p (pi a.Num), .p (pi a.Den)]), (103, .var [.p (pi b.Num), .p (pi b.Den)])]⟩) ?_
  replace H0 := bind_some H0
  obtain ⟨y, h_0, H0⟩ := H0
  refine lok_rt (Env.of E0 [⟨some 7, 86, [.agg [.p (pi a.Num), .p (pi a.Den)], .agg [.p (pi b.Num), .p (pi b.Den)]], [], [.one (.p (pi y))], [], True, fun _ => ok_ratio_Compare a b y h_0, []⟩]) (⟨9, mkS [(4, .x (.one (.p (.val (.bool (y == (-1 : Int)))))))], mkH []⟩) ?_
  refine lok_ret ?_
  obtain rfl := Option.some.inj H0
  try simp only [thenL, blockL]
  exact fin_au _ (.inr rfl) [] (⟨9, mkS [(4, .x (.one (.p (.val (.bool (y == (-1 : Int)))))))], mkH []⟩) rfl rfl imp_au
theorem ok_aggregate_Exact (a : api_Award) (l : List api_UnitMark) (special : Int) (r_ : api_Ratio × Int) (H0 : aggregate_Exact a l special = some r_) : CallOK Try.prog 21 [.agg [.p (.sl 3 (List.map enc_api_Unit a.Units)), .p (.sl 1 (List.map encI a.Bounds)), .p (pi a.Max)], .one (.p (.sl 3 (List.map enc_api_UnitMark l))), .one (.p (pi special))] [] [.agg [.p (pi r_.1.Num), .p (pi r_.1.Den)], .one (.p (pi r_.2))] [] := by
  refine callOK (n := 76) (rs := [.cell 6 36, .tmp 7]) (nb := 0) (V := []) Try.func21 rfl (by kernel_rfl) rfl rfl rfl rfl (Nat.le_of_ble_eq_true rfl) (by decide) ?_
  unfold aggregate_Exact at H0
  refine lok_rt E0 (⟨76, mkS [(1, .x (.one (.p (.sl 3 (List.map enc_api_UnitMark l))))), (2, .x (.one (.p (pi special)))), (3, .x (.one (.ptr 103 0))), (6, .x (.one (.ptr 106 0)))], mkH [(103, .var [.p (.sl 3 (List.map enc_api_Unit a.Units)), .p (.sl 1 (List.map encI a.Bounds)), .p (pi a.Max)]), (106, .var [.p (pi (0 : Int)), .p (pi (0 : Int))])]⟩) ?_
  refine lok_seq ?_
  replace H0 := bind_some H0
  obtain ⟨y, h_0, H0⟩ := H0
  refine lok_rt (Env.of E0 [⟨some 17, 44, [.agg [.p (.sl 3 (List.map enc_api_Unit a.Units)), .p (.sl 1 (List.map encI a.Bounds)), .p (pi a.Max)], .one (.p (.sl 3 (List.map enc_api_UnitMark l))), .one (.p (pi special))], [], [.one (.p (pi y))], [], True, fun _ => ok_aggregate_checkMarks a l special y h_0, []⟩]) (⟨76, mkS [(1, .x (.one (.p (.sl 3 (List.map enc_api_UnitMark l))))), (2, .x (.one (.p (pi special)))), (3, .x (.one (.ptr 103 0))), (6, .x (.one (.ptr 106 0))), (8, .x (.one (.p (pi y))))], mkH [(103, .var [.p (.sl 3 (List.map enc_api_Unit a.Units)), .p (.sl 1 (List.map encI a.Bounds)), .p (pi a.Max)]), (106, .var [.p (pi (0 : Int)), .p (pi (0 : Int))])]⟩) ?_
  refine lok_rt E0 (⟨76, mkS [(1, .x (.one (.p (.sl 3 (List.map enc_api_UnitMark l))))), (2, .x (.one (.p (pi special)))), (3, .x (.one (.ptr 103 0))), (6, .x (.one (.ptr 106 0))), (8, .x (.one (.p (pi y)))), (19, .x (.one (.p (.val (.bool (y != (0 : Int)))))))], mkH [(103, .var [.p (.sl 3 (List.map enc_api_Unit a.Units)), .p (.sl 1 (List.map encI a.Bounds)), .p (pi a.Max)]), (106, .var [.p (pi (0 : Int)), .p (pi (0 : Int))])]⟩) ?_
  refine lok_c (y != (0 : Int)) ?_ ?_
  · intro b_14
    replace H0 := cpos H0 b_14
    refine lok_rt E0 (⟨76, mkS [(6, .x (.one (.ptr 106 0))), (7, .x (.one (.p (pi y))))], mkH [(106, .var [.p (pi (0 : Int)), .p (pi (0 : Int))])]⟩) ?_
    refine lok_ret ?_
    obtain rfl := Option.some.inj H0
    try simp only [thenL, blockL]
    exact fin_au _ (.inr rfl) [] (⟨76, mkS [(6, .x (.one (.ptr 106 0))), (7, .x (.one (.p (pi y))))], mkH [(106, .var [.p (pi (0 : Int)), .p (pi (0 : Int))])]⟩) rfl rfl imp_au
  · intro b_14
    replace H0 := cneg H0 b_14
    refine lok_skip ?_
    try simp only [thenL, blockL, ↓reduceIte, reduceCtorEq]
    refine lok_seq ?_
    replace H0 := bind_some H0
    obtain ⟨y1, h_1, H0⟩ := H0
    refine lok_rt (Env.of E0 [⟨some 23, 45, [.one (.p (.sl 3 (List.map enc_api_UnitMark l))), .one (.p (pi (3 : Int)))], [], [.one (.p (.val (.bool y1)))], [], True, fun _ => ok_aggregate_has l (3 : Int) y1 h_1, []⟩]) (⟨76, mkS [(1, .x (.one (.p (.sl 3 (List.map enc_api_UnitMark l))))), (2, .x (.one (.p (pi special)))), (3, .x (.one (.ptr 103 0))), (6, .x (.one (.ptr 106 0))), (23, .x (.one (.p (.val (.bool y1)))))], mkH [(103, .var [.p (.sl 3 (List.map enc_api_Unit a.Units)), .p (.sl 1 (List.map encI a.Bounds)), .p (pi a.Max)]), (106, .var [.p (pi (0 : Int)), .p (pi (0 : Int))])]⟩) ?_
    refine lok_c y1 ?_ ?_
    · intro b_13
      replace H0 := cpos H0 b_13
      refine lok_rt E0 (⟨76, mkS [(6, .x (.one (.ptr 106 0))), (7, .x (.one (.p (pi (8 : Int)))))], mkH [(106, .var [.p (pi (0 : Int)), .p (pi (0 : Int))])]⟩) ?_
      refine lok_ret ?_
      obtain rfl := Option.some.inj H0
      try simp only [thenL, blockL]
      exact fin_au _ (.inr rfl) [] (⟨76, mkS [(6, .x (.one (.ptr 106 0))), (7, .x (.one (.p (pi (8 : Int)))))], mkH [(106, .var [.p (pi (0 : Int)), .p (pi (0 : Int))])]⟩) rfl rfl imp_au
    · intro b_13
      replace H0 := cneg H0 b_13
      refine lok_skip ?_
      try simp only [thenL, blockL, ↓reduceIte, reduceCtorEq]
      refine lok_seq ?_
      replace H0 := bind_some H0
      obtain ⟨y2, h_2, H0⟩ := H0
      replace H0 := req_some H0
      obtain ⟨q_12, H0⟩ := H0
      refine lok_rt (Env.of E0 [⟨some 26, 45, [.one (.p (.sl 3 (List.map enc_api_UnitMark l))), .one (.p (pi (0 : Int)))], [], [.one (.p (.val (.bool y2)))], [], True, fun _ => ok_aggregate_has l (0 : Int) y2 h_2, []⟩,
      ⟨some 30, 45, [.one (.p (.sl 3 (List.map enc_api_UnitMark l))), .one (.p (pi (1 : Int)))], [], [.one (.p (.val (.bool ((aggregate_has l (1 : Int)).getD default))))], [], (aggregate_has l (1 : Int)).isSome = true, fun h => ok_aggregate_has l (1 : Int) _ (isSome_get h), []⟩]) (⟨76, mkS [(1, .x (.one (.p (.sl 3 (List.map enc_api_UnitMark l))))), (2, .x (.one (.p (pi special)))), (3, .x (.one (.ptr 103 0))), (6, .x (.one (.ptr 106 0))), (32, .x (.one (.p (.val (.bool ((!y2) && (!((aggregate_has l (1 : Int)).getD default))))))))], mkH [(103, .var [.p (.sl 3 (List.map enc_api_Unit a.Units)), .p (.sl 1 (List.map encI a.Bounds)), .p (pi a.Max)]), (106, .var [.p (pi (0 : Int)), .p (pi (0 : Int))])]⟩) ?_
      refine lok_c ((!y2) && (!((aggregate_has l (1 : Int)).getD default))) ?_ ?_
      · intro b_11
        replace H0 := cpos H0 b_11
        refine lok_rt E0 (⟨76, mkS [(6, .x (.one (.ptr 106 0))), (7, .x (.one (.p (pi (10 : Int)))))], mkH [(106, .var [.p (pi (0 : Int)), .p (pi (0 : Int))])]⟩) ?_
        refine lok_ret ?_
        obtain rfl := Option.some.inj H0
        try simp only [thenL, blockL]
        exact fin_au _ (.inr rfl) [] (⟨76, mkS [(6, .x (.one (.ptr 106 0))), (7, .x (.one (.p (pi (10 : Int)))))], mkH [(106, .var [.p (pi (0 : Int)), .p (pi (0 : Int))])]⟩) rfl rfl imp_au
      · intro b_11
        replace H0 := cneg H0 b_11
        refine lok_skip ?_
        try simp only [thenL, blockL, ↓reduceIte, reduceCtorEq]
        replace H0 := bind_some H0
        obtain ⟨⟨y3, y4⟩, h_3, H0⟩ := H0
        try dsimp only at H0
        refine lok_rt (Env.of E0 [⟨some 39, 46, [.agg [.p (.sl 3 (List.map enc_api_Unit a.Units)), .p (.sl 1 (List.map encI a.Bounds)), .p (pi a.Max)], .one (.p (.sl 3 (List.map enc_api_UnitMark l))), .one (.p (pi a.Max))], [], [.agg [.p (pi y3.Num), .p (pi y3.Den)], .one (.p (pi y4))], [], True, fun _ => ok_aggregate_scaled a l a.Max (y3, y4) h_3, []⟩]) (⟨76, mkS [(2, .x (.one (.p (pi special)))), (3, .x (.one (.ptr 103 0))), (6, .x (.one (.ptr 106 0))), (9, .x (.one (.ptr 109 0))), (10, .x (.one (.p (pi y4))))], mkH [(103, .var [.p (.sl 3 (List.map enc_api_Unit a.Units)), .p (.sl 1 (List.map encI a.Bounds)), .p (pi a.Max)]), (106, .var [.p (pi (0 : Int)), .p (pi (0 : Int))]), (109, .var [.p (pi y3.Num), .p (pi y3.Den)])]⟩) ?_
        refine lok_seq ?_
        refine lok_rt E0 (⟨76, mkS [(2, .x (.one (.p (pi special)))), (3, .x (.one (.ptr 103 0))), (6, .x (.one (.ptr 106 0))), (9, .x (.one (.ptr 109 0))), (10, .x (.one (.p (pi y4)))), (43, .x (.one (.p (.val (.bool (y4 != (0 : Int)))))))], mkH [(103, .var [.p (.sl 3 (List.map enc_api_Unit a.Units)), .p (.sl 1 (List.map encI a.Bounds)), .p (pi a.Max)]), (106, .var [.p (pi (0 : Int)), .p (pi (0 : Int))]), (109, .var [.p (pi y3.Num), .p (pi y3.Den)])]⟩) ?_
        refine lok_c (y4 != (0 : Int)) ?_ ?_
        · intro b_10
          replace H0 := cpos H0 b_10
          refine lok_rt E0 (⟨76, mkS [(6, .x (.one (.ptr 106 0))), (7, .x (.one (.p (pi y4))))], mkH [(106, .var [.p (pi (0 : Int)), .p (pi (0 : Int))])]⟩) ?_
          refine lok_ret ?_
          obtain rfl := Option.some.inj H0
          try simp only [thenL, blockL]
          exact fin_au _ (.inr rfl) [] (⟨76, mkS [(6, .x (.one (.ptr 106 0))), (7, .x (.one (.p (pi y4))))], mkH [(106, .var [.p (pi (0 : Int)), .p (pi (0 : Int))])]⟩) rfl rfl imp_au
        · intro b_10
          replace H0 := cneg H0 b_10
          refine lok_skip ?_
          try simp only [thenL, blockL, ↓reduceIte, reduceCtorEq]
          replace H0 := bind_some H0
          obtain ⟨⟨y5, y6⟩, h_4, H0⟩ := H0
          try dsimp only at H0
          refine lok_rt (Env.of E0 [⟨some 51, 47, [.one (.p (pi (IntKind.i64.wrap (special * a.Max)))), .one (.p (pi (1000 : Int)))], [], [.agg [.p (pi y5.Num), .p (pi y5.Den)], .one (.p (pi y6))], [], True, fun _ => ok_ratio_New (IntKind.i64.wrap (special * a.Max)) (1000 : Int) (y5, y6) h_4, []⟩]) (⟨76, mkS [(3, .x (.one (.ptr 103 0))), (6, .x (.one (.ptr 106 0))), (9, .x (.one (.ptr 109 0))), (10, .x (.one (.p (pi y6)))), (11, .x (.one (.ptr 111 0)))], mkH [(103, .var [.p (.sl 3 (List.map enc_api_Unit a.Units)), .p (.sl 1 (List.map encI a.Bounds)), .p (pi a.Max)]), (106, .var [.p (pi (0 : Int)), .p (pi (0 : Int))]), (109, .var [.p (pi y3.Num), .p (pi y3.Den)]), (111, .var [.p (pi y5.Num), .p (pi y5.Den)])]⟩) ?_
          refine lok_seq ?_
          refine lok_rt E0 (⟨76, mkS [(3, .x (.one (.ptr 103 0))), (6, .x (.one (.ptr 106 0))), (9, .x (.one (.ptr 109 0))), (10, .x (.one (.p (pi y6)))), (11, .x (.one (.ptr 111 0))), (55, .x (.one (.p (.val (.bool (y6 != (0 : Int)))))))], mkH [(103, .var [.p (.sl 3 (List.map enc_api_Unit a.Units)), .p (.sl 1 (List.map encI a.Bounds)), .p (pi a.Max)]), (106, .var [.p (pi (0 : Int)), .p (pi (0 : Int))]), (109, .var [.p (pi y3.Num), .p (pi y3.Den)]), (111, .var [.p (pi y5.Num), .p (pi y5.Den)])]⟩) ?_
          refine lok_c (y6 != (0 : Int)) ?_ ?_
          · intro b_9
            replace H0 := cpos H0 b_9
            refine lok_rt E0 (⟨76, mkS [(6, .x (.one (.ptr 106 0))), (7, .x (.one (.p (pi y6))))], mkH [(106, .var [.p (pi (0 : Int)), .p (pi (0 : Int))])]⟩) ?_
            refine lok_ret ?_
            obtain rfl := Option.some.inj H0
            try simp only [thenL, blockL]
            exact fin_au _ (.inr rfl) [] (⟨76, mkS [(6, .x (.one (.ptr 106 0))), (7, .x (.one (.p (pi y6))))], mkH [(106, .var [.p (pi (0 : Int)), .p (pi (0 : Int))])]⟩) rfl rfl imp_au
          · intro b_9
            replace H0 := cneg H0 b_9
            refine lok_skip ?_
            try simp only [thenL, blockL, ↓reduceIte, reduceCtorEq]
            replace H0 := bind_some H0
            obtain ⟨⟨y7, y8⟩, h_5, H0⟩ := H0
            try dsimp only at H0
            refine lok_rt (Env.of E0 [⟨some 61, 48, [.agg [.p (pi y3.Num), .p (pi y3.Den)], .agg [.p (pi y5.Num), .p (pi y5.Den)]], [], [.agg [.p (pi y7.Num), .p (pi y7.Den)], .one (.p (pi y8))], [], True, fun _ => ok_ratio_Add y3 y5 (y7, y8) h_5, []⟩]) (⟨76, mkS [(3, .x (.one (.ptr 103 0))), (6, .x (.one (.ptr 106 0))), (10, .x (.one (.p (pi y8)))), (12, .x (.one (.ptr 112 0)))], mkH [(103, .var [.p (.sl 3 (List.map enc_api_Unit a.Units)), .p (.sl 1 (List.map encI a.Bounds)), .p (pi a.Max)]), (106, .var [.p (pi (0 : Int)), .p (pi (0 : Int))]), (112, .var [.p (pi y7.Num), .p (pi y7.Den)])]⟩) ?_
            refine lok_seq ?_
            refine lok_rt E0 (⟨76, mkS [(3, .x (.one (.ptr 103 0))), (6, .x (.one (.ptr 106 0))), (10, .x (.one (.p (pi y8)))), (12, .x (.one (.ptr 112 0))), (65, .x (.one (.p (.val (.bool (y8 != (0 : Int)))))))], mkH [(103, .var [.p (.sl 3 (List.map enc_api_Unit a.Units)), .p (.sl 1 (List.map encI a.Bounds)), .p (pi a.Max)]), (106, .var [.p (pi (0 : Int)), .p (pi (0 : Int))]), (112, .var [.p (pi y7.Num), .p (pi y7.Den)])]⟩) ?_
            refine lok_c (y8 != (0 : Int)) ?_ ?_
            · intro b_8
              replace H0 := cpos H0 b_8
              refine lok_rt E0 (⟨76, mkS [(6, .x (.one (.ptr 106 0))), (7, .x (.one (.p (pi y8))))], mkH [(106, .var [.p (pi (0 : Int)), .p (pi (0 : Int))])]⟩) ?_
              refine lok_ret ?_
              obtain rfl := Option.some.inj H0
              try simp only [thenL, blockL]
              exact fin_au _ (.inr rfl) [] (⟨76, mkS [(6, .x (.one (.ptr 106 0))), (7, .x (.one (.p (pi y8))))], mkH [(106, .var [.p (pi (0 : Int)), .p (pi (0 : Int))])]⟩) rfl rfl imp_au
            · intro b_8
              replace H0 := cneg H0 b_8
              refine lok_skip ?_
              try simp only [thenL, blockL, ↓reduceIte, reduceCtorEq]
              refine lok_rt E0 (⟨76, mkS [(6, .x (.one (.ptr 106 0))), (12, .x (.one (.ptr 112 0))), (13, .x (.one (.ptr 113 0)))], mkH [(106, .var [.p (pi (0 : Int)), .p (pi (0 : Int))]), (112, .var [.p (pi y7.Num), .p (pi y7.Den)]), (113, .var [.p (pi a.Max), .p (pi (1 : Int))])]⟩) ?_
              refine lok_seq ?_
              replace H0 := bind_some H0
              obtain ⟨y9, h_6, H0⟩ := H0
              refine lok_rt (Env.of E0 [⟨some 73, 49, [.agg [.p (pi a.Max), .p (pi (1 : Int))], .agg [.p (pi y7.Num), .p (pi y7.Den)]], [], [.one (.p (.val (.bool y9)))], [], True, fun _ => ok_ratio_Less (api_Ratio.mk a.Max (1 : Int)) y7 y9 h_6, []⟩]) (⟨76, mkS [(6, .x (.one (.ptr 106 0))), (12, .x (.one (.ptr 112 0))), (13, .x (.one (.ptr 113 0))), (73, .x (.one (.p (.val (.bool y9)))))], mkH [(106, .var [.p (pi (0 : Int)), .p (pi (0 : Int))]), (112, .var [.p (pi y7.Num), .p (pi y7.Den)]), (113, .var [.p (pi a.Max), .p (pi (1 : Int))])]⟩) ?_
              refine lok_c y9 ?_ ?_
              · intro b_7
                replace H0 := cpos H0 b_7
                refine lok_rt E0 (⟨76, mkS [(6, .x (.one (.ptr 106 0))), (7, .x (.one (.p (pi (0 : Int)))))], mkH [(106, .var [.p (pi a.Max), .p (pi (1 : Int))])]⟩) ?_
                refine lok_ret ?_
                obtain rfl := Option.some.inj H0
                try simp only [thenL, blockL]
                exact fin_au _ (.inr rfl) [] (⟨76, mkS [(6, .x (.one (.ptr 106 0))), (7, .x (.one (.p (pi (0 : Int)))))], mkH [(106, .var [.p (pi a.Max), .p (pi (1 : Int))])]⟩) rfl rfl imp_au
              · intro b_7
                replace H0 := cneg H0 b_7
                refine lok_skip ?_
                try simp only [thenL, blockL, ↓reduceIte, reduceCtorEq]
                refine lok_rt E0 (⟨76, mkS [(6, .x (.one (.ptr 106 0))), (7, .x (.one (.p (pi (0 : Int)))))], mkH [(106, .var [.p (pi y7.Num), .p (pi y7.Den)])]⟩) ?_
                refine lok_ret ?_
                obtain rfl := Option.some.inj H0
                try simp only [thenL, blockL]
                exact fin_au _ (.inr rfl) [] (⟨76, mkS [(6, .x (.one (.ptr 106 0))), (7, .x (.one (.p (pi (0 : Int)))))], mkH [(106, .var [.p (pi y7.Num), .p (pi y7.Den)])]⟩) rfl rfl imp_au
theorem ok_ratio_toRound (floor : Int) (rest : Int) (den : Int) (r_ : Int) (H0 : ratio_toRound floor rest den = some r_) : CallOK Try.prog 94 [.one (.p (pi floor)), .one (.p (pi rest)), .one (.p (pi den))] [] [.one (.p (pi r_))] [] := by
  refine callOK (n := 15) (rs := [.tmp 6]) (nb := 0) (V := []) Try.func94 rfl (by kernel_rfl) rfl rfl rfl rfl (Nat.le_of_ble_eq_true rfl) (by decide) ?_
  unfold ratio_toRound at H0
  refine lok_rt E0 (⟨15, mkS [(0, .x (.one (.p (pi floor)))), (1, .x (.one (.p (pi rest)))), (2, .x (.one (.p (pi den))))], mkH []⟩) ?_
  refine lok_seq ?_
  refine lok_rt E0 (⟨15, mkS [(0, .x (.one (.p (pi floor)))), (11, .x (.one (.p (.val (.bool (decide ((IntKind.i64.wrap (den - rest)) ≤ rest)))))))], mkH []⟩) ?_
  refine lok_c (decide ((IntKind.i64.wrap (den - rest)) ≤ rest)) ?_ ?_
  · intro b_0
    replace H0 := cpos H0 b_0
    refine lok_rt E0 (⟨15, mkS [(6, .x (.one (.p (pi (IntKind.i64.wrap (floor + (1 : Int)))))))], mkH []⟩) ?_
    refine lok_ret ?_
    obtain rfl := Option.some.inj H0
    try simp only [thenL, blockL]
    exact fin_au _ (.inr rfl) [] (⟨15, mkS [(6, .x (.one (.p (pi (IntKind.i64.wrap (floor + (1 : Int)))))))], mkH []⟩) rfl rfl imp_au
  · intro b_0
    replace H0 := cneg H0 b_0
    refine lok_skip ?_
    try simp only [thenL, blockL, ↓reduceIte, reduceCtorEq]
    refine lok_rt E0 (⟨15, mkS [(6, .x (.one (.p (pi floor))))], mkH []⟩) ?_
    refine lok_ret ?_
    obtain rfl := Option.some.inj H0
    try simp only [thenL, blockL]
    exact fin_au _ (.inr rfl) [] (⟨15, mkS [(6, .x (.one (.p (pi floor))))], mkH []⟩) rfl rfl imp_au
theorem ok_ratio_rounded_ratio_toRound (a : api_Ratio) (r_ : Int) (H0 : ratio_rounded_ratio_toRound a = some r_) : CallOK Try.prog 93 [.agg [.p (pi a.Num), .p (pi a.Den)], .one (.fn 94 [])] [] [.one (.p (pi r_))] [] := by
  refine callOK (n := 34) (rs := [.tmp 4]) (nb := 0) (V := []) Try.func93 rfl (by kernel_rfl) rfl rfl rfl rfl (Nat.le_of_ble_eq_true rfl) (by decide) ?_
  unfold ratio_rounded_ratio_toRound at H0
  refine lok_rt E0 (⟨34, mkS [(1, .x (.one (.fn 94 []))), (2, .x (.one (.ptr 102 0)))], mkH [(102, .var [.p (pi a.Num), .p (pi a.Den)])]⟩) ?_
  refine lok_seq ?_
  replace H0 := bind_some H0
  obtain ⟨y, h_0, H0⟩ := H0
  refine lok_rt (Env.of E0 [⟨some 8, 78, [.agg [.p (pi a.Num), .p (pi a.Den)]], [], [.one (.p (.val (.bool y)))], [], True, fun _ => ok_ratio_Valid a y h_0, []⟩]) (⟨34, mkS [(1, .x (.one (.fn 94 []))), (2, .x (.one (.ptr 102 0))), (9, .x (.one (.p (.val (.bool (!y))))))], mkH [(102, .var [.p (pi a.Num), .p (pi a.Den)])]⟩) ?_
  refine lok_c (!y) ?_ ?_
  · intro b_5
    replace H0 := cpos H0 b_5
    refine lok_rt E0 (⟨34, mkS [(4, .x (.one (.p (pi (0 : Int)))))], mkH []⟩) ?_
    refine lok_ret ?_
    obtain rfl := Option.some.inj H0
    try simp only [thenL, blockL]
    exact fin_au _ (.inr rfl) [] (⟨34, mkS [(4, .x (.one (.p (pi (0 : Int)))))], mkH []⟩) rfl rfl imp_au
  · intro b_5
    replace H0 := cneg H0 b_5
    refine lok_skip ?_
    try simp only [thenL, blockL, ↓reduceIte, reduceCtorEq]
    replace H0 := req_some H0
    obtain ⟨q_4, H0⟩ := H0
    refine lok_dt E0 11 (⟨34, mkS [(1, .x (.one (.fn 94 []))), (2, .x (.one (.ptr 102 0))), (5, .x (.one (.p (pi (IntKind.i64.wrap (Int.tdiv a.Num a.Den)))))), (6, .x (.one (.p (pi (Int.tmod a.Num a.Den)))))], mkH [(102, .var [.p (pi a.Num), .p (pi a.Den)])]⟩) (by kernel_rfl) (by kernel_rfl) ?_
    refine lok_join (fun x_ : Int × Int => ratio_rounded_ratio_toRound_j1 a x_.1 x_.2 = some r_) (fun x_ => ⟨34, mkS [(1, .x (.one (.fn 94 []))), (2, .x (.one (.ptr 102 0))), (5, .x (.one (.p (pi x_.1)))), (6, .x (.one (.p (pi x_.2))))], mkH [(102, .var [.p (pi a.Num), .p (pi a.Den)])]⟩) ?hyratio_rounded_ratio_toRound_j1 ?hxratio_rounded_ratio_toRound_j1
    case hyratio_rounded_ratio_toRound_j1 =>
      rintro ⟨floor, rest⟩ H0
      try dsimp only at H0 ⊢
      unfold ratio_rounded_ratio_toRound_j1 at H0
      replace H0 := bind_some H0
      obtain ⟨y1, h_1, H0⟩ := H0
      refine lok_rt (Env.of E0 [⟨some 33, 94, [.one (.p (pi floor)), .one (.p (pi rest)), .one (.p (pi a.Den))], [], [.one (.p (pi y1))], [], True, fun _ => ok_ratio_toRound floor rest a.Den y1 h_1, []⟩]) (⟨34, mkS [(4, .x (.one (.p (pi y1))))], mkH []⟩) ?_
      refine lok_ret ?_
      obtain rfl := Option.some.inj H0
      try simp only [thenL, blockL]
      exact fin_au _ (.inr rfl) [] (⟨34, mkS [(4, .x (.one (.p (pi y1))))], mkH []⟩) rfl rfl imp_au
    case hxratio_rounded_ratio_toRound_j1 =>
      refine lok_rt E0 (⟨34, mkS [(1, .x (.one (.fn 94 []))), (2, .x (.one (.ptr 102 0))), (5, .x (.one (.p (pi (IntKind.i64.wrap (Int.tdiv a.Num a.Den)))))), (6, .x (.one (.p (pi (Int.tmod a.Num a.Den))))), (21, .x (.one (.p (.val (.bool (decide ((Int.tmod a.Num a.Den) < (0 : Int))))))))], mkH [(102, .var [.p (pi a.Num), .p (pi a.Den)])]⟩) ?_
      refine lok_c (decide ((Int.tmod a.Num a.Den) < (0 : Int))) ?_ ?_
      · intro b_3
        replace H0 := cpos H0 b_3
        replace H0 := bindV_some H0
        obtain ⟨floor1, a_2, H0⟩ := H0
        refine lok_dlg E0 7 a_2 (⟨34, mkS [(1, .x (.one (.fn 94 []))), (2, .x (.one (.ptr 102 0))), (5, .x (.one (.p (pi floor1)))), (6, .x (.one (.p (pi (IntKind.i64.wrap ((Int.tmod a.Num a.Den) + a.Den))))))], mkH [(102, .var [.p (pi a.Num), .p (pi a.Den)])]⟩) (by kernel_rfl) (by kernel_rfl) ?_
        try simp only [thenL, blockL, ↓reduceIte, reduceCtorEq]
        exact ⟨(floor1, (IntKind.i64.wrap ((Int.tmod a.Num a.Den) + a.Den))), H0, imp_au⟩
      · intro b_3
        replace H0 := cneg H0 b_3
        refine lok_skip ?_
        try simp only [thenL, blockL, ↓reduceIte, reduceCtorEq]
        exact ⟨((IntKind.i64.wrap (Int.tdiv a.Num a.Den)), (Int.tmod a.Num a.Den)), H0, imp_au⟩
theorem ok_ratio_Round (a : api_Ratio) (r_ : Int) (H0 : ratio_Round a = some r_) : CallOK Try.prog 56 [.agg [.p (pi a.Num), .p (pi a.Den)]] [] [.one (.p (pi r_))] [] := by
  refine callOK (n := 5) (rs := [.tmp 2]) (nb := 0) (V := []) Try.func56 rfl (by kernel_rfl) rfl rfl rfl rfl (Nat.le_of_ble_eq_true rfl) (by decide) ?_
  unfold ratio_Round at H0
  refine lok_rt E0 (⟨5, mkS [(1, .x (.one (.ptr 101 0)))], mkH [(101, .var [.p (pi a.Num), .p (pi a.Den)])]⟩) ?_
  replace H0 := bind_some H0
  obtain ⟨y, h_0, H0⟩ := H0
  refine lok_rt (Env.of E0 [⟨some 4, 93, [.agg [.p (pi a.Num), .p (pi a.Den)], .one (.fn 94 [])], [], [.one (.p (pi y))], [], True, fun _ => ok_ratio_rounded_ratio_toRound a y h_0, []⟩]) (⟨5, mkS [(2, .x (.one (.p (pi y))))], mkH []⟩) ?_
  refine lok_ret ?_
  obtain rfl := Option.some.inj H0
  try simp only [thenL, blockL]
  exact fin_au _ (.inr rfl) [] (⟨5, mkS [(2, .x (.one (.p (pi y))))], mkH []⟩) rfl rfl imp_au
theorem ok_aggregate_Total (a : api_Award) (l : List api_UnitMark) (special : Int) (r_ : Int × Int) (H0 : aggregate_Total a l special = some r_) : CallOK Try.prog 23 [.agg [.p (.sl 3 (List.map enc_api_Unit a.Units)), .p (.sl 1 (List.map encI a.Bounds)), .p (pi a.Max)], .one (.p (.sl 3 (List.map enc_api_UnitMark l))), .one (.p (pi special))] [] [.one (.p (pi r_.1)), .one (.p (pi r_.2))] [] := by
  refine callOK (n := 22) (rs := [.tmp 6, .tmp 7]) (nb := 0) (V := []) Try.func23 rfl (by kernel_rfl) rfl rfl rfl rfl (Nat.le_of_ble_eq_true rfl) (by decide) ?_
  unfold aggregate_Total at H0
  refine lok_rt E0 (⟨22, mkS [(1, .x (.one (.p (.sl 3 (List.map enc_api_UnitMark l))))), (2, .x (.one (.p (pi special)))), (3, .x (.one (.ptr 103 0)))], mkH [(103, .var [.p (.sl 3 (List.map enc_api_Unit a.Units)), .p (.sl 1 (List.map encI a.Bounds)), .p (pi a.Max)])]⟩) ?_
  replace H0 := bind_some H0
  obtain ⟨⟨y, y1⟩, h_0, H0⟩ := H0
  try dsimp only at H0
  refine lok_rt (Env.of E0 [⟨some 14, 21, [.agg [.p (.sl 3 (List.map enc_api_Unit a.Units)), .p (.sl 1 (List.map encI a.Bounds)), .p (pi a.Max)], .one (.p (.sl 3 (List.map enc_api_UnitMark l))), .one (.p (pi special))], [], [.agg [.p (pi y.Num), .p (pi y.Den)], .one (.p (pi y1))], [], True, fun _ => ok_aggregate_Exact a l special (y, y1) h_0, []⟩]) (⟨22, mkS [(8, .x (.one (.ptr 108 0))), (9, .x (.one (.p (pi y1))))], mkH [(108, .var [.p (pi y.Num), .p (pi y.Den)])]⟩) ?_
  refine lok_seq ?_
  refine lok_rt E0 (⟨22, mkS [(8, .x (.one (.ptr 108 0))), (9, .x (.one (.p (pi y1)))), (18, .x (.one (.p (.val (.bool (y1 != (0 : Int)))))))], mkH [(108, .var [.p (pi y.Num), .p (pi y.Den)])]⟩) ?_
  refine lok_c (y1 != (0 : Int)) ?_ ?_
  · intro b_2
    replace H0 := cpos H0 b_2
    refine lok_rt E0 (⟨22, mkS [(6, .x (.one (.p (pi (0 : Int))))), (7, .x (.one (.p (pi y1))))], mkH []⟩) ?_
    refine lok_ret ?_
    obtain rfl := Option.some.inj H0
    try simp only [thenL, blockL]
    exact fin_au _ (.inr rfl) [] (⟨22, mkS [(6, .x (.one (.p (pi (0 : Int))))), (7, .x (.one (.p (pi y1))))], mkH []⟩) rfl rfl imp_au
  · intro b_2
    replace H0 := cneg H0 b_2
    refine lok_skip ?_
    try simp only [thenL, blockL, ↓reduceIte, reduceCtorEq]
    replace H0 := bind_some H0
    obtain ⟨y2, h_1, H0⟩ := H0
    refine lok_rt (Env.of E0 [⟨some 21, 56, [.agg [.p (pi y.Num), .p (pi y.Den)]], [], [.one (.p (pi y2))], [], True, fun _ => ok_ratio_Round y y2 h_1, []⟩]) (⟨22, mkS [(6, .x (.one (.p (pi y2)))), (7, .x (.one (.p (pi (0 : Int)))))], mkH []⟩) ?_
    refine lok_ret ?_
    obtain rfl := Option.some.inj H0
    try simp only [thenL, blockL]
    exact fin_au _ (.inr rfl) [] (⟨22, mkS [(6, .x (.one (.p (pi y2)))), (7, .x (.one (.p (pi (0 : Int)))))], mkH []⟩) rfl rfl imp_au
theorem ok_boundary_Grade (b : List Int) (mark : Int) (r_ : Int) (H0 : boundary_Grade b mark = some r_) : CallOK Try.prog 58 [.one (.p (.sl 1 (List.map encI b))), .one (.p (pi mark))] [] [.one (.p (pi r_))] [] := by
  refine callOK (n := 21) (rs := [.tmp 4]) (nb := 0) (V := []) Try.func58 rfl (by kernel_rfl) rfl rfl rfl rfl (Nat.le_of_ble_eq_true rfl) (by decide) ?_
  unfold boundary_Grade at H0
  refine lok_rt E0 (⟨21, mkS [(0, .x (.one (.p (.sl 1 (List.map encI b))))), (1, .x (.one (.p (pi mark))))], mkH []⟩) ?_
  refine lok_join (fun x_ : Unit => boundary_Grade_j1 b = some r_) (fun x_ => ⟨21, mkS [(0, .x (.one (.p (.sl 1 (List.map encI b)))))], mkH []⟩) ?hyboundary_Grade_j1 ?hxboundary_Grade_j1
  case hyboundary_Grade_j1 =>
    rintro _ H0
    try dsimp only at H0 ⊢
    unfold boundary_Grade_j1 at H0
    refine lok_rt E0 (⟨21, mkS [(4, .x (.one (.p (pi (b.length : Int)))))], mkH []⟩) ?_
    refine lok_ret ?_
    obtain rfl := Option.some.inj H0
    try simp only [thenL, blockL]
    exact fin_au _ (.inr rfl) [] (⟨21, mkS [(4, .x (.one (.p (pi (b.length : Int)))))], mkH []⟩) rfl rfl imp_au
  case hxboundary_Grade_j1 =>
    refine lok_rt E0 (⟨21, mkS [(0, .x (.one (.p (.sl 1 (List.map encI b))))), (1, .x (.one (.p (pi mark)))), (7, .x (.one (.p (.sl 1 (List.map encI b))))), (8, .x (.one (.p (pi (b.length : Int))))), (9, .x (.one (.p (pi (0 : Int)))))], mkH []⟩) ?_
    refine lok_block ?_
    replace H0 := bind_some H0
    obtain ⟨v_0, hv_0, H0⟩ := H0
    refine lok_iter (fun x_ => ⟨21, mkS [(0, .x (.one (.p (.sl 1 (List.map encI b))))), (1, .x (.one (.p (pi mark)))), (7, .x (.one (.p (.sl 1 (List.map encI b))))), (8, .x (.one (.p (pi (b.length : Int))))), (9, .x (.one (.p (pi x_))))], mkH []⟩) hv_0 imp_au ?_
    · rintro v o_1 H1 k_1
      unfold boundary_Grade_l2 at H1
      try dsimp only at H1 ⊢
      refine lok_rt E0 (⟨21, mkS [(0, .x (.one (.p (.sl 1 (List.map encI b))))), (1, .x (.one (.p (pi mark)))), (7, .x (.one (.p (.sl 1 (List.map encI b))))), (8, .x (.one (.p (pi (b.length : Int))))), (9, .x (.one (.p (pi v)))), (10, .x (.one (.p (.val (.bool (decide (v < (b.length : Int))))))))], mkH []⟩) ?_
      refine lok_seq ?_
      refine lok_c (decide (v < (b.length : Int))) ?_ ?_
      · intro b_3
        replace H1 := cpos H1 b_3
        refine lok_skip ?_
        try simp only [thenL, blockL, ↓reduceIte, reduceCtorEq]
        refine lok_seq ?_
        refine lok_block ?_
        replace H1 := req_some H1
        obtain ⟨q_2, H1⟩ := H1
        refine lok_rt E0 (⟨21, mkS [(0, .x (.one (.p (.sl 1 (List.map encI b))))), (1, .x (.one (.p (pi mark)))), (5, .x (.one (.p (pi v)))), (6, .x (.one (.p (pi (ix b v))))), (7, .x (.one (.p (.sl 1 (List.map encI b))))), (8, .x (.one (.p (pi (b.length : Int))))), (9, .x (.one (.p (pi v))))], mkH []⟩) ?_
        refine lok_rt E0 (⟨21, mkS [(0, .x (.one (.p (.sl 1 (List.map encI b))))), (1, .x (.one (.p (pi mark)))), (5, .x (.one (.p (pi v)))), (7, .x (.one (.p (.sl 1 (List.map encI b))))), (8, .x (.one (.p (pi (b.length : Int))))), (9, .x (.one (.p (pi v)))), (16, .x (.one (.p (.val (.bool (decide ((ix b v) ≤ mark)))))))], mkH []⟩) ?_
        refine lok_c (decide ((ix b v) ≤ mark)) ?_ ?_
        · intro b_1
          replace H1 := cpos H1 b_1
          refine lok_rt E0 (⟨21, mkS [(4, .x (.one (.p (pi v))))], mkH []⟩) ?_
          refine lok_ret ?_
          try simp only [thenL, blockL, ↓reduceIte, reduceCtorEq]
          have e_1 := k_1 _ (Option.some.inj H1).symm
          subst e_1
          try dsimp only at H0
          obtain rfl := Option.some.inj H0
          try simp only [thenL, blockL]
          exact fin_au _ (.inr rfl) [] (⟨21, mkS [(4, .x (.one (.p (pi v))))], mkH []⟩) rfl rfl imp_au
        · intro b_1
          replace H1 := cneg H1 b_1
          refine lok_skip ?_
          try simp only [thenL, blockL, ↓reduceIte, reduceCtorEq]
          refine lok_rl E0 (⟨21, mkS [(0, .x (.one (.p (.sl 1 (List.map encI b))))), (1, .x (.one (.p (pi mark)))), (7, .x (.one (.p (.sl 1 (List.map encI b))))), (8, .x (.one (.p (pi (b.length : Int))))), (9, .x (.one (.p (pi (IntKind.i64.wrap (v + (1 : Int)))))))], mkH []⟩) ?_
          try simp only [thenL, blockL, ↓reduceIte, reduceCtorEq]
          exact ⟨(IntKind.i64.wrap (v + (1 : Int))), (Option.some.inj H1).symm, imp_au⟩
      · intro b_3
        replace H1 := cneg H1 b_3
        refine lok_exit ?_
        try simp only [thenL, blockL, ↓reduceIte, reduceCtorEq]
        have e_1 := k_1 _ (Option.some.inj H1).symm
        subst e_1
        try dsimp only at H0
        try simp only [thenL, blockL, ↓reduceIte, reduceCtorEq]
        exact ⟨(), H0, imp_au⟩
theorem ok_aggregate_Decide (a : api_Award) (l : List api_UnitMark) (special : Int) (r_ : Int × Int × Int × Int) (H0 : aggregate_Decide a l special = some r_) : CallOK Try.prog 25 [.agg [.p (.sl 3 (List.map enc_api_Unit a.Units)), .p (.sl 1 (List.map encI a.Bounds)), .p (pi a.Max)], .one (.p (.sl 3 (List.map enc_api_UnitMark l))), .one (.p (pi special))] [] [.one (.p (pi r_.1)), .one (.p (pi r_.2.1)), .one (.p (pi r_.2.2.1)), .one (.p (pi r_.2.2.2))] [] := by
  refine callOK (n := 38) (rs := [.tmp 6, .tmp 7, .tmp 8, .tmp 9]) (nb := 0) (V := []) Try.func25 rfl (by kernel_rfl) rfl rfl rfl rfl (Nat.le_of_ble_eq_true rfl) (by decide) ?_
  unfold aggregate_Decide at H0
  refine lok_rt E0 (⟨38, mkS [(1, .x (.one (.p (.sl 3 (List.map enc_api_UnitMark l))))), (2, .x (.one (.p (pi special)))), (3, .x (.one (.ptr 103 0)))], mkH [(103, .var [.p (.sl 3 (List.map enc_api_Unit a.Units)), .p (.sl 1 (List.map encI a.Bounds)), .p (pi a.Max)])]⟩) ?_
  refine lok_seq ?_
  replace H0 := bind_some H0
  obtain ⟨y, h_0, H0⟩ := H0
  refine lok_rt (Env.of E0 [⟨some 14, 44, [.agg [.p (.sl 3 (List.map enc_api_Unit a.Units)), .p (.sl 1 (List.map encI a.Bounds)), .p (pi a.Max)], .one (.p (.sl 3 (List.map enc_api_UnitMark l))), .one (.p (pi special))], [], [.one (.p (pi y))], [], True, fun _ => ok_aggregate_checkMarks a l special y h_0, []⟩]) (⟨38, mkS [(1, .x (.one (.p (.sl 3 (List.map enc_api_UnitMark l))))), (2, .x (.one (.p (pi special)))), (3, .x (.one (.ptr 103 0))), (10, .x (.one (.p (pi y))))], mkH [(103, .var [.p (.sl 3 (List.map enc_api_Unit a.Units)), .p (.sl 1 (List.map encI a.Bounds)), .p (pi a.Max)])]⟩) ?_
  refine lok_rt E0 (⟨38, mkS [(1, .x (.one (.p (.sl 3 (List.map enc_api_UnitMark l))))), (2, .x (.one (.p (pi special)))), (3, .x (.one (.ptr 103 0))), (10, .x (.one (.p (pi y)))), (16, .x (.one (.p (.val (.bool (y != (0 : Int)))))))], mkH [(103, .var [.p (.sl 3 (List.map enc_api_Unit a.Units)), .p (.sl 1 (List.map encI a.Bounds)), .p (pi a.Max)])]⟩) ?_
  refine lok_c (y != (0 : Int)) ?_ ?_
  · intro b_8
    replace H0 := cpos H0 b_8
    refine lok_rt E0 (⟨38, mkS [(6, .x (.one (.p (pi (0 : Int))))), (7, .x (.one (.p (pi (0 : Int))))), (8, .x (.one (.p (pi (0 : Int))))), (9, .x (.one (.p (pi y))))], mkH []⟩) ?_
    refine lok_ret ?_
    obtain rfl := Option.some.inj H0
    try simp only [thenL, blockL]
    exact fin_au _ (.inr rfl) [] (⟨38, mkS [(6, .x (.one (.p (pi (0 : Int))))), (7, .x (.one (.p (pi (0 : Int))))), (8, .x (.one (.p (pi (0 : Int))))), (9, .x (.one (.p (pi y))))], mkH []⟩) rfl rfl imp_au
  · intro b_8
    replace H0 := cneg H0 b_8
    refine lok_skip ?_
    try simp only [thenL, blockL, ↓reduceIte, reduceCtorEq]
    refine lok_seq ?_
    replace H0 := bind_some H0
    obtain ⟨y1, h_1, H0⟩ := H0
    refine lok_rt (Env.of E0 [⟨some 19, 45, [.one (.p (.sl 3 (List.map enc_api_UnitMark l))), .one (.p (pi (3 : Int)))], [], [.one (.p (.val (.bool y1)))], [], True, fun _ => ok_aggregate_has l (3 : Int) y1 h_1, []⟩]) (⟨38, mkS [(1, .x (.one (.p (.sl 3 (List.map enc_api_UnitMark l))))), (2, .x (.one (.p (pi special)))), (3, .x (.one (.ptr 103 0))), (19, .x (.one (.p (.val (.bool y1)))))], mkH [(103, .var [.p (.sl 3 (List.map enc_api_Unit a.Units)), .p (.sl 1 (List.map encI a.Bounds)), .p (pi a.Max)])]⟩) ?_
    refine lok_c y1 ?_ ?_
    · intro b_7
      replace H0 := cpos H0 b_7
      refine lok_rt E0 (⟨38, mkS [(6, .x (.one (.p (pi (2 : Int))))), (7, .x (.one (.p (pi (0 : Int))))), (8, .x (.one (.p (pi (0 : Int))))), (9, .x (.one (.p (pi (0 : Int)))))], mkH []⟩) ?_
      refine lok_ret ?_
      obtain rfl := Option.some.inj H0
      try simp only [thenL, blockL]
      exact fin_au _ (.inr rfl) [] (⟨38, mkS [(6, .x (.one (.p (pi (2 : Int))))), (7, .x (.one (.p (pi (0 : Int))))), (8, .x (.one (.p (pi (0 : Int))))), (9, .x (.one (.p (pi (0 : Int)))))], mkH []⟩) rfl rfl imp_au
    · intro b_7
      replace H0 := cneg H0 b_7
      refine lok_skip ?_
      try simp only [thenL, blockL, ↓reduceIte, reduceCtorEq]
      refine lok_seq ?_
      replace H0 := bind_some H0
      obtain ⟨y2, h_2, H0⟩ := H0
      refine lok_rt (Env.of E0 [⟨some 21, 45, [.one (.p (.sl 3 (List.map enc_api_UnitMark l))), .one (.p (pi (0 : Int)))], [], [.one (.p (.val (.bool y2)))], [], True, fun _ => ok_aggregate_has l (0 : Int) y2 h_2, []⟩]) (⟨38, mkS [(1, .x (.one (.p (.sl 3 (List.map enc_api_UnitMark l))))), (2, .x (.one (.p (pi special)))), (3, .x (.one (.ptr 103 0))), (22, .x (.one (.p (.val (.bool (!y2))))))], mkH [(103, .var [.p (.sl 3 (List.map enc_api_Unit a.Units)), .p (.sl 1 (List.map encI a.Bounds)), .p (pi a.Max)])]⟩) ?_
      refine lok_c (!y2) ?_ ?_
      · intro b_6
        replace H0 := cpos H0 b_6
        refine lok_rt E0 (⟨38, mkS [(6, .x (.one (.p (pi (1 : Int))))), (7, .x (.one (.p (pi (0 : Int))))), (8, .x (.one (.p (pi (0 : Int))))), (9, .x (.one (.p (pi (0 : Int)))))], mkH []⟩) ?_
        refine lok_ret ?_
        obtain rfl := Option.some.inj H0
        try simp only [thenL, blockL]
        exact fin_au _ (.inr rfl) [] (⟨38, mkS [(6, .x (.one (.p (pi (1 : Int))))), (7, .x (.one (.p (pi (0 : Int))))), (8, .x (.one (.p (pi (0 : Int))))), (9, .x (.one (.p (pi (0 : Int)))))], mkH []⟩) rfl rfl imp_au
      · intro b_6
        replace H0 := cneg H0 b_6
        refine lok_skip ?_
        try simp only [thenL, blockL, ↓reduceIte, reduceCtorEq]
        replace H0 := bind_some H0
        obtain ⟨⟨y3, y4⟩, h_3, H0⟩ := H0
        try dsimp only at H0
        refine lok_rt (Env.of E0 [⟨some 27, 23, [.agg [.p (.sl 3 (List.map enc_api_Unit a.Units)), .p (.sl 1 (List.map encI a.Bounds)), .p (pi a.Max)], .one (.p (.sl 3 (List.map enc_api_UnitMark l))), .one (.p (pi special))], [], [.one (.p (pi y3)), .one (.p (pi y4))], [], True, fun _ => ok_aggregate_Total a l special (y3, y4) h_3, []⟩]) (⟨38, mkS [(3, .x (.one (.ptr 103 0))), (8, .x (.one (.p (pi y3)))), (9, .x (.one (.p (pi y4))))], mkH [(103, .var [.p (.sl 3 (List.map enc_api_Unit a.Units)), .p (.sl 1 (List.map encI a.Bounds)), .p (pi a.Max)])]⟩) ?_
        refine lok_seq ?_
        refine lok_rt E0 (⟨38, mkS [(3, .x (.one (.ptr 103 0))), (8, .x (.one (.p (pi y3)))), (9, .x (.one (.p (pi y4)))), (31, .x (.one (.p (.val (.bool (y4 != (0 : Int)))))))], mkH [(103, .var [.p (.sl 3 (List.map enc_api_Unit a.Units)), .p (.sl 1 (List.map encI a.Bounds)), .p (pi a.Max)])]⟩) ?_
        refine lok_c (y4 != (0 : Int)) ?_ ?_
        · intro b_5
          replace H0 := cpos H0 b_5
          refine lok_rt E0 (⟨38, mkS [(6, .x (.one (.p (pi (0 : Int))))), (7, .x (.one (.p (pi (0 : Int))))), (8, .x (.one (.p (pi (0 : Int))))), (9, .x (.one (.p (pi y4))))], mkH []⟩) ?_
          refine lok_ret ?_
          obtain rfl := Option.some.inj H0
          try simp only [thenL, blockL]
          exact fin_au _ (.inr rfl) [] (⟨38, mkS [(6, .x (.one (.p (pi (0 : Int))))), (7, .x (.one (.p (pi (0 : Int))))), (8, .x (.one (.p (pi (0 : Int))))), (9, .x (.one (.p (pi y4))))], mkH []⟩) rfl rfl imp_au
        · intro b_5
          replace H0 := cneg H0 b_5
          refine lok_skip ?_
          try simp only [thenL, blockL, ↓reduceIte, reduceCtorEq]
          replace H0 := bind_some H0
          obtain ⟨y5, h_4, H0⟩ := H0
          refine lok_rt (Env.of E0 [⟨some 36, 58, [.one (.p (.sl 1 (List.map encI a.Bounds))), .one (.p (pi y3))], [], [.one (.p (pi y5))], [], True, fun _ => ok_boundary_Grade a.Bounds y3 y5 h_4, []⟩]) (⟨38, mkS [(6, .x (.one (.p (pi (0 : Int))))), (7, .x (.one (.p (pi y5)))), (8, .x (.one (.p (pi y3)))), (9, .x (.one (.p (pi (0 : Int)))))], mkH []⟩) ?_
          refine lok_ret ?_
          obtain rfl := Option.some.inj H0
          try simp only [thenL, blockL]
          exact fin_au _ (.inr rfl) [] (⟨38, mkS [(6, .x (.one (.p (pi (0 : Int))))), (7, .x (.one (.p (pi y5)))), (8, .x (.one (.p (pi y3)))), (9, .x (.one (.p (pi (0 : Int)))))], mkH []⟩) rfl rfl imp_au
theorem ok_aggregate_Estimate (a : api_Award) (l : List api_UnitMark) (unit : Int) (r_ : api_Ratio × Int) (H0 : aggregate_Estimate a l unit = some r_) : CallOK Try.prog 27 [.agg [.p (.sl 3 (List.map enc_api_Unit a.Units)), .p (.sl 1 (List.map encI a.Bounds)), .p (pi a.Max)], .one (.p (.sl 3 (List.map enc_api_UnitMark l))), .one (.p (pi unit))] [] [.agg [.p (pi r_.1.Num), .p (pi r_.1.Den)], .one (.p (pi r_.2))] [] := by
  refine callOK (n := 41) (rs := [.cell 6 36, .tmp 7]) (nb := 0) (V := []) Try.func27 rfl (by kernel_rfl) rfl rfl rfl rfl (Nat.le_of_ble_eq_true rfl) (by decide) ?_
  unfold aggregate_Estimate at H0
  refine lok_rt E0 (⟨41, mkS [(1, .x (.one (.p (.sl 3 (List.map enc_api_UnitMark l))))), (2, .x (.one (.p (pi unit)))), (3, .x (.one (.ptr 103 0))), (6, .x (.one (.ptr 106 0)))], mkH [(103, .var [.p (.sl 3 (List.map enc_api_Unit a.Units)), .p (.sl 1 (List.map encI a.Bounds)), .p (pi a.Max)]), (106, .var [.p (pi (0 : Int)), .p (pi (0 : Int))])]⟩) ?_
  refine lok_seq ?_
  refine lok_rt E0 (⟨41, mkS [(1, .x (.one (.p (.sl 3 (List.map enc_api_UnitMark l))))), (2, .x (.one (.p (pi unit)))), (3, .x (.one (.ptr 103 0))), (6, .x (.one (.ptr 106 0))), (18, .x (.one (.p (.val (.bool ((decide (unit < (0 : Int))) || (decide ((a.Units.length : Int) ≤ unit))))))))], mkH [(103, .var [.p (.sl 3 (List.map enc_api_Unit a.Units)), .p (.sl 1 (List.map encI a.Bounds)), .p (pi a.Max)]), (106, .var [.p (pi (0 : Int)), .p (pi (0 : Int))])]⟩) ?_
  refine lok_c ((decide (unit < (0 : Int))) || (decide ((a.Units.length : Int) ≤ unit))) ?_ ?_
  · intro b_4
    replace H0 := cpos H0 b_4
    refine lok_rt E0 (⟨41, mkS [(6, .x (.one (.ptr 106 0))), (7, .x (.one (.p (pi (4 : Int)))))], mkH [(106, .var [.p (pi (0 : Int)), .p (pi (0 : Int))])]⟩) ?_
    refine lok_ret ?_
    obtain rfl := Option.some.inj H0
    try simp only [thenL, blockL]
    exact fin_au _ (.inr rfl) [] (⟨41, mkS [(6, .x (.one (.ptr 106 0))), (7, .x (.one (.p (pi (4 : Int)))))], mkH [(106, .var [.p (pi (0 : Int)), .p (pi (0 : Int))])]⟩) rfl rfl imp_au
  · intro b_4
    replace H0 := cneg H0 b_4
    refine lok_skip ?_
    try simp only [thenL, blockL, ↓reduceIte, reduceCtorEq]
    refine lok_seq ?_
    replace H0 := bind_some H0
    obtain ⟨⟨y, y1⟩, h_0, H0⟩ := H0
    try dsimp only at H0
    refine lok_rt (Env.of E0 [⟨some 23, 21, [.agg [.p (.sl 3 (List.map enc_api_Unit a.Units)), .p (.sl 1 (List.map encI a.Bounds)), .p (pi a.Max)], .one (.p (.sl 3 (List.map enc_api_UnitMark l))), .one (.p (pi (0 : Int)))], [], [.agg [.p (pi y.Num), .p (pi y.Den)], .one (.p (pi y1))], [], True, fun _ => ok_aggregate_Exact a l (0 : Int) (y, y1) h_0, []⟩]) (⟨41, mkS [(1, .x (.one (.p (.sl 3 (List.map enc_api_UnitMark l))))), (2, .x (.one (.p (pi unit)))), (3, .x (.one (.ptr 103 0))), (6, .x (.one (.ptr 106 0))), (9, .x (.one (.p (pi y1))))], mkH [(103, .var [.p (.sl 3 (List.map enc_api_Unit a.Units)), .p (.sl 1 (List.map encI a.Bounds)), .p (pi a.Max)]), (106, .var [.p (pi (0 : Int)), .p (pi (0 : Int))])]⟩) ?_
    refine lok_rt E0 (⟨41, mkS [(1, .x (.one (.p (.sl 3 (List.map enc_api_UnitMark l))))), (2, .x (.one (.p (pi unit)))), (3, .x (.one (.ptr 103 0))), (6, .x (.one (.ptr 106 0))), (9, .x (.one (.p (pi y1)))), (27, .x (.one (.p (.val (.bool (y1 != (0 : Int)))))))], mkH [(103, .var [.p (.sl 3 (List.map enc_api_Unit a.Units)), .p (.sl 1 (List.map encI a.Bounds)), .p (pi a.Max)]), (106, .var [.p (pi (0 : Int)), .p (pi (0 : Int))])]⟩) ?_
    refine lok_c (y1 != (0 : Int)) ?_ ?_
    · intro b_3
      replace H0 := cpos H0 b_3
      refine lok_rt E0 (⟨41, mkS [(6, .x (.one (.ptr 106 0))), (7, .x (.one (.p (pi y1))))], mkH [(106, .var [.p (pi (0 : Int)), .p (pi (0 : Int))])]⟩) ?_
      refine lok_ret ?_
      obtain rfl := Option.some.inj H0
      try simp only [thenL, blockL]
      exact fin_au _ (.inr rfl) [] (⟨41, mkS [(6, .x (.one (.ptr 106 0))), (7, .x (.one (.p (pi y1))))], mkH [(106, .var [.p (pi (0 : Int)), .p (pi (0 : Int))])]⟩) rfl rfl imp_au
    · intro b_3
      replace H0 := cneg H0 b_3
      refine lok_skip ?_
      try simp only [thenL, blockL, ↓reduceIte, reduceCtorEq]
      replace H0 := req_some H0
      obtain ⟨q_2, H0⟩ := H0
      replace H0 := bind_some H0
      obtain ⟨⟨y2, y3⟩, h_1, H0⟩ := H0
      try dsimp only at H0
      refine lok_dt (Env.of E0 [⟨some 38, 46, [.agg [.p (.sl 3 (List.map enc_api_Unit a.Units)), .p (.sl 1 (List.map encI a.Bounds)), .p (pi a.Max)], .one (.p (.sl 3 (List.map enc_api_UnitMark l))), .one (.p (pi ((ix a.Units unit).Max)))], [], [.agg [.p (pi y2.Num), .p (pi y2.Den)], .one (.p (pi y3))], [], True, fun _ => ok_aggregate_scaled a l ((ix a.Units unit).Max) (y2, y3) h_1, []⟩]) 11 (⟨41, mkS [(6, .x (.one (.ptr 106 0))), (7, .x (.one (.p (pi y3))))], mkH [(106, .var [.p (pi y2.Num), .p (pi y2.Den)])]⟩) (by kernel_rfl) (by kernel_rfl) ?_
      refine lok_ret ?_
      obtain rfl := Option.some.inj H0
      try simp only [thenL, blockL]
      exact fin_au _ (.inr rfl) [] (⟨41, mkS [(6, .x (.one (.ptr 106 0))), (7, .x (.one (.p (pi y3))))], mkH [(106, .var [.p (pi y2.Num), .p (pi y2.Den)])]⟩) rfl rfl imp_au
theorem ok_law36_sane  (r_ : Bool) (H0 : law36_sane = some r_) : CallOK Try.prog 11 [] [] [.one (.p (.val (.bool r_)))] [] := by
  refine callOK (n := 82) (rs := [.tmp 0]) (nb := 0) (V := []) Try.func11 rfl (by kernel_rfl) rfl rfl rfl rfl (Nat.le_of_ble_eq_true rfl) (by decide) ?_
  unfold law36_sane at H0
  refine lok_rt E0 (⟨82, mkS [], mkH []⟩) ?_
  refine lok_rt E0 (⟨82, mkS [(1, .x (.one (.ptr 101 0)))], mkH [(101, .var [.fl 3 (List.map enc_api_Unit ([(api_Unit.mk (0 : Int) (60 : Int) (50 : Int)), (api_Unit.mk (1 : Int) (40 : Int) (100 : Int))])), .fl 1 (List.map encI ([(60 : Int), (50 : Int)])), .p (pi (100 : Int))])]⟩) ?_
  replace H0 := bind_some H0
  obtain ⟨y, h_0, H0⟩ := H0
  replace H0 := bind_some H0
  obtain ⟨y1, h_1, H0⟩ := H0
  refine lok_rt (Env.of E0 [⟨some 16, 17, [.one (.p (pi (25 : Int)))], [], [.agg [.p (pi y.Num), .p (pi y.Den)]], [], True, fun _ => ok_law36_whole (25 : Int) y h_0, []⟩,
      ⟨some 18, 17, [.one (.p (pi (80 : Int)))], [], [.agg [.p (pi y1.Num), .p (pi y1.Den)]], [], True, fun _ => ok_law36_whole (80 : Int) y1 h_1, []⟩]) (⟨82, mkS [(1, .x (.one (.ptr 101 0))), (2, .x (.one (.fl 3 (List.map enc_api_UnitMark ([(api_UnitMark.mk (0 : Int) y), (api_UnitMark.mk (0 : Int) y1)])))))], mkH [(101, .var [.fl 3 (List.map enc_api_Unit ([(api_Unit.mk (0 : Int) (60 : Int) (50 : Int)), (api_Unit.mk (1 : Int) (40 : Int) (100 : Int))])), .fl 1 (List.map encI ([(60 : Int), (50 : Int)])), .p (pi (100 : Int))])]⟩) ?_
  replace H0 := bind_some H0
  obtain ⟨⟨y2, y3⟩, h_2, H0⟩ := H0
  try dsimp only at H0
  refine lok_rt (Env.of E0 [⟨some 24, 23, [.agg [.p (.sl 3 (List.map enc_api_Unit ([(api_Unit.mk (0 : Int) (60 : Int) (50 : Int)), (api_Unit.mk (1 : Int) (40 : Int) (100 : Int))]))), .p (.sl 1 (List.map encI ([(60 : Int), (50 : Int)]))), .p (pi (100 : Int))], .one (.p (.sl 3 (List.map enc_api_UnitMark ([(api_UnitMark.mk (0 : Int) y), (api_UnitMark.mk (0 : Int) y1)])))), .one (.p (pi (0 : Int)))], [], [.one (.p (pi y2)), .one (.p (pi y3))], [], True, fun _ => ok_aggregate_Total (api_Award.mk ([(api_Unit.mk (0 : Int) (60 : Int) (50 : Int)), (api_Unit.mk (1 : Int) (40 : Int) (100 : Int))]) ([(60 : Int), (50 : Int)]) (100 : Int)) ([(api_UnitMark.mk (0 : Int) y), (api_UnitMark.mk (0 : Int) y1)]) (0 : Int) (y2, y3) h_2, []⟩]) (⟨82, mkS [(1, .x (.one (.ptr 101 0))), (2, .x (.one (.fl 3 (List.map enc_api_UnitMark ([(api_UnitMark.mk (0 : Int) y), (api_UnitMark.mk (0 : Int) y1)]))))), (3, .x (.one (.p (pi y2)))), (4, .x (.one (.p (pi y3))))], mkH [(101, .var [.fl 3 (List.map enc_api_Unit ([(api_Unit.mk (0 : Int) (60 : Int) (50 : Int)), (api_Unit.mk (1 : Int) (40 : Int) (100 : Int))])), .fl 1 (List.map encI ([(60 : Int), (50 : Int)])), .p (pi (100 : Int))])]⟩) ?_
  replace H0 := req_some H0
  obtain ⟨q_9, H0⟩ := H0
  replace H0 := bind_some H0
  obtain ⟨y4, h_3, H0⟩ := H0
  replace H0 := bind_some H0
  obtain ⟨⟨y5, y6, y7, y8⟩, h_4, H0⟩ := H0
  try dsimp only at H0
  refine lok_dt (Env.of E0 [⟨some 32, 17, [.one (.p (pi (0 : Int)))], [], [.agg [.p (pi y4.Num), .p (pi y4.Den)]], [], True, fun _ => ok_law36_whole (0 : Int) y4 h_3, []⟩,
      ⟨some 35, 25, [.agg [.p (.sl 3 (List.map enc_api_Unit ([(api_Unit.mk (0 : Int) (60 : Int) (50 : Int)), (api_Unit.mk (1 : Int) (40 : Int) (100 : Int))]))), .p (.sl 1 (List.map encI ([(60 : Int), (50 : Int)]))), .p (pi (100 : Int))], .one (.p (.sl 3 (List.map enc_api_UnitMark ([(api_UnitMark.mk (0 : Int) y), (api_UnitMark.mk (2 : Int) y4)])))), .one (.p (pi (0 : Int)))], [], [.one (.p (pi y5)), .one (.p (pi y6)), .one (.p (pi y7)), .one (.p (pi y8))], [], True, fun _ => ok_aggregate_Decide (api_Award.mk ([(api_Unit.mk (0 : Int) (60 : Int) (50 : Int)), (api_Unit.mk (1 : Int) (40 : Int) (100 : Int))]) ([(60 : Int), (50 : Int)]) (100 : Int)) ([(api_UnitMark.mk (0 : Int) y), (api_UnitMark.mk (2 : Int) y4)]) (0 : Int) (y5, y6, y7, y8) h_4, []⟩]) 16 (⟨82, mkS [(1, .x (.one (.ptr 101 0))), (2, .x (.one (.fl 3 (List.map enc_api_UnitMark ([(api_UnitMark.mk (0 : Int) y), (api_UnitMark.mk (0 : Int) y1)]))))), (3, .x (.one (.p (pi y2)))), (4, .x (.one (.p (pi y3)))), (5, .x (.one (.p (pi y5)))), (6, .x (.one (.p (pi y6)))), (7, .x (.one (.p (pi y7)))), (8, .x (.one (.p (pi y8))))], mkH [(101, .var [.fl 3 (List.map enc_api_Unit ([(api_Unit.mk (0 : Int) (60 : Int) (50 : Int)), (api_Unit.mk (1 : Int) (40 : Int) (100 : Int))])), .fl 1 (List.map encI ([(60 : Int), (50 : Int)])), .p (pi (100 : Int))])]⟩) (by kernel_rfl) (by kernel_rfl) ?_
  replace H0 := req_some H0
  obtain ⟨q_8, H0⟩ := H0
  replace H0 := bind_some H0
  obtain ⟨y9, h_5, H0⟩ := H0
  replace H0 := bind_some H0
  obtain ⟨⟨y10, y11⟩, h_6, H0⟩ := H0
  try dsimp only at H0
  refine lok_et (Env.of E0 [⟨some 45, 17, [.one (.p (pi (0 : Int)))], [], [.agg [.p (pi y9.Num), .p (pi y9.Den)]], [], True, fun _ => ok_law36_whole (0 : Int) y9 h_5, []⟩,
      ⟨some 48, 27, [.agg [.p (.sl 3 (List.map enc_api_Unit ([(api_Unit.mk (0 : Int) (60 : Int) (50 : Int)), (api_Unit.mk (1 : Int) (40 : Int) (100 : Int))]))), .p (.sl 1 (List.map encI ([(60 : Int), (50 : Int)]))), .p (pi (100 : Int))], .one (.p (.sl 3 (List.map enc_api_UnitMark ([(api_UnitMark.mk (0 : Int) y), (api_UnitMark.mk (2 : Int) y9)])))), .one (.p (pi (1 : Int)))], [], [.agg [.p (pi y10.Num), .p (pi y10.Den)], .one (.p (pi y11))], [], True, fun _ => ok_aggregate_Estimate (api_Award.mk ([(api_Unit.mk (0 : Int) (60 : Int) (50 : Int)), (api_Unit.mk (1 : Int) (40 : Int) (100 : Int))]) ([(60 : Int), (50 : Int)]) (100 : Int)) ([(api_UnitMark.mk (0 : Int) y), (api_UnitMark.mk (2 : Int) y9)]) (1 : Int) (y10, y11) h_6, []⟩]) 82 [⟨[(1, .x (.one (.ptr 101 0)))], [(101, some (.var [.fl 3 (List.map enc_api_Unit ([(api_Unit.mk (0 : Int) (60 : Int) (50 : Int)), (api_Unit.mk (1 : Int) (40 : Int) (100 : Int))])), .fl 1 (List.map encI ([(60 : Int), (50 : Int)])), .p (pi (100 : Int))]))], [(41, .x (.agg [.fl 3 (List.map enc_api_Unit ([(api_Unit.mk (0 : Int) (60 : Int) (50 : Int)), (api_Unit.mk (1 : Int) (40 : Int) (100 : Int))])), .fl 1 (List.map encI ([(60 : Int), (50 : Int)])), .p (pi (100 : Int))]))], [], none⟩,
      ⟨[(2, .x (.one (.fl 3 (List.map enc_api_UnitMark ([(api_UnitMark.mk (0 : Int) y), (api_UnitMark.mk (0 : Int) y1)])))))], [], [(42, .x (.one (.fl 3 (List.map enc_api_UnitMark ([(api_UnitMark.mk (0 : Int) y), (api_UnitMark.mk (0 : Int) y1)])))))], [], none⟩,
      ⟨[(42, .x (.one (.fl 3 (List.map enc_api_UnitMark ([(api_UnitMark.mk (0 : Int) y), (api_UnitMark.mk (0 : Int) y1)])))))], [], [(43, .x (.one (.ep [pi (0 : Int), pi y.Num, pi y.Den])))], [], none⟩,
      ⟨[(43, .x (.one (.ep [pi (0 : Int), pi y.Num, pi y.Den])))], [], [(44, .x (.agg [.p (pi (0 : Int)), .p (pi y.Num), .p (pi y.Den)]))], [], none⟩,
      ⟨[], [], [(45, .x (.agg [.p (pi y9.Num), .p (pi y9.Den)]))], [], none⟩,
      ⟨[(45, .x (.agg [.p (pi y9.Num), .p (pi y9.Den)]))], [], [(46, .x (.agg [.p (pi (2 : Int)), .p (pi y9.Num), .p (pi y9.Den)]))], [], none⟩,
      ⟨[(44, .x (.agg [.p (pi (0 : Int)), .p (pi y.Num), .p (pi y.Den)])), (46, .x (.agg [.p (pi (2 : Int)), .p (pi y9.Num), .p (pi y9.Den)]))], [], [(47, .x (.one (.fl 3 (List.map enc_api_UnitMark ([(api_UnitMark.mk (0 : Int) y), (api_UnitMark.mk (2 : Int) y9)])))))], [], none⟩,
      ⟨[(41, .x (.agg [.fl 3 (List.map enc_api_Unit ([(api_Unit.mk (0 : Int) (60 : Int) (50 : Int)), (api_Unit.mk (1 : Int) (40 : Int) (100 : Int))])), .fl 1 (List.map encI ([(60 : Int), (50 : Int)])), .p (pi (100 : Int))])), (47, .x (.one (.fl 3 (List.map enc_api_UnitMark ([(api_UnitMark.mk (0 : Int) y), (api_UnitMark.mk (2 : Int) y9)])))))], [], [(48, .tup [.agg [.p (pi y10.Num), .p (pi y10.Den)], .one (.p (pi y11))])], [], none⟩,
      ⟨[(48, .tup [.agg [.p (pi y10.Num), .p (pi y10.Den)], .one (.p (pi y11))])], [], [(40, .tup [.agg [.p (pi y10.Num), .p (pi y10.Den)], .one (.p (pi y11))])], [], none⟩,
      ⟨[(40, .tup [.agg [.p (pi y10.Num), .p (pi y10.Den)], .one (.p (pi y11))])], [], [(49, .x (.agg [.p (pi y10.Num), .p (pi y10.Den)]))], [], none⟩,
      ⟨[(40, .tup [.agg [.p (pi y10.Num), .p (pi y10.Den)], .one (.p (pi y11))])], [], [(50, .x (.one (.p (pi y11))))], [], none⟩,
      ⟨[], [(109, none)], [(9, .x (.one (.ptr 109 0)))], [(109, some (.var [.p (pi (0 : Int)), .p (pi (0 : Int))]))], some 109⟩,
      ⟨[(9, .x (.one (.ptr 109 0))), (49, .x (.agg [.p (pi y10.Num), .p (pi y10.Den)]))], [(109, some (.var [.p (pi (0 : Int)), .p (pi (0 : Int))]))], [], [(109, some (.var [.p (pi y10.Num), .p (pi y10.Den)]))], none⟩] (⟨82, mkS [(3, .x (.one (.p (pi y2)))), (4, .x (.one (.p (pi y3)))), (5, .x (.one (.p (pi y5)))), (6, .x (.one (.p (pi y6)))), (7, .x (.one (.p (pi y7)))), (8, .x (.one (.p (pi y8)))), (9, .x (.one (.ptr 109 0))), (10, .x (.one (.p (pi y11))))], mkH [(109, .var [.p (pi y10.Num), .p (pi y10.Den)])]⟩) (by kernel_rfl) (by kernel_rfl) (by kernel_rfl) rfl rfl rfl ?_
  replace H0 := req_some H0
  obtain ⟨q_7, H0⟩ := H0
  refine lok_dt (Env.of E0 [⟨some 79, 17, [.one (.p (pi (50 : Int)))], [], [.agg [.p (pi (((law36_whole (50 : Int)).getD default).Num)), .p (pi (((law36_whole (50 : Int)).getD default).Den))]], [], (law36_whole (50 : Int)).isSome = true, fun h => ok_law36_whole (50 : Int) _ (isSome_get h), []⟩]) 29 (⟨82, mkS [(0, .x (.one (.p (.val (.bool ((((((((y3 == (0 : Int)) && (y8 == (0 : Int))) && (y11 == (0 : Int))) && (y2 == (62 : Int))) && (y5 == (0 : Int))) && (y6 == (1 : Int))) && (y7 == (50 : Int))) && ((y10.Num == ((law36_whole (50 : Int)).getD default).Num) && (y10.Den == ((law36_whole (50 : Int)).getD default).Den))))))))], mkH []⟩) (by kernel_rfl) (by kernel_rfl) ?_
  refine lok_ret ?_
  obtain rfl := Option.some.inj H0
  try simp only [thenL, blockL]
  exact fin_au _ (.inr rfl) [] (⟨82, mkS [(0, .x (.one (.p (.val (.bool ((((((((y3 == (0 : Int)) && (y8 == (0 : Int))) && (y11 == (0 : Int))) && (y2 == (62 : Int))) && (y5 == (0 : Int))) && (y6 == (1 : Int))) && (y7 == (50 : Int))) && ((y10.Num == ((law36_whole (50 : Int)).getD default).Num) && (y10.Den == ((law36_whole (50 : Int)).getD default).Den))))))))], mkH []⟩) rfl rfl imp_au
theorem ok_mark_Roll (l : List Int) (r_ : mark_Dice) (H0 : mark_Roll l = some r_) : CallOK Try.prog 12 [.one (.p (.sl 1 (List.map encI l)))] [] [.one (.ptr 0 0)] [some (.var [.p (.sl 1 (List.map encI r_.L)), .p (pi r_.At)])] := by
  refine callOK (n := 6) (rs := [.tmp 2]) (nb := 0) (V := []) Try.func12 rfl (by kernel_rfl) rfl rfl rfl rfl (Nat.le_of_ble_eq_true rfl) (by decide) ?_
  unfold mark_Roll at H0
  refine lok_rt E0 (⟨6, mkS [(0, .x (.one (.p (.sl 1 (List.map encI l)))))], mkH []⟩) ?_
  refine lok_rt E0 (⟨6, mkS [(2, .x (.one (.ptr 105 0)))], mkH [(105, .var [.p (.sl 1 (List.map encI l)), .p (pi (0 : Int))])]⟩) ?_
  refine lok_ret ?_
  obtain rfl := Option.some.inj H0
  try simp only [thenL, blockL]
  exact fin_nu [105] _ (.inr rfl) [105] (⟨6, mkS [(2, .x (.one (.ptr 105 0)))], mkH [(105, .var [.p (.sl 1 (List.map encI l)), .p (pi (0 : Int))])]⟩) rfl rfl imp_au
theorem ok_mark_Dice_Next (d : mark_Dice) (n : Int) (r_ : Int × mark_Dice) (H0 : mark_Dice_Next d n = some r_) : CallOK Try.prog 14 [.one (.ptr 0 0), .one (.p (pi n))] [.var [.p (.sl 1 (List.map encI d.L)), .p (pi d.At)]] [.one (.p (pi r_.1))] [some (.var [.p (.sl 1 (List.map encI r_.2.L)), .p (pi r_.2.At)])] := by
  refine callOK (n := 45) (rs := [.tmp 4]) (nb := 1) (V := [0]) Try.func14 rfl (by kernel_rfl) rfl rfl rfl rfl (Nat.le_of_ble_eq_true rfl) (by decide) ?_
  unfold mark_Dice_Next at H0
  refine lok_rt E0 (⟨45, mkS [(0, .x (.one (.ptr 0 0))), (1, .x (.one (.p (pi n))))], mkH [(0, .var [.p (.sl 1 (List.map encI d.L)), .p (pi d.At)])]⟩) ?_
  refine lok_seq ?_
  refine lok_dt E0 9 (⟨45, mkS [(0, .x (.one (.ptr 0 0))), (1, .x (.one (.p (pi n)))), (19, .x (.one (.p (.val (.bool ((decide ((d.L.length : Int) ≤ d.At)) || (decide (n < (1 : Int)))))))))], mkH [(0, .var [.p (.sl 1 (List.map encI d.L)), .p (pi d.At)])]⟩) (by kernel_rfl) (by kernel_rfl) ?_
  refine lok_c ((decide ((d.L.length : Int) ≤ d.At)) || (decide (n < (1 : Int)))) ?_ ?_
  · intro b_3
    replace H0 := cpos H0 b_3
    refine lok_rt E0 (⟨45, mkS [(4, .x (.one (.p (pi (0 : Int)))))], mkH [(0, .var [.p (.sl 1 (List.map encI d.L)), .p (pi d.At)])]⟩) ?_
    refine lok_ret ?_
    obtain rfl := Option.some.inj H0
    try simp only [thenL, blockL]
    exact fin_au _ (.inr rfl) [0] (⟨45, mkS [(4, .x (.one (.p (pi (0 : Int)))))], mkH [(0, .var [.p (.sl 1 (List.map encI d.L)), .p (pi d.At)])]⟩) rfl rfl imp_au
  · intro b_3
    replace H0 := cneg H0 b_3
    refine lok_skip ?_
    try simp only [thenL, blockL, ↓reduceIte, reduceCtorEq]
    replace H0 := req_some H0
    obtain ⟨⟨q_1, q_2⟩, H0⟩ := H0
    refine lok_dt E0 11 (⟨45, mkS [(0, .x (.one (.ptr 0 0))), (1, .x (.one (.p (pi n)))), (5, .x (.one (.p (pi (Int.tmod (ix d.L d.At) n)))))], mkH [(0, .var [.p (.sl 1 (List.map encI d.L)), .p (pi d.At)])]⟩) (by kernel_rfl) (by kernel_rfl) ?_
    refine lok_rt E0 (⟨45, mkS [(1, .x (.one (.p (pi n)))), (5, .x (.one (.p (pi (Int.tmod (ix d.L d.At) n)))))], mkH [(0, .var [.p (.sl 1 (List.map encI d.L)), .p (pi (IntKind.i64.wrap (d.At + (1 : Int))))])]⟩) ?_
    refine lok_join (fun x_ : Int => mark_Dice_Next_j1 d x_ = some r_) (fun x_ => ⟨45, mkS [(5, .x (.one (.p (pi x_))))], mkH [(0, .var [.p (.sl 1 (List.map encI d.L)), .p (pi (IntKind.i64.wrap (d.At + (1 : Int))))])]⟩) ?hymark_Dice_Next_j1 ?hxmark_Dice_Next_j1
    case hymark_Dice_Next_j1 =>
      rintro x H0
      try dsimp only at H0 ⊢
      unfold mark_Dice_Next_j1 at H0
      refine lok_rt E0 (⟨45, mkS [(4, .x (.one (.p (pi x))))], mkH [(0, .var [.p (.sl 1 (List.map encI d.L)), .p (pi (IntKind.i64.wrap (d.At + (1 : Int))))])]⟩) ?_
      refine lok_ret ?_
      obtain rfl := Option.some.inj H0
      try simp only [thenL, blockL]
      exact fin_au _ (.inr rfl) [0] (⟨45, mkS [(4, .x (.one (.p (pi x))))], mkH [(0, .var [.p (.sl 1 (List.map encI d.L)), .p (pi (IntKind.i64.wrap (d.At + (1 : Int))))])]⟩) rfl rfl imp_au
    case hxmark_Dice_Next_j1 =>
      refine lok_rt E0 (⟨45, mkS [(1, .x (.one (.p (pi n)))), (5, .x (.one (.p (pi (Int.tmod (ix d.L d.At) n))))), (40, .x (.one (.p (.val (.bool (decide ((Int.tmod (ix d.L d.At) n) < (0 : Int))))))))], mkH [(0, .var [.p (.sl 1 (List.map encI d.L)), .p (pi (IntKind.i64.wrap (d.At + (1 : Int))))])]⟩) ?_
      refine lok_c (decide ((Int.tmod (ix d.L d.At) n) < (0 : Int))) ?_ ?_
      · intro b_0
        replace H0 := cpos H0 b_0
        refine lok_rl E0 (⟨45, mkS [(5, .x (.one (.p (pi (IntKind.i64.wrap ((Int.tmod (ix d.L d.At) n) + n))))))], mkH [(0, .var [.p (.sl 1 (List.map encI d.L)), .p (pi (IntKind.i64.wrap (d.At + (1 : Int))))])]⟩) ?_
        try simp only [thenL, blockL, ↓reduceIte, reduceCtorEq]
        exact ⟨(IntKind.i64.wrap ((Int.tmod (ix d.L d.At) n) + n)), H0, imp_au⟩
      · intro b_0
        replace H0 := cneg H0 b_0
        refine lok_skip ?_
        try simp only [thenL, blockL, ↓reduceIte, reduceCtorEq]
        exact ⟨(Int.tmod (ix d.L d.At) n), H0, imp_au⟩
theorem ok_mark_Dice_Pick (d : mark_Dice) (l : List Int) (r_ : Int × mark_Dice) (H0 : mark_Dice_Pick d l = some r_) : CallOK Try.prog 16 [.one (.ptr 0 0), .one (.p (.sl 1 (List.map encI l)))] [.var [.p (.sl 1 (List.map encI d.L)), .p (pi d.At)]] [.one (.p (pi r_.1))] [some (.var [.p (.sl 1 (List.map encI r_.2.L)), .p (pi r_.2.At)])] := by
  refine callOK (n := 12) (rs := [.tmp 4]) (nb := 1) (V := [0]) Try.func16 rfl (by kernel_rfl) rfl rfl rfl rfl (Nat.le_of_ble_eq_true rfl) (by decide) ?_
  unfold mark_Dice_Pick at H0
  refine lok_rt E0 (⟨12, mkS [(0, .x (.one (.ptr 0 0))), (1, .x (.one (.p (.sl 1 (List.map encI l)))))], mkH [(0, .var [.p (.sl 1 (List.map encI d.L)), .p (pi d.At)])]⟩) ?_
  replace H0 := bind_some H0
  obtain ⟨⟨y, y1⟩, h_0, H0⟩ := H0
  try dsimp only at H0
  replace H0 := req_some H0
  obtain ⟨q_1, H0⟩ := H0
  refine lok_rt (Env.of E0 [⟨some 9, 14, [.one (.ptr 0 0), .one (.p (pi (l.length : Int)))], [.var [.p (.sl 1 (List.map encI d.L)), .p (pi d.At)]], [.one (.p (pi y))], [some (.var [.p (.sl 1 (List.map encI y1.L)), .p (pi y1.At)])], True, fun _ => ok_mark_Dice_Next d (l.length : Int) (y, y1) h_0, []⟩]) (⟨12, mkS [(4, .x (.one (.p (pi (ix l y)))))], mkH [(0, .var [.p (.sl 1 (List.map encI y1.L)), .p (pi y1.At)])]⟩) ?_
  refine lok_ret ?_
  obtain rfl := Option.some.inj H0
  try simp only [thenL, blockL]
  exact fin_au _ (.inr rfl) [0] (⟨12, mkS [(4, .x (.one (.p (pi (ix l y)))))], mkH [(0, .var [.p (.sl 1 (List.map encI y1.L)), .p (pi y1.At)])]⟩) rfl rfl imp_au
theorem ok_mark_Dice_Bounds (d : mark_Dice) (most : Int) (r_ : (List Int) × mark_Dice) (H0 : mark_Dice_Bounds d most = some r_) : CallOK Try.prog 36 [.one (.ptr 0 0), .one (.p (pi most))] [.var [.p (.sl 1 (List.map encI d.L)), .p (pi d.At)]] [.one (.p (.sl 1 (List.map encI r_.1)))] [some (.var [.p (.sl 1 (List.map encI r_.2.L)), .p (pi r_.2.At)])] := by
  refine callOK (n := 29) (rs := [.tmp 4]) (nb := 1) (V := [0]) Try.func36 rfl (by kernel_rfl) rfl rfl rfl rfl (Nat.le_of_ble_eq_true rfl) (by decide) ?_
  unfold mark_Dice_Bounds at H0
  refine lok_rt E0 (⟨29, mkS [(0, .x (.one (.ptr 0 0))), (1, .x (.one (.p (pi most))))], mkH [(0, .var [.p (.sl 1 (List.map encI d.L)), .p (pi d.At)])]⟩) ?_
  refine lok_rt E0 (⟨29, mkS [(0, .x (.one (.ptr 0 0))), (1, .x (.one (.p (pi most)))), (5, .x (.one (.vw 105)))], mkH [(0, .var [.p (.sl 1 (List.map encI d.L)), .p (pi d.At)]), (105, .arr 1 (List.map encI ([] : List Int)))]⟩) ?_
  refine lok_rt E0 (⟨29, mkS [(0, .x (.one (.ptr 0 0))), (5, .x (.one (.vw 105))), (6, .x (.one (.p (pi (IntKind.i64.wrap (most + (1 : Int)))))))], mkH [(0, .var [.p (.sl 1 (List.map encI d.L)), .p (pi d.At)]), (105, .arr 1 (List.map encI ([] : List Int)))]⟩) ?_
  refine lok_join (fun x_ : (List Int) × Int × (List Int) => mark_Dice_Bounds_j1 x_.1 x_.2.1 x_.2.2 = some r_) (fun x_ => ⟨29, mkS [(5, .x (.one (.vw 105)))], mkH [(0, .var [.p (.sl 1 (List.map encI x_.1)), .p (pi x_.2.1)]), (105, .arr 1 (List.map encI x_.2.2))]⟩) ?hymark_Dice_Bounds_j1 ?hxmark_Dice_Bounds_j1
  case hymark_Dice_Bounds_j1 =>
    rintro ⟨d1, d2, out⟩ H0
    try dsimp only at H0 ⊢
    unfold mark_Dice_Bounds_j1 at H0
    refine lok_rt E0 (⟨29, mkS [(4, .x (.one (.vw 105)))], mkH [(0, .var [.p (.sl 1 (List.map encI d1)), .p (pi d2)]), (105, .arr 1 (List.map encI out))]⟩) ?_
    refine lok_ret ?_
    obtain rfl := Option.some.inj H0
    try simp only [thenL, blockL]
    exact fin_au _ (.inr rfl) [0] (⟨29, mkS [(4, .x (.one (.p (.sl 1 (List.map encI out)))))], mkH [(0, .var [.p (.sl 1 (List.map encI d1)), .p (pi d2)])]⟩) rfl rfl (Imp.trans (imp_frz 105 1 (List.map encI out)) imp_au)
  case hxmark_Dice_Bounds_j1 =>
    replace H0 := bind_some H0
    obtain ⟨⟨y, y1⟩, h_0, H0⟩ := H0
    try dsimp only at H0
    refine lok_rt (Env.of E0 [⟨some 11, 14, [.one (.ptr 0 0), .one (.p (pi (4 : Int)))], [.var [.p (.sl 1 (List.map encI d.L)), .p (pi d.At)]], [.one (.p (pi y))], [some (.var [.p (.sl 1 (List.map encI y1.L)), .p (pi y1.At)])], True, fun _ => ok_mark_Dice_Next d (4 : Int) (y, y1) h_0, []⟩]) (⟨29, mkS [(0, .x (.one (.ptr 0 0))), (5, .x (.one (.vw 105))), (6, .x (.one (.p (pi (IntKind.i64.wrap (most + (1 : Int))))))), (7, .x (.one (.p (pi (IntKind.i64.wrap ((1 : Int) + y))))))], mkH [(0, .var [.p (.sl 1 (List.map encI y1.L)), .p (pi y1.At)]), (105, .arr 1 (List.map encI ([] : List Int)))]⟩) ?_
    refine lok_block ?_
    replace H0 := bind_some H0
    obtain ⟨v_1, hv_1, H0⟩ := H0
    refine lok_iter (fun x_ => ⟨29, mkS [(0, .x (.one (.ptr 0 0))), (5, .x (.one (.vw 105))), (6, .x (.one (.p (pi x_.1)))), (7, .x (.one (.p (pi x_.2.1))))], mkH [(0, .var [.p (.sl 1 (List.map encI x_.2.2.1)), .p (pi x_.2.2.2.1)]), (105, .arr 1 (List.map encI x_.2.2.2.2))]⟩) hv_1 imp_au ?_
    · rintro ⟨b, i, d3, d4, out1⟩ o_1 H1 k_1
      unfold mark_Dice_Bounds_l2 at H1
      try dsimp only at H1 ⊢
      refine lok_seq ?_
      refine lok_rt E0 (⟨29, mkS [(0, .x (.one (.ptr 0 0))), (5, .x (.one (.vw 105))), (6, .x (.one (.p (pi b)))), (7, .x (.one (.p (pi i)))), (14, .x (.one (.p (.val (.bool (decide ((0 : Int) < i)))))))], mkH [(0, .var [.p (.sl 1 (List.map encI d3)), .p (pi d4)]), (105, .arr 1 (List.map encI out1))]⟩) ?_
      refine lok_c (decide ((0 : Int) < i)) ?_ ?_
      · intro b_4
        replace H1 := cpos H1 b_4
        refine lok_skip ?_
        try simp only [thenL, blockL, ↓reduceIte, reduceCtorEq]
        refine lok_seq ?_
        refine lok_block ?_
        replace H1 := bind_some H1
        obtain ⟨⟨y2, y3⟩, h_2, H1⟩ := H1
        try dsimp only at H1
        refine lok_rt (Env.of E0 [⟨some 22, 14, [.one (.ptr 0 0), .one (.p (pi (IntKind.i64.wrap ((IntKind.i64.wrap (Int.tdiv b (2 : Int))) + (1 : Int)))))], [.var [.p (.sl 1 (List.map encI d3)), .p (pi d4)]], [.one (.p (pi y2))], [some (.var [.p (.sl 1 (List.map encI y3.L)), .p (pi y3.At)])], True, fun _ => ok_mark_Dice_Next (mark_Dice.mk d3 d4) (IntKind.i64.wrap ((IntKind.i64.wrap (Int.tdiv b (2 : Int))) + (1 : Int))) (y2, y3) h_2, []⟩]) (⟨29, mkS [(0, .x (.one (.ptr 0 0))), (5, .x (.one (.vw 105))), (6, .x (.one (.p (pi (IntKind.i64.wrap (b - y2)))))), (7, .x (.one (.p (pi i))))], mkH [(0, .var [.p (.sl 1 (List.map encI y3.L)), .p (pi y3.At)]), (105, .arr 1 (List.map encI out1))]⟩) ?_
        replace H1 := req_some H1
        obtain ⟨q_3, H1⟩ := H1
        refine lok_rl E0 (⟨29, mkS [(0, .x (.one (.ptr 0 0))), (5, .x (.one (.vw 105))), (6, .x (.one (.p (pi (IntKind.i64.wrap (b - y2)))))), (7, .x (.one (.p (pi i))))], mkH [(0, .var [.p (.sl 1 (List.map encI y3.L)), .p (pi y3.At)]), (105, .arr 1 (List.map encI (out1 ++ [(IntKind.i64.wrap (b - y2))])))]⟩) ?_
        try simp only [thenL, blockL, ↓reduceIte, reduceCtorEq]
        refine lok_rl E0 (⟨29, mkS [(0, .x (.one (.ptr 0 0))), (5, .x (.one (.vw 105))), (6, .x (.one (.p (pi (IntKind.i64.wrap (b - y2)))))), (7, .x (.one (.p (pi (IntKind.i64.wrap (i - (1 : Int)))))))], mkH [(0, .var [.p (.sl 1 (List.map encI y3.L)), .p (pi y3.At)]), (105, .arr 1 (List.map encI (out1 ++ [(IntKind.i64.wrap (b - y2))])))]⟩) ?_
        try simp only [thenL, blockL, ↓reduceIte, reduceCtorEq]
        exact ⟨((IntKind.i64.wrap (b - y2)), (IntKind.i64.wrap (i - (1 : Int))), y3.L, y3.At, (out1 ++ [(IntKind.i64.wrap (b - y2))])), (Option.some.inj H1).symm, imp_au⟩
      · intro b_4
        replace H1 := cneg H1 b_4
        refine lok_exit ?_
        try simp only [thenL, blockL, ↓reduceIte, reduceCtorEq]
        have e_1 := k_1 _ (Option.some.inj H1).symm
        subst e_1
        try dsimp only at H0
        try simp only [thenL, blockL, ↓reduceIte, reduceCtorEq]
        exact ⟨(d3, d4, out1), H0, imp_au⟩
theorem ok_mark_Dice_Award (d : mark_Dice) (n : Int) (r_ : api_Award × mark_Dice) (H0 : mark_Dice_Award d n = some r_) : CallOK Try.prog 13 [.one (.ptr 0 0), .one (.p (pi n))] [.var [.p (.sl 1 (List.map encI d.L)), .p (pi d.At)]] [.agg [.p (.sl 3 (List.map enc_api_Unit r_.1.Units)), .p (.sl 1 (List.map encI r_.1.Bounds)), .p (pi r_.1.Max)]] [some (.var [.p (.sl 1 (List.map encI r_.2.L)), .p (pi r_.2.At)])] := by
  refine callOK (n := 35) (rs := [.cell 4 25]) (nb := 1) (V := [0]) Try.func13 rfl (by kernel_rfl) rfl rfl rfl rfl (Nat.le_of_ble_eq_true rfl) (by decide) ?_
  unfold mark_Dice_Award at H0
  refine lok_rt E0 (⟨35, mkS [(0, .x (.one (.ptr 0 0))), (1, .x (.one (.p (pi n)))), (4, .x (.one (.ptr 104 0)))], mkH [(0, .var [.p (.sl 1 (List.map encI d.L)), .p (pi d.At)]), (104, .var [.p .nil, .p .nil, .p (pi (0 : Int))])]⟩) ?_
  replace H0 := bind_some H0
  obtain ⟨⟨y, y1⟩, h_0, H0⟩ := H0
  try dsimp only at H0
  refine lok_rt (Env.of E0 [⟨some 9, 16, [.one (.ptr 0 0), .one (.p (.sl 1 (List.map encI ([(100 : Int), (20 : Int), (60 : Int)]))))], [.var [.p (.sl 1 (List.map encI d.L)), .p (pi d.At)]], [.one (.p (pi y))], [some (.var [.p (.sl 1 (List.map encI y1.L)), .p (pi y1.At)])], True, fun _ => ok_mark_Dice_Pick d ([(100 : Int), (20 : Int), (60 : Int)]) (y, y1) h_0, []⟩]) (⟨35, mkS [(0, .x (.one (.ptr 0 0))), (1, .x (.one (.p (pi n)))), (4, .x (.one (.ptr 104 0))), (5, .x (.one (.ptr 105 0)))], mkH [(0, .var [.p (.sl 1 (List.map encI y1.L)), .p (pi y1.At)]), (104, .var [.p .nil, .p .nil, .p (pi (0 : Int))]), (105, .var [.p .nil, .p .nil, .p (pi y)])]⟩) ?_
  refine lok_join (fun x_ : (List Int) × Int × (List api_Unit) => mark_Dice_Award_j1 y x_.1 x_.2.1 x_.2.2 = some r_) (fun x_ => ⟨35, mkS [(0, .x (.one (.ptr 0 0))), (4, .x (.one (.ptr 104 0))), (5, .x (.one (.ptr 105 0)))], mkH [(0, .var [.p (.sl 1 (List.map encI x_.1)), .p (pi x_.2.1)]), (104, .var [.p .nil, .p .nil, .p (pi (0 : Int))]), (105, .var [.vw 127, .p .nil, .p (pi y)]), (127, .arr 3 (List.map enc_api_Unit x_.2.2))]⟩) ?hymark_Dice_Award_j1 ?hxmark_Dice_Award_j1
  case hymark_Dice_Award_j1 =>
    rintro ⟨d1, d2, w⟩ H0
    try dsimp only at H0 ⊢
    unfold mark_Dice_Award_j1 at H0
    replace H0 := bind_some H0
    obtain ⟨⟨y2, y3⟩, h_1, H0⟩ := H0
    try dsimp only at H0
    refine lok_rt (Env.of E0 [⟨some 32, 36, [.one (.ptr 0 0), .one (.p (pi y))], [.var [.p (.sl 1 (List.map encI d1)), .p (pi d2)]], [.one (.p (.sl 1 (List.map encI y2)))], [some (.var [.p (.sl 1 (List.map encI y3.L)), .p (pi y3.At)])], True, fun _ => ok_mark_Dice_Bounds (mark_Dice.mk d1 d2) y (y2, y3) h_1, []⟩]) (⟨35, mkS [(4, .x (.one (.ptr 104 0))), (5, .x (.one (.ptr 105 0)))], mkH [(0, .var [.p (.sl 1 (List.map encI y3.L)), .p (pi y3.At)]), (104, .var [.p .nil, .p .nil, .p (pi (0 : Int))]), (105, .var [.vw 127, .p (.sl 1 (List.map encI y2)), .p (pi y)]), (127, .arr 3 (List.map enc_api_Unit w))]⟩) ?_
    refine lok_rt E0 (⟨35, mkS [(4, .x (.one (.ptr 104 0)))], mkH [(0, .var [.p (.sl 1 (List.map encI y3.L)), .p (pi y3.At)]), (104, .var [.vw 127, .p (.sl 1 (List.map encI y2)), .p (pi y)]), (127, .arr 3 (List.map enc_api_Unit w))]⟩) ?_
    refine lok_ret ?_
    obtain rfl := Option.some.inj H0
    try simp only [thenL, blockL]
    exact fin_au _ (.inr rfl) [0] (⟨35, mkS [(4, .x (.one (.ptr 104 0)))], mkH [(0, .var [.p (.sl 1 (List.map encI y3.L)), .p (pi y3.At)]), (104, .var [.p (.sl 3 (List.map enc_api_Unit w)), .p (.sl 1 (List.map encI y2)), .p (pi y)])]⟩) rfl rfl (Imp.trans (imp_frz 127 3 (List.map enc_api_Unit w)) imp_au)
  case hxmark_Dice_Award_j1 =>
    refine lok_rt E0 (⟨35, mkS [(0, .x (.one (.ptr 0 0))), (1, .x (.one (.p (pi n)))), (4, .x (.one (.ptr 104 0))), (5, .x (.one (.ptr 105 0))), (6, .x (.one (.p (pi (0 : Int)))))], mkH [(0, .var [.p (.sl 1 (List.map encI y1.L)), .p (pi y1.At)]), (104, .var [.p .nil, .p .nil, .p (pi (0 : Int))]), (105, .var [.p .nil, .p .nil, .p (pi y)])]⟩) ?_
    refine lok_block ?_
    replace H0 := bind_some H0
    obtain ⟨v_2, hv_2, H0⟩ := H0
    refine lok_iter (fun x_ => ⟨35, mkS [(0, .x (.one (.ptr 0 0))), (1, .x (.one (.p (pi n)))), (4, .x (.one (.ptr 104 0))), (5, .x (.one (.ptr 105 0))), (6, .x (.one (.p (pi x_.1))))], mkH [(0, .var [.p (.sl 1 (List.map encI x_.2.1)), .p (pi x_.2.2.1)]), (104, .var [.p .nil, .p .nil, .p (pi (0 : Int))]), (105, .var [.vw 127, .p .nil, .p (pi y)]), (127, .arr 3 (List.map enc_api_Unit x_.2.2.2))]⟩) hv_2 imp_au ?_
    · rintro ⟨i, d3, d4, w1⟩ o_1 H1 k_1
      unfold mark_Dice_Award_l2 at H1
      try dsimp only at H1 ⊢
      refine lok_seq ?_
      refine lok_rt E0 (⟨35, mkS [(0, .x (.one (.ptr 0 0))), (1, .x (.one (.p (pi n)))), (4, .x (.one (.ptr 104 0))), (5, .x (.one (.ptr 105 0))), (6, .x (.one (.p (pi i)))), (13, .x (.one (.p (.val (.bool (decide (i < n)))))))], mkH [(0, .var [.p (.sl 1 (List.map encI d3)), .p (pi d4)]), (104, .var [.p .nil, .p .nil, .p (pi (0 : Int))]), (105, .var [.vw 127, .p .nil, .p (pi y)]), (127, .arr 3 (List.map enc_api_Unit w1))]⟩) ?_
      refine lok_c (decide (i < n)) ?_ ?_
      · intro b_6
        replace H1 := cpos H1 b_6
        refine lok_skip ?_
        try simp only [thenL, blockL, ↓reduceIte, reduceCtorEq]
        refine lok_seq ?_
        refine lok_block ?_
        replace H1 := bind_some H1
        obtain ⟨⟨y4, y5⟩, h_3, H1⟩ := H1
        try dsimp only at H1
        replace H1 := bind_some H1
        obtain ⟨⟨y6, y7⟩, h_4, H1⟩ := H1
        try dsimp only at H1
        replace H1 := req_some H1
        obtain ⟨q_5, H1⟩ := H1
        refine lok_el (Env.of E0 [⟨some 21, 16, [.one (.ptr 0 0), .one (.p (.sl 1 (List.map encI ([(1 : Int), (2 : Int), (60 : Int), (40 : Int)]))))], [.var [.p (.sl 1 (List.map encI d3)), .p (pi d4)]], [.one (.p (pi y4))], [some (.var [.p (.sl 1 (List.map encI y5.L)), .p (pi y5.At)])], True, fun _ => ok_mark_Dice_Pick (mark_Dice.mk d3 d4) ([(1 : Int), (2 : Int), (60 : Int), (40 : Int)]) (y4, y5) h_3, []⟩,
      ⟨some 24, 16, [.one (.ptr 0 0), .one (.p (.sl 1 (List.map encI ([(10 : Int), (12 : Int), (50 : Int)]))))], [.var [.p (.sl 1 (List.map encI y5.L)), .p (pi y5.At)]], [.one (.p (pi y6))], [some (.var [.p (.sl 1 (List.map encI y7.L)), .p (pi y7.At)])], True, fun _ => ok_mark_Dice_Pick y5 ([(10 : Int), (12 : Int), (50 : Int)]) (y6, y7) h_4, []⟩]) 35 [⟨[(5, .x (.one (.ptr 105 0)))], [], [(16, .x (.one (.ptr 105 0)))], [], none⟩,
      ⟨[(16, .x (.one (.ptr 105 0)))], [(105, some (.var [.vw 127, .p .nil, .p (pi y)]))], [(17, .x (.one (.vw 127)))], [], none⟩,
      ⟨[(6, .x (.one (.p (pi i))))], [], [(18, .x (.one (.p (pi i))))], [], none⟩,
      ⟨[(0, .x (.one (.ptr 0 0)))], [], [(19, .x (.one (.ptr 0 0)))], [], none⟩,
      ⟨[], [], [(20, .x (.one (.fl 1 (List.map encI ([(1 : Int), (2 : Int), (60 : Int), (40 : Int)])))))], [], none⟩,
      ⟨[(19, .x (.one (.ptr 0 0))), (20, .x (.one (.fl 1 (List.map encI ([(1 : Int), (2 : Int), (60 : Int), (40 : Int)])))))], [(0, some (.var [.p (.sl 1 (List.map encI d3)), .p (pi d4)]))], [(21, .x (.one (.p (pi y4))))], [(0, some (.var [.p (.sl 1 (List.map encI y5.L)), .p (pi y5.At)]))], none⟩,
      ⟨[(0, .x (.one (.ptr 0 0)))], [], [(22, .x (.one (.ptr 0 0)))], [], none⟩,
      ⟨[], [], [(23, .x (.one (.fl 1 (List.map encI ([(10 : Int), (12 : Int), (50 : Int)])))))], [], none⟩,
      ⟨[(22, .x (.one (.ptr 0 0))), (23, .x (.one (.fl 1 (List.map encI ([(10 : Int), (12 : Int), (50 : Int)])))))], [(0, some (.var [.p (.sl 1 (List.map encI y5.L)), .p (pi y5.At)]))], [(24, .x (.one (.p (pi y6))))], [(0, some (.var [.p (.sl 1 (List.map encI y7.L)), .p (pi y7.At)]))], none⟩,
      ⟨[(18, .x (.one (.p (pi i)))), (21, .x (.one (.p (pi y4)))), (24, .x (.one (.p (pi y6))))], [], [(25, .x (.agg [.p (pi i), .p (pi y4), .p (pi y6)]))], [], none⟩,
      ⟨[(25, .x (.agg [.p (pi i), .p (pi y4), .p (pi y6)]))], [], [(26, .x (.one (.fl 3 (List.map enc_api_Unit ([(api_Unit.mk i y4 y6)])))))], [], none⟩] (⟨35, mkS [(0, .x (.one (.ptr 0 0))), (1, .x (.one (.p (pi n)))), (4, .x (.one (.ptr 104 0))), (5, .x (.one (.ptr 105 0))), (6, .x (.one (.p (pi i))))], mkH [(0, .var [.p (.sl 1 (List.map encI y7.L)), .p (pi y7.At)]), (104, .var [.p .nil, .p .nil, .p (pi (0 : Int))]), (105, .var [.vw 127, .p .nil, .p (pi y)]), (127, .arr 3 (List.map enc_api_Unit (w1 ++ [(api_Unit.mk i y4 y6)])))]⟩) (by kernel_rfl) (by kernel_rfl) (by kernel_rfl) rfl rfl rfl ?_
        try simp only [thenL, blockL, ↓reduceIte, reduceCtorEq]
        refine lok_rl E0 (⟨35, mkS [(0, .x (.one (.ptr 0 0))), (1, .x (.one (.p (pi n)))), (4, .x (.one (.ptr 104 0))), (5, .x (.one (.ptr 105 0))), (6, .x (.one (.p (pi (IntKind.i64.wrap (i + (1 : Int)))))))], mkH [(0, .var [.p (.sl 1 (List.map encI y7.L)), .p (pi y7.At)]), (104, .var [.p .nil, .p .nil, .p (pi (0 : Int))]), (105, .var [.vw 127, .p .nil, .p (pi y)]), (127, .arr 3 (List.map enc_api_Unit (w1 ++ [(api_Unit.mk i y4 y6)])))]⟩) ?_
        try simp only [thenL, blockL, ↓reduceIte, reduceCtorEq]
        exact ⟨((IntKind.i64.wrap (i + (1 : Int))), y7.L, y7.At, (w1 ++ [(api_Unit.mk i y4 y6)])), (Option.some.inj H1).symm, imp_au⟩
      · intro b_6
        replace H1 := cneg H1 b_6
        refine lok_exit ?_
        try simp only [thenL, blockL, ↓reduceIte, reduceCtorEq]
        have e_1 := k_1 _ (Option.some.inj H1).symm
        subst e_1
        try dsimp only at H0
        try simp only [thenL, blockL, ↓reduceIte, reduceCtorEq]
        exact ⟨(d3, d4, w1), H0, imp_au⟩
theorem ok_mark_Dice_Bool (d : mark_Dice) (n : Int) (r_ : Bool × mark_Dice) (H0 : mark_Dice_Bool d n = some r_) : CallOK Try.prog 35 [.one (.ptr 0 0), .one (.p (pi n))] [.var [.p (.sl 1 (List.map encI d.L)), .p (pi d.At)]] [.one (.p (.val (.bool r_.1)))] [some (.var [.p (.sl 1 (List.map encI r_.2.L)), .p (pi r_.2.At)])] := by
  refine callOK (n := 11) (rs := [.tmp 4]) (nb := 1) (V := [0]) Try.func35 rfl (by kernel_rfl) rfl rfl rfl rfl (Nat.le_of_ble_eq_true rfl) (by decide) ?_
  unfold mark_Dice_Bool at H0
  refine lok_rt E0 (⟨11, mkS [(0, .x (.one (.ptr 0 0))), (1, .x (.one (.p (pi n))))], mkH [(0, .var [.p (.sl 1 (List.map encI d.L)), .p (pi d.At)])]⟩) ?_
  replace H0 := bind_some H0
  obtain ⟨⟨y, y1⟩, h_0, H0⟩ := H0
  try dsimp only at H0
  refine lok_rt (Env.of E0 [⟨some 7, 14, [.one (.ptr 0 0), .one (.p (pi n))], [.var [.p (.sl 1 (List.map encI d.L)), .p (pi d.At)]], [.one (.p (pi y))], [some (.var [.p (.sl 1 (List.map encI y1.L)), .p (pi y1.At)])], True, fun _ => ok_mark_Dice_Next d n (y, y1) h_0, []⟩]) (⟨11, mkS [(4, .x (.one (.p (.val (.bool (y == (IntKind.i64.wrap (n - (1 : Int)))))))))], mkH [(0, .var [.p (.sl 1 (List.map encI y1.L)), .p (pi y1.At)])]⟩) ?_
  refine lok_ret ?_
  obtain rfl := Option.some.inj H0
  try simp only [thenL, blockL]
  exact fin_au _ (.inr rfl) [0] (⟨11, mkS [(4, .x (.one (.p (.val (.bool (y == (IntKind.i64.wrap (n - (1 : Int)))))))))], mkH [(0, .var [.p (.sl 1 (List.map encI y1.L)), .p (pi y1.At)])]⟩) rfl rfl imp_au
theorem ok_mark_Dice_Marks (d : mark_Dice) (a : api_Award) (r_ : (List api_UnitMark) × mark_Dice) (H0 : mark_Dice_Marks d a = some r_) : CallOK Try.prog 15 [.one (.ptr 0 0), .agg [.p (.sl 3 (List.map enc_api_Unit a.Units)), .p (.sl 1 (List.map encI a.Bounds)), .p (pi a.Max)]] [.var [.p (.sl 1 (List.map encI d.L)), .p (pi d.At)]] [.one (.vw 1)] [some (.var [.p (.sl 1 (List.map encI r_.2.L)), .p (pi r_.2.At)]), some (.arr 3 (List.map enc_api_UnitMark r_.1))] := by
  refine callOK (n := 63) (rs := [.tmp 4]) (nb := 1) (V := [0]) Try.func15 rfl (by kernel_rfl) rfl rfl rfl rfl (Nat.le_of_ble_eq_true rfl) (by decide) ?_
  unfold mark_Dice_Marks at H0
  refine lok_rt E0 (⟨63, mkS [(0, .x (.one (.ptr 0 0))), (3, .x (.one (.ptr 103 0)))], mkH [(0, .var [.p (.sl 1 (List.map encI d.L)), .p (pi d.At)]), (103, .var [.p (.sl 3 (List.map enc_api_Unit a.Units)), .p (.sl 1 (List.map encI a.Bounds)), .p (pi a.Max)])]⟩) ?_
  refine lok_rt E0 (⟨63, mkS [(0, .x (.one (.ptr 0 0))), (3, .x (.one (.ptr 103 0))), (5, .x (.one (.vw 105)))], mkH [(0, .var [.p (.sl 1 (List.map encI d.L)), .p (pi d.At)]), (103, .var [.p (.sl 3 (List.map enc_api_Unit a.Units)), .p (.sl 1 (List.map encI a.Bounds)), .p (pi a.Max)]), (105, .arr 3 (List.map enc_api_UnitMark ([] : List api_UnitMark)))]⟩) ?_
  refine lok_join (fun x_ : (List Int) × Int × (List api_UnitMark) => mark_Dice_Marks_j1 x_.1 x_.2.1 x_.2.2 = some r_) (fun x_ => ⟨63, mkS [(5, .x (.one (.vw 105)))], mkH [(0, .var [.p (.sl 1 (List.map encI x_.1)), .p (pi x_.2.1)]), (105, .arr 3 (List.map enc_api_UnitMark x_.2.2))]⟩) ?hymark_Dice_Marks_j1 ?hxmark_Dice_Marks_j1
  case hymark_Dice_Marks_j1 =>
    rintro ⟨d1, d2, out⟩ H0
    try dsimp only at H0 ⊢
    unfold mark_Dice_Marks_j1 at H0
    refine lok_rt E0 (⟨63, mkS [(4, .x (.one (.vw 105)))], mkH [(0, .var [.p (.sl 1 (List.map encI d1)), .p (pi d2)]), (105, .arr 3 (List.map enc_api_UnitMark out))]⟩) ?_
    refine lok_ret ?_
    obtain rfl := Option.some.inj H0
    try simp only [thenL, blockL]
    exact fin_nu [105] _ (.inr rfl) [0, 105] (⟨63, mkS [(4, .x (.one (.vw 105)))], mkH [(0, .var [.p (.sl 1 (List.map encI d1)), .p (pi d2)]), (105, .arr 3 (List.map enc_api_UnitMark out))]⟩) rfl rfl imp_au
  case hxmark_Dice_Marks_j1 =>
    refine lok_rt E0 (⟨63, mkS [(0, .x (.one (.ptr 0 0))), (3, .x (.one (.ptr 103 0))), (5, .x (.one (.vw 105))), (6, .x (.one (.p (pi (0 : Int)))))], mkH [(0, .var [.p (.sl 1 (List.map encI d.L)), .p (pi d.At)]), (103, .var [.p (.sl 3 (List.map enc_api_Unit a.Units)), .p (.sl 1 (List.map encI a.Bounds)), .p (pi a.Max)]), (105, .arr 3 (List.map enc_api_UnitMark ([] : List api_UnitMark)))]⟩) ?_
    refine lok_block ?_
    replace H0 := bind_some H0
    obtain ⟨v_0, hv_0, H0⟩ := H0
    refine lok_iter (fun x_ => ⟨63, mkS [(0, .x (.one (.ptr 0 0))), (3, .x (.one (.ptr 103 0))), (5, .x (.one (.vw 105))), (6, .x (.one (.p (pi x_.1))))], mkH [(0, .var [.p (.sl 1 (List.map encI x_.2.1)), .p (pi x_.2.2.1)]), (103, .var [.p (.sl 3 (List.map enc_api_Unit a.Units)), .p (.sl 1 (List.map encI a.Bounds)), .p (pi a.Max)]), (105, .arr 3 (List.map enc_api_UnitMark x_.2.2.2))]⟩) hv_0 imp_au ?_
    · rintro ⟨i, d3, d4, out1⟩ o_1 H1 k_1
      unfold mark_Dice_Marks_l3 at H1
      try dsimp only at H1 ⊢
      refine lok_seq ?_
      refine lok_rt E0 (⟨63, mkS [(0, .x (.one (.ptr 0 0))), (3, .x (.one (.ptr 103 0))), (5, .x (.one (.vw 105))), (6, .x (.one (.p (pi i)))), (13, .x (.one (.p (.val (.bool (decide (i < (a.Units.length : Int))))))))], mkH [(0, .var [.p (.sl 1 (List.map encI d3)), .p (pi d4)]), (103, .var [.p (.sl 3 (List.map enc_api_Unit a.Units)), .p (.sl 1 (List.map encI a.Bounds)), .p (pi a.Max)]), (105, .arr 3 (List.map enc_api_UnitMark out1))]⟩) ?_
      refine lok_c (decide (i < (a.Units.length : Int))) ?_ ?_
      · intro b_12
        replace H1 := cpos H1 b_12
        refine lok_skip ?_
        try simp only [thenL, blockL, ↓reduceIte, reduceCtorEq]
        refine lok_seq ?_
        refine lok_block ?_
        replace H1 := bind_some H1
        obtain ⟨⟨y, y1⟩, h_1, H1⟩ := H1
        try dsimp only at H1
        refine lok_rt (Env.of E0 [⟨some 18, 16, [.one (.ptr 0 0), .one (.p (.sl 1 (List.map encI ([(0 : Int), (0 : Int), (0 : Int), (1 : Int), (2 : Int), (3 : Int), (0 : Int), (0 : Int)]))))], [.var [.p (.sl 1 (List.map encI d3)), .p (pi d4)]], [.one (.p (pi y))], [some (.var [.p (.sl 1 (List.map encI y1.L)), .p (pi y1.At)])], True, fun _ => ok_mark_Dice_Pick (mark_Dice.mk d3 d4) ([(0 : Int), (0 : Int), (0 : Int), (1 : Int), (2 : Int), (3 : Int), (0 : Int), (0 : Int)]) (y, y1) h_1, []⟩]) (⟨63, mkS [(0, .x (.one (.ptr 0 0))), (3, .x (.one (.ptr 103 0))), (5, .x (.one (.vw 105))), (6, .x (.one (.p (pi i)))), (7, .x (.one (.p (pi y))))], mkH [(0, .var [.p (.sl 1 (List.map encI y1.L)), .p (pi y1.At)]), (103, .var [.p (.sl 3 (List.map enc_api_Unit a.Units)), .p (.sl 1 (List.map encI a.Bounds)), .p (pi a.Max)]), (105, .arr 3 (List.map enc_api_UnitMark out1))]⟩) ?_
        refine lok_rt E0 (⟨63, mkS [(0, .x (.one (.ptr 0 0))), (3, .x (.one (.ptr 103 0))), (5, .x (.one (.vw 105))), (6, .x (.one (.p (pi i)))), (7, .x (.one (.p (pi y)))), (8, .x (.one (.ptr 108 0)))], mkH [(0, .var [.p (.sl 1 (List.map encI y1.L)), .p (pi y1.At)]), (103, .var [.p (.sl 3 (List.map enc_api_Unit a.Units)), .p (.sl 1 (List.map encI a.Bounds)), .p (pi a.Max)]), (105, .arr 3 (List.map enc_api_UnitMark out1)), (108, .var [.p (pi y), .p (pi (0 : Int)), .p (pi (1 : Int))])]⟩) ?_
        refine lok_join (fun x_ : (List Int) × Int × Int × Int => mark_Dice_Marks_j2 i out1 y x_.1 x_.2.1 x_.2.2.1 x_.2.2.2 = some o_1) (fun x_ => ⟨63, mkS [(0, .x (.one (.ptr 0 0))), (3, .x (.one (.ptr 103 0))), (5, .x (.one (.vw 105))), (6, .x (.one (.p (pi i)))), (8, .x (.one (.ptr 108 0)))], mkH [(0, .var [.p (.sl 1 (List.map encI x_.1)), .p (pi x_.2.1)]), (103, .var [.p (.sl 3 (List.map enc_api_Unit a.Units)), .p (.sl 1 (List.map encI a.Bounds)), .p (pi a.Max)]), (105, .arr 3 (List.map enc_api_UnitMark out1)), (108, .var [.p (pi y), .p (pi x_.2.2.1), .p (pi x_.2.2.2)])]⟩) ?hymark_Dice_Marks_j2 ?hxmark_Dice_Marks_j2
        case hymark_Dice_Marks_j2 =>
          rintro ⟨d7, d8, x, x1⟩ H1
          try dsimp only at H1 ⊢
          unfold mark_Dice_Marks_j2 at H1
          replace H1 := req_some H1
          obtain ⟨q_2, H1⟩ := H1
          refine lok_rl E0 (⟨63, mkS [(0, .x (.one (.ptr 0 0))), (3, .x (.one (.ptr 103 0))), (5, .x (.one (.vw 105))), (6, .x (.one (.p (pi i))))], mkH [(0, .var [.p (.sl 1 (List.map encI d7)), .p (pi d8)]), (103, .var [.p (.sl 3 (List.map enc_api_Unit a.Units)), .p (.sl 1 (List.map encI a.Bounds)), .p (pi a.Max)]), (105, .arr 3 (List.map enc_api_UnitMark (out1 ++ [(api_UnitMark.mk y (api_Ratio.mk x x1))])))]⟩) ?_
          try simp only [thenL, blockL, ↓reduceIte, reduceCtorEq]
          refine lok_rl E0 (⟨63, mkS [(0, .x (.one (.ptr 0 0))), (3, .x (.one (.ptr 103 0))), (5, .x (.one (.vw 105))), (6, .x (.one (.p (pi (IntKind.i64.wrap (i + (1 : Int)))))))], mkH [(0, .var [.p (.sl 1 (List.map encI d7)), .p (pi d8)]), (103, .var [.p (.sl 3 (List.map enc_api_Unit a.Units)), .p (.sl 1 (List.map encI a.Bounds)), .p (pi a.Max)]), (105, .arr 3 (List.map enc_api_UnitMark (out1 ++ [(api_UnitMark.mk y (api_Ratio.mk x x1))])))]⟩) ?_
          try simp only [thenL, blockL, ↓reduceIte, reduceCtorEq]
          exact ⟨((IntKind.i64.wrap (i + (1 : Int))), d7, d8, (out1 ++ [(api_UnitMark.mk y (api_Ratio.mk x x1))])), (Option.some.inj H1).symm, imp_au⟩
        case hxmark_Dice_Marks_j2 =>
          refine lok_rt E0 (⟨63, mkS [(0, .x (.one (.ptr 0 0))), (3, .x (.one (.ptr 103 0))), (5, .x (.one (.vw 105))), (6, .x (.one (.p (pi i)))), (8, .x (.one (.ptr 108 0))), (23, .x (.one (.p (.val (.bool (y == (0 : Int)))))))], mkH [(0, .var [.p (.sl 1 (List.map encI y1.L)), .p (pi y1.At)]), (103, .var [.p (.sl 3 (List.map enc_api_Unit a.Units)), .p (.sl 1 (List.map encI a.Bounds)), .p (pi a.Max)]), (105, .arr 3 (List.map enc_api_UnitMark out1)), (108, .var [.p (pi y), .p (pi (0 : Int)), .p (pi (1 : Int))])]⟩) ?_
          refine lok_c (y == (0 : Int)) ?_ ?_
          · intro b_11
            replace H1 := cpos H1 b_11
            replace H1 := req_some H1
            obtain ⟨q_10, H1⟩ := H1
            replace H1 := bind_some H1
            obtain ⟨⟨y2, y3⟩, h_3, H1⟩ := H1
            try dsimp only at H1
            refine lok_rt (Env.of E0 [⟨some 32, 14, [.one (.ptr 0 0), .one (.p (pi (IntKind.i64.wrap ((ix a.Units i).Max + (1 : Int)))))], [.var [.p (.sl 1 (List.map encI y1.L)), .p (pi y1.At)]], [.one (.p (pi y2))], [some (.var [.p (.sl 1 (List.map encI y3.L)), .p (pi y3.At)])], True, fun _ => ok_mark_Dice_Next y1 (IntKind.i64.wrap ((ix a.Units i).Max + (1 : Int))) (y2, y3) h_3, []⟩]) (⟨63, mkS [(0, .x (.one (.ptr 0 0))), (3, .x (.one (.ptr 103 0))), (5, .x (.one (.vw 105))), (6, .x (.one (.p (pi i)))), (8, .x (.one (.ptr 108 0)))], mkH [(0, .var [.p (.sl 1 (List.map encI y3.L)), .p (pi y3.At)]), (103, .var [.p (.sl 3 (List.map enc_api_Unit a.Units)), .p (.sl 1 (List.map encI a.Bounds)), .p (pi a.Max)]), (105, .arr 3 (List.map enc_api_UnitMark out1)), (108, .var [.p (pi y), .p (pi y2), .p (pi (1 : Int))])]⟩) ?_
            rcases bcases (((Int.tmod y2 (2 : Int)) == (1 : Int)) && (decide (y2 < (ix a.Units i).Max))) with g_4 | g_4
            · replace H1 := cpos H1 g_4
              replace H1 := req_some H1
              obtain ⟨q_7, H1⟩ := H1
              replace H1 := bind_some H1
              obtain ⟨⟨y4, y5⟩, h_5, H1⟩ := H1
              try dsimp only at H1
              refine lok_dtg (Env.of E0 [⟨some 54, 35, [.one (.ptr 0 0), .one (.p (pi (3 : Int)))], [.var [.p (.sl 1 (List.map encI y3.L)), .p (pi y3.At)]], [.one (.p (.val (.bool y4)))], [some (.var [.p (.sl 1 (List.map encI y5.L)), .p (pi y5.At)])], True, fun _ => ok_mark_Dice_Bool y3 (3 : Int) (y4, y5) h_5, []⟩]) 15 g_4 (⟨63, mkS [(0, .x (.one (.ptr 0 0))), (3, .x (.one (.ptr 103 0))), (5, .x (.one (.vw 105))), (6, .x (.one (.p (pi i)))), (8, .x (.one (.ptr 108 0))), (54, .x (.one (.p (.val (.bool y4))))), (55, .x (.one (.p (.val (.bool y4)))))], mkH [(0, .var [.p (.sl 1 (List.map encI y5.L)), .p (pi y5.At)]), (103, .var [.p (.sl 3 (List.map enc_api_Unit a.Units)), .p (.sl 1 (List.map encI a.Bounds)), .p (pi a.Max)]), (105, .arr 3 (List.map enc_api_UnitMark out1)), (108, .var [.p (pi y), .p (pi y2), .p (pi (1 : Int))])]⟩) (by kernel_rfl) (by kernel_rfl) ?_
              refine lok_c y4 ?_ ?_
              · intro b_6
                replace H1 := cpos H1 b_6
                refine lok_rl E0 (⟨63, mkS [(0, .x (.one (.ptr 0 0))), (3, .x (.one (.ptr 103 0))), (5, .x (.one (.vw 105))), (6, .x (.one (.p (pi i)))), (8, .x (.one (.ptr 108 0))), (54, .x (.one (.p (.val (.bool y4)))))], mkH [(0, .var [.p (.sl 1 (List.map encI y5.L)), .p (pi y5.At)]), (103, .var [.p (.sl 3 (List.map enc_api_Unit a.Units)), .p (.sl 1 (List.map encI a.Bounds)), .p (pi a.Max)]), (105, .arr 3 (List.map enc_api_UnitMark out1)), (108, .var [.p (pi y), .p (pi y2), .p (pi (2 : Int))])]⟩) ?_
                try simp only [thenL, blockL, ↓reduceIte, reduceCtorEq]
                exact ⟨(y5.L, y5.At, y2, (2 : Int)), H1, imp_au⟩
              · intro b_6
                replace H1 := cneg H1 b_6
                refine lok_skip ?_
                try simp only [thenL, blockL, ↓reduceIte, reduceCtorEq]
                exact ⟨(y5.L, y5.At, y2, (1 : Int)), H1, imp_au⟩
            · replace H1 := cneg H1 g_4
              replace H1 := req_some H1
              obtain ⟨q_9, H1⟩ := H1
              refine lok_dtg E0 15 g_4 (⟨63, mkS [(0, .x (.one (.ptr 0 0))), (3, .x (.one (.ptr 103 0))), (5, .x (.one (.vw 105))), (6, .x (.one (.p (pi i)))), (8, .x (.one (.ptr 108 0))), (55, .x (.one (.p (.val (.bool false)))))], mkH [(0, .var [.p (.sl 1 (List.map encI y3.L)), .p (pi y3.At)]), (103, .var [.p (.sl 3 (List.map enc_api_Unit a.Units)), .p (.sl 1 (List.map encI a.Bounds)), .p (pi a.Max)]), (105, .arr 3 (List.map enc_api_UnitMark out1)), (108, .var [.p (pi y), .p (pi y2), .p (pi (1 : Int))])]⟩) (by kernel_rfl) (by kernel_rfl) ?_
              refine lok_c false ?_ ?_
              · intro h; exact absurd h (by decide)
              · intro _
                refine lok_skip ?_
                try simp only [thenL, blockL, ↓reduceIte, reduceCtorEq]
                exact ⟨(y3.L, y3.At, y2, (1 : Int)), H1, imp_au⟩
          · intro b_11
            replace H1 := cneg H1 b_11
            refine lok_skip ?_
            try simp only [thenL, blockL, ↓reduceIte, reduceCtorEq]
            exact ⟨(y1.L, y1.At, (0 : Int), (1 : Int)), H1, imp_au⟩
      · intro b_12
        replace H1 := cneg H1 b_12
        refine lok_exit ?_
        try simp only [thenL, blockL, ↓reduceIte, reduceCtorEq]
        have e_1 := k_1 _ (Option.some.inj H1).symm
        subst e_1
        try dsimp only at H0
        try simp only [thenL, blockL, ↓reduceIte, reduceCtorEq]
        exact ⟨(d3, d4, out1), H0, imp_au⟩
theorem ok_ref01_Size (n : Int) (r_ : Int) (H0 : ref01_Size n = some r_) : CallOK Try.prog 89 [.one (.p (pi n))] [] [.one (.p (.val (.int .u64 r_)))] [] := by
  refine callOK (n := 12) (rs := [.tmp 2]) (nb := 0) (V := []) Try.func89 rfl (by kernel_rfl) rfl rfl rfl rfl (Nat.le_of_ble_eq_true rfl) (by decide) ?_
  unfold ref01_Size at H0
  refine lok_rt E0 (⟨12, mkS [(0, .x (.one (.p (pi n))))], mkH []⟩) ?_
  refine lok_seq ?_
  refine lok_rt E0 (⟨12, mkS [(0, .x (.one (.p (pi n)))), (4, .x (.one (.p (.val (.bool (decide (n < (0 : Int))))))))], mkH []⟩) ?_
  refine lok_c (decide (n < (0 : Int))) ?_ ?_
  · intro b_1
    replace H0 := cpos H0 b_1
    replace H0 := bindV_some H0
    obtain ⟨v, a_0, H0⟩ := H0
    refine lok_rtg E0 a_0 (⟨12, mkS [(2, .x (.one (.p (.val (.int .u64 v)))))], mkH []⟩) ?_
    refine lok_ret ?_
    obtain rfl := Option.some.inj H0
    try simp only [thenL, blockL]
    exact fin_au _ (.inr rfl) [] (⟨12, mkS [(2, .x (.one (.p (.val (.int .u64 v)))))], mkH []⟩) rfl rfl imp_au
  · intro b_1
    replace H0 := cneg H0 b_1
    refine lok_skip ?_
    try simp only [thenL, blockL, ↓reduceIte, reduceCtorEq]
    refine lok_rt E0 (⟨12, mkS [(2, .x (.one (.p (.val (.int .u64 (IntKind.u64.wrap n))))))], mkH []⟩) ?_
    refine lok_ret ?_
    obtain rfl := Option.some.inj H0
    try simp only [thenL, blockL]
    exact fin_au _ (.inr rfl) [] (⟨12, mkS [(2, .x (.one (.p (.val (.int .u64 (IntKind.u64.wrap n))))))], mkH []⟩) rfl rfl imp_au
theorem ok_ref01_Order (a : ref01_Wide) (b : ref01_Wide) (r_ : Int) (H0 : ref01_Order a b = some r_) : CallOK Try.prog 109 [.agg [.p (.val (.int .u64 a.Hi)), .p (.val (.int .u64 a.Lo))], .agg [.p (.val (.int .u64 b.Hi)), .p (.val (.int .u64 b.Lo))]] [] [.one (.p (pi r_))] [] := by
  refine callOK (n := 27) (rs := [.tmp 4]) (nb := 0) (V := []) Try.func109 rfl (by kernel_rfl) rfl rfl rfl rfl (Nat.le_of_ble_eq_true rfl) (by decide) ?_
  unfold ref01_Order at H0
  refine lok_rt E0 (⟨27, mkS [(2, .x (.one (.ptr 102 0))), (3, .x (.one (.ptr 103 0)))], mkH [(102, .var [.p (.val (.int .u64 a.Hi)), .p (.val (.int .u64 a.Lo))]), (103, .var [.p (.val (.int .u64 b.Hi)), .p (.val (.int .u64 b.Lo))])]⟩) ?_
  refine lok_seq ?_
  refine lok_rt E0 (⟨27, mkS [(2, .x (.one (.ptr 102 0))), (3, .x (.one (.ptr 103 0))), (23, .x (.one (.p (.val (.bool ((decide (a.Hi < b.Hi)) || ((a.Hi == b.Hi) && (decide (a.Lo < b.Lo)))))))))], mkH [(102, .var [.p (.val (.int .u64 a.Hi)), .p (.val (.int .u64 a.Lo))]), (103, .var [.p (.val (.int .u64 b.Hi)), .p (.val (.int .u64 b.Lo))])]⟩) ?_
  refine lok_c ((decide (a.Hi < b.Hi)) || ((a.Hi == b.Hi) && (decide (a.Lo < b.Lo)))) ?_ ?_
  · intro b_1
    replace H0 := cpos H0 b_1
    refine lok_rt E0 (⟨27, mkS [(4, .x (.one (.p (pi (-1 : Int)))))], mkH []⟩) ?_
    refine lok_ret ?_
    obtain rfl := Option.some.inj H0
    try simp only [thenL, blockL]
    exact fin_au _ (.inr rfl) [] (⟨27, mkS [(4, .x (.one (.p (pi (-1 : Int)))))], mkH []⟩) rfl rfl imp_au
  · intro b_1
    replace H0 := cneg H0 b_1
    refine lok_skip ?_
    try simp only [thenL, blockL, ↓reduceIte, reduceCtorEq]
    refine lok_seq ?_
    refine lok_rt E0 (⟨27, mkS [(26, .x (.one (.p (.val (.bool ((a.Hi == b.Hi) && (a.Lo == b.Lo)))))))], mkH []⟩) ?_
    refine lok_c ((a.Hi == b.Hi) && (a.Lo == b.Lo)) ?_ ?_
    · intro b_0
      replace H0 := cpos H0 b_0
      refine lok_rt E0 (⟨27, mkS [(4, .x (.one (.p (pi (0 : Int)))))], mkH []⟩) ?_
      refine lok_ret ?_
      obtain rfl := Option.some.inj H0
      try simp only [thenL, blockL]
      exact fin_au _ (.inr rfl) [] (⟨27, mkS [(4, .x (.one (.p (pi (0 : Int)))))], mkH []⟩) rfl rfl imp_au
    · intro b_0
      replace H0 := cneg H0 b_0
      refine lok_skip ?_
      try simp only [thenL, blockL, ↓reduceIte, reduceCtorEq]
      refine lok_rt E0 (⟨27, mkS [(4, .x (.one (.p (pi (1 : Int)))))], mkH []⟩) ?_
      refine lok_ret ?_
      obtain rfl := Option.some.inj H0
      try simp only [thenL, blockL]
      exact fin_au _ (.inr rfl) [] (⟨27, mkS [(4, .x (.one (.p (pi (1 : Int)))))], mkH []⟩) rfl rfl imp_au
theorem ok_ref01_Minus (a : ref01_Wide) (b : ref01_Wide) (r_ : ref01_Wide) (H0 : ref01_Minus a b = some r_) : CallOK Try.prog 110 [.agg [.p (.val (.int .u64 a.Hi)), .p (.val (.int .u64 a.Lo))], .agg [.p (.val (.int .u64 b.Hi)), .p (.val (.int .u64 b.Lo))]] [] [.agg [.p (.val (.int .u64 r_.Hi)), .p (.val (.int .u64 r_.Lo))]] [] := by
  refine callOK (n := 29) (rs := [.cell 4 128]) (nb := 0) (V := []) Try.func110 rfl (by kernel_rfl) rfl rfl rfl rfl (Nat.le_of_ble_eq_true rfl) (by decide) ?_
  unfold ref01_Minus at H0
  refine lok_rt E0 (⟨29, mkS [(2, .x (.one (.ptr 102 0))), (3, .x (.one (.ptr 103 0))), (4, .x (.one (.ptr 104 0)))], mkH [(102, .var [.p (.val (.int .u64 a.Hi)), .p (.val (.int .u64 a.Lo))]), (103, .var [.p (.val (.int .u64 b.Hi)), .p (.val (.int .u64 b.Lo))]), (104, .var [.p (.val (.int .u64 (0 : Int))), .p (.val (.int .u64 (0 : Int)))])]⟩) ?_
  replace H0 := bind_some H0
  obtain ⟨⟨y, y1⟩, h_0, H0⟩ := H0
  try dsimp only at H0
  refine lok_rt (Env.of E0 [⟨some 14, 113, [.one (.p (.val (.int .u64 a.Lo))), .one (.p (.val (.int .u64 b.Lo))), .one (.p (.val (.int .u64 (0 : Int))))], [], [.one (.p (.val (.int .u64 y))), .one (.p (.val (.int .u64 y1)))], [], True, fun _ => ok_bits_Sub64 a.Lo b.Lo (0 : Int) (y, y1) h_0, []⟩]) (⟨29, mkS [(2, .x (.one (.ptr 102 0))), (3, .x (.one (.ptr 103 0))), (4, .x (.one (.ptr 104 0))), (5, .x (.one (.p (.val (.int .u64 y))))), (6, .x (.one (.p (.val (.int .u64 y1)))))], mkH [(102, .var [.p (.val (.int .u64 a.Hi)), .p (.val (.int .u64 a.Lo))]), (103, .var [.p (.val (.int .u64 b.Hi)), .p (.val (.int .u64 b.Lo))]), (104, .var [.p (.val (.int .u64 (0 : Int))), .p (.val (.int .u64 (0 : Int)))])]⟩) ?_
  replace H0 := bind_some H0
  obtain ⟨⟨y2, y3⟩, h_1, H0⟩ := H0
  try dsimp only at H0
  refine lok_rt (Env.of E0 [⟨some 23, 113, [.one (.p (.val (.int .u64 a.Hi))), .one (.p (.val (.int .u64 b.Hi))), .one (.p (.val (.int .u64 y1)))], [], [.one (.p (.val (.int .u64 y2))), .one (.p (.val (.int .u64 y3)))], [], True, fun _ => ok_bits_Sub64 a.Hi b.Hi y1 (y2, y3) h_1, []⟩]) (⟨29, mkS [(4, .x (.one (.ptr 104 0))), (5, .x (.one (.p (.val (.int .u64 y))))), (7, .x (.one (.p (.val (.int .u64 y2)))))], mkH [(104, .var [.p (.val (.int .u64 (0 : Int))), .p (.val (.int .u64 (0 : Int)))])]⟩) ?_
  refine lok_rt E0 (⟨29, mkS [(4, .x (.one (.ptr 104 0)))], mkH [(104, .var [.p (.val (.int .u64 y2)), .p (.val (.int .u64 y))])]⟩) ?_
  refine lok_ret ?_
  obtain rfl := Option.some.inj H0
  try simp only [thenL, blockL]
  exact fin_au _ (.inr rfl) [] (⟨29, mkS [(4, .x (.one (.ptr 104 0)))], mkH [(104, .var [.p (.val (.int .u64 y2)), .p (.val (.int .u64 y))])]⟩) rfl rfl imp_au
theorem ok_ref01_Twice (a : ref01_Wide) (r_ : ref01_Wide) (H0 : ref01_Twice a = some r_) : CallOK Try.prog 115 [.agg [.p (.val (.int .u64 a.Hi)), .p (.val (.int .u64 a.Lo))]] [] [.agg [.p (.val (.int .u64 r_.Hi)), .p (.val (.int .u64 r_.Lo))]] [] := by
  refine callOK (n := 14) (rs := [.cell 2 128]) (nb := 0) (V := []) Try.func115 rfl (by kernel_rfl) rfl rfl rfl rfl (Nat.le_of_ble_eq_true rfl) (by decide) ?_
  unfold ref01_Twice at H0
  refine lok_rt E0 (⟨14, mkS [(1, .x (.one (.ptr 101 0))), (2, .x (.one (.ptr 102 0)))], mkH [(101, .var [.p (.val (.int .u64 a.Hi)), .p (.val (.int .u64 a.Lo))]), (102, .var [.p (.val (.int .u64 (0 : Int))), .p (.val (.int .u64 (0 : Int)))])]⟩) ?_
  refine lok_rt E0 (⟨14, mkS [(2, .x (.one (.ptr 102 0)))], mkH [(102, .var [.p (.val (.int .u64 (bOr .u64 (bShl .u64 a.Hi (1 : Int)) (bShr .u64 a.Lo (63 : Int))))), .p (.val (.int .u64 (bShl .u64 a.Lo (1 : Int))))])]⟩) ?_
  refine lok_ret ?_
  obtain rfl := Option.some.inj H0
  try simp only [thenL, blockL]
  exact fin_au _ (.inr rfl) [] (⟨14, mkS [(2, .x (.one (.ptr 102 0)))], mkH [(102, .var [.p (.val (.int .u64 (bOr .u64 (bShl .u64 a.Hi (1 : Int)) (bShr .u64 a.Lo (63 : Int))))), .p (.val (.int .u64 (bShl .u64 a.Lo (1 : Int))))])]⟩) rfl rfl imp_au
theorem ok_ref01_Divide (a : ref01_Wide) (b : ref01_Wide) (r_ : ref01_Wide × ref01_Wide) (H0 : ref01_Divide a b = some r_) : CallOK Try.prog 107 [.agg [.p (.val (.int .u64 a.Hi)), .p (.val (.int .u64 a.Lo))], .agg [.p (.val (.int .u64 b.Hi)), .p (.val (.int .u64 b.Lo))]] [] [.agg [.p (.val (.int .u64 r_.1.Hi)), .p (.val (.int .u64 r_.1.Lo))], .agg [.p (.val (.int .u64 r_.2.Hi)), .p (.val (.int .u64 r_.2.Lo))]] [] := by
  refine callOK (n := 82) (rs := [.cell 4 128, .cell 5 128]) (nb := 0) (V := []) Try.func107 rfl (by kernel_rfl) rfl rfl rfl rfl (Nat.le_of_ble_eq_true rfl) (by decide) ?_
  unfold ref01_Divide at H0
  refine lok_rt E0 (⟨82, mkS [(2, .x (.one (.ptr 102 0))), (3, .x (.one (.ptr 103 0))), (4, .x (.one (.ptr 104 0))), (5, .x (.one (.ptr 105 0)))], mkH [(102, .var [.p (.val (.int .u64 a.Hi)), .p (.val (.int .u64 a.Lo))]), (103, .var [.p (.val (.int .u64 b.Hi)), .p (.val (.int .u64 b.Lo))]), (104, .var [.p (.val (.int .u64 (0 : Int))), .p (.val (.int .u64 (0 : Int)))]), (105, .var [.p (.val (.int .u64 (0 : Int))), .p (.val (.int .u64 (0 : Int)))])]⟩) ?_
  refine lok_seq ?_
  refine lok_rt E0 (⟨82, mkS [(2, .x (.one (.ptr 102 0))), (3, .x (.one (.ptr 103 0))), (4, .x (.one (.ptr 104 0))), (5, .x (.one (.ptr 105 0))), (18, .x (.one (.p (.val (.bool ((a.Hi == (0 : Int)) && (b.Hi == (0 : Int))))))))], mkH [(102, .var [.p (.val (.int .u64 a.Hi)), .p (.val (.int .u64 a.Lo))]), (103, .var [.p (.val (.int .u64 b.Hi)), .p (.val (.int .u64 b.Lo))]), (104, .var [.p (.val (.int .u64 (0 : Int))), .p (.val (.int .u64 (0 : Int)))]), (105, .var [.p (.val (.int .u64 (0 : Int))), .p (.val (.int .u64 (0 : Int)))])]⟩) ?_
  refine lok_c ((a.Hi == (0 : Int)) && (b.Hi == (0 : Int))) ?_ ?_
  · intro b_13
    replace H0 := cpos H0 b_13
    replace H0 := req_some H0
    obtain ⟨q_0, H0⟩ := H0
    refine lok_et E0 82 [⟨[(2, .x (.one (.ptr 102 0)))], [], [(19, .x (.one (.ptr 102 1)))], [], none⟩,
      ⟨[(19, .x (.one (.ptr 102 1)))], [(102, some (.var [.p (.val (.int .u64 a.Hi)), .p (.val (.int .u64 a.Lo))]))], [(20, .x (.one (.p (.val (.int .u64 a.Lo)))))], [], none⟩,
      ⟨[(3, .x (.one (.ptr 103 0)))], [], [(21, .x (.one (.ptr 103 1)))], [], none⟩,
      ⟨[(21, .x (.one (.ptr 103 1)))], [(103, some (.var [.p (.val (.int .u64 b.Hi)), .p (.val (.int .u64 b.Lo))]))], [(22, .x (.one (.p (.val (.int .u64 b.Lo)))))], [], none⟩,
      ⟨[(20, .x (.one (.p (.val (.int .u64 a.Lo))))), (22, .x (.one (.p (.val (.int .u64 b.Lo)))))], [], [(23, .x (.one (.p (.val (.int .u64 (IntKind.u64.wrap (Int.tdiv a.Lo b.Lo)))))))], [], none⟩,
      ⟨[(23, .x (.one (.p (.val (.int .u64 (IntKind.u64.wrap (Int.tdiv a.Lo b.Lo)))))))], [], [(24, .x (.agg [.p (.val (.int .u64 (0 : Int))), .p (.val (.int .u64 (IntKind.u64.wrap (Int.tdiv a.Lo b.Lo))))]))], [], none⟩,
      ⟨[(2, .x (.one (.ptr 102 0)))], [], [(25, .x (.one (.ptr 102 1)))], [], none⟩,
      ⟨[(25, .x (.one (.ptr 102 1)))], [(102, some (.var [.p (.val (.int .u64 a.Hi)), .p (.val (.int .u64 a.Lo))]))], [(26, .x (.one (.p (.val (.int .u64 a.Lo)))))], [], none⟩,
      ⟨[(3, .x (.one (.ptr 103 0)))], [], [(27, .x (.one (.ptr 103 1)))], [], none⟩,
      ⟨[(27, .x (.one (.ptr 103 1)))], [(103, some (.var [.p (.val (.int .u64 b.Hi)), .p (.val (.int .u64 b.Lo))]))], [(28, .x (.one (.p (.val (.int .u64 b.Lo)))))], [], none⟩,
      ⟨[(26, .x (.one (.p (.val (.int .u64 a.Lo))))), (28, .x (.one (.p (.val (.int .u64 b.Lo)))))], [], [(29, .x (.one (.p (.val (.int .u64 (Int.tmod a.Lo b.Lo))))))], [], none⟩,
      ⟨[(29, .x (.one (.p (.val (.int .u64 (Int.tmod a.Lo b.Lo))))))], [], [(30, .x (.agg [.p (.val (.int .u64 (0 : Int))), .p (.val (.int .u64 (Int.tmod a.Lo b.Lo)))]))], [], none⟩,
      ⟨[(4, .x (.one (.ptr 104 0))), (24, .x (.agg [.p (.val (.int .u64 (0 : Int))), .p (.val (.int .u64 (IntKind.u64.wrap (Int.tdiv a.Lo b.Lo))))]))], [(104, some (.var [.p (.val (.int .u64 (0 : Int))), .p (.val (.int .u64 (0 : Int)))]))], [], [(104, some (.var [.p (.val (.int .u64 (0 : Int))), .p (.val (.int .u64 (IntKind.u64.wrap (Int.tdiv a.Lo b.Lo))))]))], none⟩] (⟨82, mkS [(4, .x (.one (.ptr 104 0))), (5, .x (.one (.ptr 105 0)))], mkH [(104, .var [.p (.val (.int .u64 (0 : Int))), .p (.val (.int .u64 (IntKind.u64.wrap (Int.tdiv a.Lo b.Lo))))]), (105, .var [.p (.val (.int .u64 (0 : Int))), .p (.val (.int .u64 (Int.tmod a.Lo b.Lo)))])]⟩) (by kernel_rfl) (by kernel_rfl) (by kernel_rfl) rfl rfl rfl ?_
    refine lok_ret ?_
    obtain rfl := Option.some.inj H0
    try simp only [thenL, blockL]
    exact fin_au _ (.inr rfl) [] (⟨82, mkS [(4, .x (.one (.ptr 104 0))), (5, .x (.one (.ptr 105 0)))], mkH [(104, .var [.p (.val (.int .u64 (0 : Int))), .p (.val (.int .u64 (IntKind.u64.wrap (Int.tdiv a.Lo b.Lo))))]), (105, .var [.p (.val (.int .u64 (0 : Int))), .p (.val (.int .u64 (Int.tmod a.Lo b.Lo)))])]⟩) rfl rfl imp_au
  · intro b_13
    replace H0 := cneg H0 b_13
    refine lok_skip ?_
    try simp only [thenL, blockL, ↓reduceIte, reduceCtorEq]
    refine lok_rt E0 (⟨82, mkS [(2, .x (.one (.ptr 102 0))), (3, .x (.one (.ptr 103 0))), (4, .x (.one (.ptr 104 0))), (5, .x (.one (.ptr 105 0))), (6, .x (.one (.ptr 106 0))), (7, .x (.one (.ptr 107 0)))], mkH [(102, .var [.p (.val (.int .u64 a.Hi)), .p (.val (.int .u64 a.Lo))]), (103, .var [.p (.val (.int .u64 b.Hi)), .p (.val (.int .u64 b.Lo))]), (104, .var [.p (.val (.int .u64 (0 : Int))), .p (.val (.int .u64 (0 : Int)))]), (105, .var [.p (.val (.int .u64 (0 : Int))), .p (.val (.int .u64 (0 : Int)))]), (106, .var [.p (.val (.int .u64 (0 : Int))), .p (.val (.int .u64 (0 : Int)))]), (107, .var [.p (.val (.int .u64 (0 : Int))), .p (.val (.int .u64 (0 : Int)))])]⟩) ?_
    refine lok_join (fun x_ : Int × Int × Int × Int => ref01_Divide_j1 x_.1 x_.2.1 x_.2.2.1 x_.2.2.2 = some r_) (fun x_ => ⟨82, mkS [(4, .x (.one (.ptr 104 0))), (5, .x (.one (.ptr 105 0))), (6, .x (.one (.ptr 106 0))), (7, .x (.one (.ptr 107 0)))], mkH [(104, .var [.p (.val (.int .u64 (0 : Int))), .p (.val (.int .u64 (0 : Int)))]), (105, .var [.p (.val (.int .u64 (0 : Int))), .p (.val (.int .u64 (0 : Int)))]), (106, .var [.p (.val (.int .u64 x_.1)), .p (.val (.int .u64 x_.2.1))]), (107, .var [.p (.val (.int .u64 x_.2.2.1)), .p (.val (.int .u64 x_.2.2.2))])]⟩) ?hyref01_Divide_j1 ?hxref01_Divide_j1
    case hyref01_Divide_j1 =>
      rintro ⟨q, q1, r, r1⟩ H0
      try dsimp only at H0 ⊢
      unfold ref01_Divide_j1 at H0
      refine lok_et E0 82 [⟨[(6, .x (.one (.ptr 106 0)))], [(106, some (.var [.p (.val (.int .u64 q)), .p (.val (.int .u64 q1))]))], [(80, .x (.agg [.p (.val (.int .u64 q)), .p (.val (.int .u64 q1))]))], [], none⟩,
      ⟨[(7, .x (.one (.ptr 107 0)))], [(107, some (.var [.p (.val (.int .u64 r)), .p (.val (.int .u64 r1))]))], [(81, .x (.agg [.p (.val (.int .u64 r)), .p (.val (.int .u64 r1))]))], [], none⟩,
      ⟨[(4, .x (.one (.ptr 104 0))), (80, .x (.agg [.p (.val (.int .u64 q)), .p (.val (.int .u64 q1))]))], [(104, some (.var [.p (.val (.int .u64 (0 : Int))), .p (.val (.int .u64 (0 : Int)))]))], [], [(104, some (.var [.p (.val (.int .u64 q)), .p (.val (.int .u64 q1))]))], none⟩] (⟨82, mkS [(4, .x (.one (.ptr 104 0))), (5, .x (.one (.ptr 105 0)))], mkH [(104, .var [.p (.val (.int .u64 q)), .p (.val (.int .u64 q1))]), (105, .var [.p (.val (.int .u64 r)), .p (.val (.int .u64 r1))])]⟩) (by kernel_rfl) (by kernel_rfl) (by kernel_rfl) rfl rfl rfl ?_
      refine lok_ret ?_
      obtain rfl := Option.some.inj H0
      try simp only [thenL, blockL]
      exact fin_au _ (.inr rfl) [] (⟨82, mkS [(4, .x (.one (.ptr 104 0))), (5, .x (.one (.ptr 105 0)))], mkH [(104, .var [.p (.val (.int .u64 q)), .p (.val (.int .u64 q1))]), (105, .var [.p (.val (.int .u64 r)), .p (.val (.int .u64 r1))])]⟩) rfl rfl imp_au
    case hxref01_Divide_j1 =>
      refine lok_rt E0 (⟨82, mkS [(2, .x (.one (.ptr 102 0))), (3, .x (.one (.ptr 103 0))), (4, .x (.one (.ptr 104 0))), (5, .x (.one (.ptr 105 0))), (6, .x (.one (.ptr 106 0))), (7, .x (.one (.ptr 107 0))), (8, .x (.one (.p (pi (127 : Int)))))], mkH [(102, .var [.p (.val (.int .u64 a.Hi)), .p (.val (.int .u64 a.Lo))]), (103, .var [.p (.val (.int .u64 b.Hi)), .p (.val (.int .u64 b.Lo))]), (104, .var [.p (.val (.int .u64 (0 : Int))), .p (.val (.int .u64 (0 : Int)))]), (105, .var [.p (.val (.int .u64 (0 : Int))), .p (.val (.int .u64 (0 : Int)))]), (106, .var [.p (.val (.int .u64 (0 : Int))), .p (.val (.int .u64 (0 : Int)))]), (107, .var [.p (.val (.int .u64 (0 : Int))), .p (.val (.int .u64 (0 : Int)))])]⟩) ?_
      refine lok_block ?_
      replace H0 := bind_some H0
      obtain ⟨v_1, hv_1, H0⟩ := H0
      refine lok_iter (fun x_ => ⟨82, mkS [(2, .x (.one (.ptr 102 0))), (3, .x (.one (.ptr 103 0))), (4, .x (.one (.ptr 104 0))), (5, .x (.one (.ptr 105 0))), (6, .x (.one (.ptr 106 0))), (7, .x (.one (.ptr 107 0))), (8, .x (.one (.p (pi x_.1))))], mkH [(102, .var [.p (.val (.int .u64 a.Hi)), .p (.val (.int .u64 a.Lo))]), (103, .var [.p (.val (.int .u64 b.Hi)), .p (.val (.int .u64 b.Lo))]), (104, .var [.p (.val (.int .u64 (0 : Int))), .p (.val (.int .u64 (0 : Int)))]), (105, .var [.p (.val (.int .u64 (0 : Int))), .p (.val (.int .u64 (0 : Int)))]), (106, .var [.p (.val (.int .u64 x_.2.1)), .p (.val (.int .u64 x_.2.2.1))]), (107, .var [.p (.val (.int .u64 x_.2.2.2.1)), .p (.val (.int .u64 x_.2.2.2.2))])]⟩) hv_1 imp_au ?_
      · rintro ⟨i, q2, q3, r2, r3⟩ o_1 H1 k_1
        unfold ref01_Divide_l4 at H1
        try dsimp only at H1 ⊢
        refine lok_seq ?_
        refine lok_rt E0 (⟨82, mkS [(2, .x (.one (.ptr 102 0))), (3, .x (.one (.ptr 103 0))), (4, .x (.one (.ptr 104 0))), (5, .x (.one (.ptr 105 0))), (6, .x (.one (.ptr 106 0))), (7, .x (.one (.ptr 107 0))), (8, .x (.one (.p (pi i)))), (34, .x (.one (.p (.val (.bool (decide ((0 : Int) ≤ i)))))))], mkH [(102, .var [.p (.val (.int .u64 a.Hi)), .p (.val (.int .u64 a.Lo))]), (103, .var [.p (.val (.int .u64 b.Hi)), .p (.val (.int .u64 b.Lo))]), (104, .var [.p (.val (.int .u64 (0 : Int))), .p (.val (.int .u64 (0 : Int)))]), (105, .var [.p (.val (.int .u64 (0 : Int))), .p (.val (.int .u64 (0 : Int)))]), (106, .var [.p (.val (.int .u64 q2)), .p (.val (.int .u64 q3))]), (107, .var [.p (.val (.int .u64 r2)), .p (.val (.int .u64 r3))])]⟩) ?_
        refine lok_c (decide ((0 : Int) ≤ i)) ?_ ?_
        · intro b_12
          replace H1 := cpos H1 b_12
          refine lok_skip ?_
          try simp only [thenL, blockL, ↓reduceIte, reduceCtorEq]
          refine lok_join (fun x_ : Int × Int × Int × Int => ref01_Divide_j2 i x_.1 x_.2.1 x_.2.2.1 x_.2.2.2 = some o_1) (fun x_ => ⟨82, mkS [(2, .x (.one (.ptr 102 0))), (3, .x (.one (.ptr 103 0))), (4, .x (.one (.ptr 104 0))), (5, .x (.one (.ptr 105 0))), (6, .x (.one (.ptr 106 0))), (7, .x (.one (.ptr 107 0))), (8, .x (.one (.p (pi i))))], mkH [(102, .var [.p (.val (.int .u64 a.Hi)), .p (.val (.int .u64 a.Lo))]), (103, .var [.p (.val (.int .u64 b.Hi)), .p (.val (.int .u64 b.Lo))]), (104, .var [.p (.val (.int .u64 (0 : Int))), .p (.val (.int .u64 (0 : Int)))]), (105, .var [.p (.val (.int .u64 (0 : Int))), .p (.val (.int .u64 (0 : Int)))]), (106, .var [.p (.val (.int .u64 x_.1)), .p (.val (.int .u64 x_.2.1))]), (107, .var [.p (.val (.int .u64 x_.2.2.1)), .p (.val (.int .u64 x_.2.2.2))])]⟩) ?hyref01_Divide_j2 ?hxref01_Divide_j2
          case hyref01_Divide_j2 =>
            rintro ⟨q6, q7, r6, r7⟩ H1
            try dsimp only at H1 ⊢
            unfold ref01_Divide_j2 at H1
            refine lok_rl E0 (⟨82, mkS [(2, .x (.one (.ptr 102 0))), (3, .x (.one (.ptr 103 0))), (4, .x (.one (.ptr 104 0))), (5, .x (.one (.ptr 105 0))), (6, .x (.one (.ptr 106 0))), (7, .x (.one (.ptr 107 0))), (8, .x (.one (.p (pi (IntKind.i64.wrap (i - (1 : Int)))))))], mkH [(102, .var [.p (.val (.int .u64 a.Hi)), .p (.val (.int .u64 a.Lo))]), (103, .var [.p (.val (.int .u64 b.Hi)), .p (.val (.int .u64 b.Lo))]), (104, .var [.p (.val (.int .u64 (0 : Int))), .p (.val (.int .u64 (0 : Int)))]), (105, .var [.p (.val (.int .u64 (0 : Int))), .p (.val (.int .u64 (0 : Int)))]), (106, .var [.p (.val (.int .u64 q6)), .p (.val (.int .u64 q7))]), (107, .var [.p (.val (.int .u64 r6)), .p (.val (.int .u64 r7))])]⟩) ?_
            try simp only [thenL, blockL, ↓reduceIte, reduceCtorEq]
            exact ⟨((IntKind.i64.wrap (i - (1 : Int))), q6, q7, r6, r7), (Option.some.inj H1).symm, imp_au⟩
          case hxref01_Divide_j2 =>
            refine lok_block ?_
            replace H1 := req_some H1
            obtain ⟨q_11, H1⟩ := H1
            replace H1 := bindV_some H1
            obtain ⟨bit, a_2, H1⟩ := H1
            refine lok_rtg E0 a_2 (⟨82, mkS [(2, .x (.one (.ptr 102 0))), (3, .x (.one (.ptr 103 0))), (4, .x (.one (.ptr 104 0))), (5, .x (.one (.ptr 105 0))), (6, .x (.one (.ptr 106 0))), (7, .x (.one (.ptr 107 0))), (8, .x (.one (.p (pi i)))), (9, .x (.one (.p (.val (.int .u64 bit)))))], mkH [(102, .var [.p (.val (.int .u64 a.Hi)), .p (.val (.int .u64 a.Lo))]), (103, .var [.p (.val (.int .u64 b.Hi)), .p (.val (.int .u64 b.Lo))]), (104, .var [.p (.val (.int .u64 (0 : Int))), .p (.val (.int .u64 (0 : Int)))]), (105, .var [.p (.val (.int .u64 (0 : Int))), .p (.val (.int .u64 (0 : Int)))]), (106, .var [.p (.val (.int .u64 q2)), .p (.val (.int .u64 q3))]), (107, .var [.p (.val (.int .u64 r2)), .p (.val (.int .u64 r3))])]⟩) ?_
            refine lok_join (fun x_ : Int => ref01_Divide_j3 b i q2 q3 r2 r3 x_ = some o_1) (fun x_ => ⟨82, mkS [(2, .x (.one (.ptr 102 0))), (3, .x (.one (.ptr 103 0))), (4, .x (.one (.ptr 104 0))), (5, .x (.one (.ptr 105 0))), (6, .x (.one (.ptr 106 0))), (7, .x (.one (.ptr 107 0))), (8, .x (.one (.p (pi i)))), (9, .x (.one (.p (.val (.int .u64 x_)))))], mkH [(102, .var [.p (.val (.int .u64 a.Hi)), .p (.val (.int .u64 a.Lo))]), (103, .var [.p (.val (.int .u64 b.Hi)), .p (.val (.int .u64 b.Lo))]), (104, .var [.p (.val (.int .u64 (0 : Int))), .p (.val (.int .u64 (0 : Int)))]), (105, .var [.p (.val (.int .u64 (0 : Int))), .p (.val (.int .u64 (0 : Int)))]), (106, .var [.p (.val (.int .u64 q2)), .p (.val (.int .u64 q3))]), (107, .var [.p (.val (.int .u64 r2)), .p (.val (.int .u64 r3))])]⟩) ?hyref01_Divide_j3 ?hxref01_Divide_j3
            case hyref01_Divide_j3 =>
              rintro bit1 H1
              try dsimp only at H1 ⊢
              unfold ref01_Divide_j3 at H1
              refine lok_rt E0 (⟨82, mkS [(2, .x (.one (.ptr 102 0))), (3, .x (.one (.ptr 103 0))), (4, .x (.one (.ptr 104 0))), (5, .x (.one (.ptr 105 0))), (6, .x (.one (.ptr 106 0))), (7, .x (.one (.ptr 107 0))), (8, .x (.one (.p (pi i)))), (9, .x (.one (.p (.val (.int .u64 bit1))))), (10, .x (.one (.p (.val (.bool ((bShr .u64 r2 (63 : Int)) == (1 : Int)))))))], mkH [(102, .var [.p (.val (.int .u64 a.Hi)), .p (.val (.int .u64 a.Lo))]), (103, .var [.p (.val (.int .u64 b.Hi)), .p (.val (.int .u64 b.Lo))]), (104, .var [.p (.val (.int .u64 (0 : Int))), .p (.val (.int .u64 (0 : Int)))]), (105, .var [.p (.val (.int .u64 (0 : Int))), .p (.val (.int .u64 (0 : Int)))]), (106, .var [.p (.val (.int .u64 q2)), .p (.val (.int .u64 q3))]), (107, .var [.p (.val (.int .u64 r2)), .p (.val (.int .u64 r3))])]⟩) ?_
              replace H1 := bind_some H1
              obtain ⟨y, h_3, H1⟩ := H1
              refine lok_rt (Env.of E0 [⟨some 58, 115, [.agg [.p (.val (.int .u64 r2)), .p (.val (.int .u64 r3))]], [], [.agg [.p (.val (.int .u64 y.Hi)), .p (.val (.int .u64 y.Lo))]], [], True, fun _ => ok_ref01_Twice (ref01_Wide.mk r2 r3) y h_3, []⟩]) (⟨82, mkS [(2, .x (.one (.ptr 102 0))), (3, .x (.one (.ptr 103 0))), (4, .x (.one (.ptr 104 0))), (5, .x (.one (.ptr 105 0))), (6, .x (.one (.ptr 106 0))), (7, .x (.one (.ptr 107 0))), (8, .x (.one (.p (pi i)))), (9, .x (.one (.p (.val (.int .u64 bit1))))), (10, .x (.one (.p (.val (.bool ((bShr .u64 r2 (63 : Int)) == (1 : Int)))))))], mkH [(102, .var [.p (.val (.int .u64 a.Hi)), .p (.val (.int .u64 a.Lo))]), (103, .var [.p (.val (.int .u64 b.Hi)), .p (.val (.int .u64 b.Lo))]), (104, .var [.p (.val (.int .u64 (0 : Int))), .p (.val (.int .u64 (0 : Int)))]), (105, .var [.p (.val (.int .u64 (0 : Int))), .p (.val (.int .u64 (0 : Int)))]), (106, .var [.p (.val (.int .u64 q2)), .p (.val (.int .u64 q3))]), (107, .var [.p (.val (.int .u64 y.Hi)), .p (.val (.int .u64 y.Lo))])]⟩) ?_
              refine lok_rt E0 (⟨82, mkS [(2, .x (.one (.ptr 102 0))), (3, .x (.one (.ptr 103 0))), (4, .x (.one (.ptr 104 0))), (5, .x (.one (.ptr 105 0))), (6, .x (.one (.ptr 106 0))), (7, .x (.one (.ptr 107 0))), (8, .x (.one (.p (pi i)))), (10, .x (.one (.p (.val (.bool ((bShr .u64 r2 (63 : Int)) == (1 : Int)))))))], mkH [(102, .var [.p (.val (.int .u64 a.Hi)), .p (.val (.int .u64 a.Lo))]), (103, .var [.p (.val (.int .u64 b.Hi)), .p (.val (.int .u64 b.Lo))]), (104, .var [.p (.val (.int .u64 (0 : Int))), .p (.val (.int .u64 (0 : Int)))]), (105, .var [.p (.val (.int .u64 (0 : Int))), .p (.val (.int .u64 (0 : Int)))]), (106, .var [.p (.val (.int .u64 q2)), .p (.val (.int .u64 q3))]), (107, .var [.p (.val (.int .u64 y.Hi)), .p (.val (.int .u64 (bOr .u64 y.Lo bit1)))])]⟩) ?_
              replace H1 := bind_some H1
              obtain ⟨y1, h_4, H1⟩ := H1
              refine lok_rt (Env.of E0 [⟨some 65, 115, [.agg [.p (.val (.int .u64 q2)), .p (.val (.int .u64 q3))]], [], [.agg [.p (.val (.int .u64 y1.Hi)), .p (.val (.int .u64 y1.Lo))]], [], True, fun _ => ok_ref01_Twice (ref01_Wide.mk q2 q3) y1 h_4, []⟩]) (⟨82, mkS [(2, .x (.one (.ptr 102 0))), (3, .x (.one (.ptr 103 0))), (4, .x (.one (.ptr 104 0))), (5, .x (.one (.ptr 105 0))), (6, .x (.one (.ptr 106 0))), (7, .x (.one (.ptr 107 0))), (8, .x (.one (.p (pi i)))), (10, .x (.one (.p (.val (.bool ((bShr .u64 r2 (63 : Int)) == (1 : Int)))))))], mkH [(102, .var [.p (.val (.int .u64 a.Hi)), .p (.val (.int .u64 a.Lo))]), (103, .var [.p (.val (.int .u64 b.Hi)), .p (.val (.int .u64 b.Lo))]), (104, .var [.p (.val (.int .u64 (0 : Int))), .p (.val (.int .u64 (0 : Int)))]), (105, .var [.p (.val (.int .u64 (0 : Int))), .p (.val (.int .u64 (0 : Int)))]), (106, .var [.p (.val (.int .u64 y1.Hi)), .p (.val (.int .u64 y1.Lo))]), (107, .var [.p (.val (.int .u64 y.Hi)), .p (.val (.int .u64 (bOr .u64 y.Lo bit1)))])]⟩) ?_
              replace H1 := req_some H1
              obtain ⟨q_7, H1⟩ := H1
              refine lok_rt (Env.of E0 [⟨some 70, 109, [.agg [.p (.val (.int .u64 y.Hi)), .p (.val (.int .u64 (bOr .u64 y.Lo bit1)))], .agg [.p (.val (.int .u64 b.Hi)), .p (.val (.int .u64 b.Lo))]], [], [.one (.p (pi ((ref01_Order (ref01_Wide.mk y.Hi (bOr .u64 y.Lo bit1)) b).getD default)))], [], (ref01_Order (ref01_Wide.mk y.Hi (bOr .u64 y.Lo bit1)) b).isSome = true, fun h => ok_ref01_Order (ref01_Wide.mk y.Hi (bOr .u64 y.Lo bit1)) b _ (isSome_get h), []⟩]) (⟨82, mkS [(2, .x (.one (.ptr 102 0))), (3, .x (.one (.ptr 103 0))), (4, .x (.one (.ptr 104 0))), (5, .x (.one (.ptr 105 0))), (6, .x (.one (.ptr 106 0))), (7, .x (.one (.ptr 107 0))), (8, .x (.one (.p (pi i)))), (72, .x (.one (.p (.val (.bool (((bShr .u64 r2 (63 : Int)) == (1 : Int)) || (decide ((0 : Int) ≤ ((ref01_Order (ref01_Wide.mk y.Hi (bOr .u64 y.Lo bit1)) b).getD default)))))))))], mkH [(102, .var [.p (.val (.int .u64 a.Hi)), .p (.val (.int .u64 a.Lo))]), (103, .var [.p (.val (.int .u64 b.Hi)), .p (.val (.int .u64 b.Lo))]), (104, .var [.p (.val (.int .u64 (0 : Int))), .p (.val (.int .u64 (0 : Int)))]), (105, .var [.p (.val (.int .u64 (0 : Int))), .p (.val (.int .u64 (0 : Int)))]), (106, .var [.p (.val (.int .u64 y1.Hi)), .p (.val (.int .u64 y1.Lo))]), (107, .var [.p (.val (.int .u64 y.Hi)), .p (.val (.int .u64 (bOr .u64 y.Lo bit1)))])]⟩) ?_
              refine lok_c (((bShr .u64 r2 (63 : Int)) == (1 : Int)) || (decide ((0 : Int) ≤ ((ref01_Order (ref01_Wide.mk y.Hi (bOr .u64 y.Lo bit1)) b).getD default)))) ?_ ?_
              · intro b_6
                replace H1 := cpos H1 b_6
                replace H1 := bind_some H1
                obtain ⟨y2, h_5, H1⟩ := H1
                refine lok_rt (Env.of E0 [⟨some 75, 110, [.agg [.p (.val (.int .u64 y.Hi)), .p (.val (.int .u64 (bOr .u64 y.Lo bit1)))], .agg [.p (.val (.int .u64 b.Hi)), .p (.val (.int .u64 b.Lo))]], [], [.agg [.p (.val (.int .u64 y2.Hi)), .p (.val (.int .u64 y2.Lo))]], [], True, fun _ => ok_ref01_Minus (ref01_Wide.mk y.Hi (bOr .u64 y.Lo bit1)) b y2 h_5, []⟩]) (⟨82, mkS [(2, .x (.one (.ptr 102 0))), (3, .x (.one (.ptr 103 0))), (4, .x (.one (.ptr 104 0))), (5, .x (.one (.ptr 105 0))), (6, .x (.one (.ptr 106 0))), (7, .x (.one (.ptr 107 0))), (8, .x (.one (.p (pi i))))], mkH [(102, .var [.p (.val (.int .u64 a.Hi)), .p (.val (.int .u64 a.Lo))]), (103, .var [.p (.val (.int .u64 b.Hi)), .p (.val (.int .u64 b.Lo))]), (104, .var [.p (.val (.int .u64 (0 : Int))), .p (.val (.int .u64 (0 : Int)))]), (105, .var [.p (.val (.int .u64 (0 : Int))), .p (.val (.int .u64 (0 : Int)))]), (106, .var [.p (.val (.int .u64 y1.Hi)), .p (.val (.int .u64 y1.Lo))]), (107, .var [.p (.val (.int .u64 y2.Hi)), .p (.val (.int .u64 y2.Lo))])]⟩) ?_
                refine lok_rl E0 (⟨82, mkS [(2, .x (.one (.ptr 102 0))), (3, .x (.one (.ptr 103 0))), (4, .x (.one (.ptr 104 0))), (5, .x (.one (.ptr 105 0))), (6, .x (.one (.ptr 106 0))), (7, .x (.one (.ptr 107 0))), (8, .x (.one (.p (pi i))))], mkH [(102, .var [.p (.val (.int .u64 a.Hi)), .p (.val (.int .u64 a.Lo))]), (103, .var [.p (.val (.int .u64 b.Hi)), .p (.val (.int .u64 b.Lo))]), (104, .var [.p (.val (.int .u64 (0 : Int))), .p (.val (.int .u64 (0 : Int)))]), (105, .var [.p (.val (.int .u64 (0 : Int))), .p (.val (.int .u64 (0 : Int)))]), (106, .var [.p (.val (.int .u64 y1.Hi)), .p (.val (.int .u64 (bOr .u64 y1.Lo (1 : Int))))]), (107, .var [.p (.val (.int .u64 y2.Hi)), .p (.val (.int .u64 y2.Lo))])]⟩) ?_
                try simp only [thenL, blockL, ↓reduceIte, reduceCtorEq]
                exact ⟨(y1.Hi, (bOr .u64 y1.Lo (1 : Int)), y2.Hi, y2.Lo), H1, imp_au⟩
              · intro b_6
                replace H1 := cneg H1 b_6
                refine lok_skip ?_
                try simp only [thenL, blockL, ↓reduceIte, reduceCtorEq]
                exact ⟨(y1.Hi, y1.Lo, y.Hi, (bOr .u64 y.Lo bit1)), H1, imp_au⟩
            case hxref01_Divide_j3 =>
              refine lok_rt E0 (⟨82, mkS [(2, .x (.one (.ptr 102 0))), (3, .x (.one (.ptr 103 0))), (4, .x (.one (.ptr 104 0))), (5, .x (.one (.ptr 105 0))), (6, .x (.one (.ptr 106 0))), (7, .x (.one (.ptr 107 0))), (8, .x (.one (.p (pi i)))), (9, .x (.one (.p (.val (.int .u64 bit))))), (45, .x (.one (.p (.val (.bool (decide ((64 : Int) ≤ i)))))))], mkH [(102, .var [.p (.val (.int .u64 a.Hi)), .p (.val (.int .u64 a.Lo))]), (103, .var [.p (.val (.int .u64 b.Hi)), .p (.val (.int .u64 b.Lo))]), (104, .var [.p (.val (.int .u64 (0 : Int))), .p (.val (.int .u64 (0 : Int)))]), (105, .var [.p (.val (.int .u64 (0 : Int))), .p (.val (.int .u64 (0 : Int)))]), (106, .var [.p (.val (.int .u64 q2)), .p (.val (.int .u64 q3))]), (107, .var [.p (.val (.int .u64 r2)), .p (.val (.int .u64 r3))])]⟩) ?_
              refine lok_c (decide ((64 : Int) ≤ i)) ?_ ?_
              · intro b_10
                replace H1 := cpos H1 b_10
                replace H1 := req_some H1
                obtain ⟨q_9, H1⟩ := H1
                replace H1 := bindV_some H1
                obtain ⟨bit2, a_8, H1⟩ := H1
                refine lok_rlg E0 a_8 (⟨82, mkS [(2, .x (.one (.ptr 102 0))), (3, .x (.one (.ptr 103 0))), (4, .x (.one (.ptr 104 0))), (5, .x (.one (.ptr 105 0))), (6, .x (.one (.ptr 106 0))), (7, .x (.one (.ptr 107 0))), (8, .x (.one (.p (pi i)))), (9, .x (.one (.p (.val (.int .u64 bit2)))))], mkH [(102, .var [.p (.val (.int .u64 a.Hi)), .p (.val (.int .u64 a.Lo))]), (103, .var [.p (.val (.int .u64 b.Hi)), .p (.val (.int .u64 b.Lo))]), (104, .var [.p (.val (.int .u64 (0 : Int))), .p (.val (.int .u64 (0 : Int)))]), (105, .var [.p (.val (.int .u64 (0 : Int))), .p (.val (.int .u64 (0 : Int)))]), (106, .var [.p (.val (.int .u64 q2)), .p (.val (.int .u64 q3))]), (107, .var [.p (.val (.int .u64 r2)), .p (.val (.int .u64 r3))])]⟩) ?_
                try simp only [thenL, blockL, ↓reduceIte, reduceCtorEq]
                exact ⟨bit2, H1, imp_au⟩
              · intro b_10
                replace H1 := cneg H1 b_10
                refine lok_skip ?_
                try simp only [thenL, blockL, ↓reduceIte, reduceCtorEq]
                exact ⟨bit, H1, imp_au⟩
        · intro b_12
          replace H1 := cneg H1 b_12
          refine lok_exit ?_
          try simp only [thenL, blockL, ↓reduceIte, reduceCtorEq]
          have e_1 := k_1 _ (Option.some.inj H1).symm
          subst e_1
          try dsimp only at H0
          try simp only [thenL, blockL, ↓reduceIte, reduceCtorEq]
          exact ⟨(q2, q3, r2, r3), H0, imp_au⟩
theorem ok_ref01_Divisor (a : ref01_Wide) (b : ref01_Wide) (r_ : ref01_Wide) (H0 : ref01_Divisor a b = some r_) : CallOK Try.prog 95 [.agg [.p (.val (.int .u64 a.Hi)), .p (.val (.int .u64 a.Lo))], .agg [.p (.val (.int .u64 b.Hi)), .p (.val (.int .u64 b.Lo))]] [] [.agg [.p (.val (.int .u64 r_.Hi)), .p (.val (.int .u64 r_.Lo))]] [] := by
  refine callOK (n := 19) (rs := [.cell 4 128]) (nb := 0) (V := []) Try.func95 rfl (by kernel_rfl) rfl rfl rfl rfl (Nat.le_of_ble_eq_true rfl) (by decide) ?_
  unfold ref01_Divisor at H0
  refine lok_rt E0 (⟨19, mkS [(2, .x (.one (.ptr 102 0))), (3, .x (.one (.ptr 103 0))), (4, .x (.one (.ptr 104 0)))], mkH [(102, .var [.p (.val (.int .u64 a.Hi)), .p (.val (.int .u64 a.Lo))]), (103, .var [.p (.val (.int .u64 b.Hi)), .p (.val (.int .u64 b.Lo))]), (104, .var [.p (.val (.int .u64 (0 : Int))), .p (.val (.int .u64 (0 : Int)))])]⟩) ?_
  refine lok_join (fun x_ : Int × Int => ref01_Divisor_j1 x_.1 x_.2 = some r_) (fun x_ => ⟨19, mkS [(2, .x (.one (.ptr 102 0))), (4, .x (.one (.ptr 104 0)))], mkH [(102, .var [.p (.val (.int .u64 x_.1)), .p (.val (.int .u64 x_.2))]), (104, .var [.p (.val (.int .u64 (0 : Int))), .p (.val (.int .u64 (0 : Int)))])]⟩) ?hyref01_Divisor_j1 ?hxref01_Divisor_j1
  case hyref01_Divisor_j1 =>
    rintro ⟨a1, a2⟩ H0
    try dsimp only at H0 ⊢
    unfold ref01_Divisor_j1 at H0
    refine lok_rt E0 (⟨19, mkS [(4, .x (.one (.ptr 104 0)))], mkH [(104, .var [.p (.val (.int .u64 a1)), .p (.val (.int .u64 a2))])]⟩) ?_
    refine lok_ret ?_
    obtain rfl := Option.some.inj H0
    try simp only [thenL, blockL]
    exact fin_au _ (.inr rfl) [] (⟨19, mkS [(4, .x (.one (.ptr 104 0)))], mkH [(104, .var [.p (.val (.int .u64 a1)), .p (.val (.int .u64 a2))])]⟩) rfl rfl imp_au
  case hxref01_Divisor_j1 =>
    refine lok_block ?_
    replace H0 := bind_some H0
    obtain ⟨v_0, hv_0, H0⟩ := H0
    refine lok_iter (fun x_ => ⟨19, mkS [(2, .x (.one (.ptr 102 0))), (3, .x (.one (.ptr 103 0))), (4, .x (.one (.ptr 104 0)))], mkH [(102, .var [.p (.val (.int .u64 x_.1)), .p (.val (.int .u64 x_.2.1))]), (103, .var [.p (.val (.int .u64 x_.2.2.1)), .p (.val (.int .u64 x_.2.2.2))]), (104, .var [.p (.val (.int .u64 (0 : Int))), .p (.val (.int .u64 (0 : Int)))])]⟩) hv_0 imp_au ?_
    · rintro ⟨a3, a4, b1, b2⟩ o_1 H1 k_1
      unfold ref01_Divisor_l2 at H1
      try dsimp only at H1 ⊢
      refine lok_seq ?_
      refine lok_rt E0 (⟨19, mkS [(2, .x (.one (.ptr 102 0))), (3, .x (.one (.ptr 103 0))), (4, .x (.one (.ptr 104 0))), (9, .x (.one (.p (.val (.bool (!((b1 == (0 : Int)) && (b2 == (0 : Int)))))))))], mkH [(102, .var [.p (.val (.int .u64 a3)), .p (.val (.int .u64 a4))]), (103, .var [.p (.val (.int .u64 b1)), .p (.val (.int .u64 b2))]), (104, .var [.p (.val (.int .u64 (0 : Int))), .p (.val (.int .u64 (0 : Int)))])]⟩) ?_
      refine lok_c (!((b1 == (0 : Int)) && (b2 == (0 : Int)))) ?_ ?_
      · intro b_2
        replace H1 := cpos H1 b_2
        refine lok_skip ?_
        try simp only [thenL, blockL, ↓reduceIte, reduceCtorEq]
        refine lok_block ?_
        replace H1 := bind_some H1
        obtain ⟨⟨y, y1⟩, h_1, H1⟩ := H1
        try dsimp only at H1
        refine lok_rt (Env.of E0 [⟨some 13, 107, [.agg [.p (.val (.int .u64 a3)), .p (.val (.int .u64 a4))], .agg [.p (.val (.int .u64 b1)), .p (.val (.int .u64 b2))]], [], [.agg [.p (.val (.int .u64 y.Hi)), .p (.val (.int .u64 y.Lo))], .agg [.p (.val (.int .u64 y1.Hi)), .p (.val (.int .u64 y1.Lo))]], [], True, fun _ => ok_ref01_Divide (ref01_Wide.mk a3 a4) (ref01_Wide.mk b1 b2) (y, y1) h_1, []⟩]) (⟨19, mkS [(2, .x (.one (.ptr 102 0))), (3, .x (.one (.ptr 103 0))), (4, .x (.one (.ptr 104 0))), (6, .x (.one (.ptr 106 0)))], mkH [(102, .var [.p (.val (.int .u64 a3)), .p (.val (.int .u64 a4))]), (103, .var [.p (.val (.int .u64 b1)), .p (.val (.int .u64 b2))]), (104, .var [.p (.val (.int .u64 (0 : Int))), .p (.val (.int .u64 (0 : Int)))]), (106, .var [.p (.val (.int .u64 y1.Hi)), .p (.val (.int .u64 y1.Lo))])]⟩) ?_
        refine lok_el E0 19 [⟨[(3, .x (.one (.ptr 103 0)))], [(103, some (.var [.p (.val (.int .u64 b1)), .p (.val (.int .u64 b2))]))], [(16, .x (.agg [.p (.val (.int .u64 b1)), .p (.val (.int .u64 b2))]))], [], none⟩,
      ⟨[(6, .x (.one (.ptr 106 0)))], [(106, some (.var [.p (.val (.int .u64 y1.Hi)), .p (.val (.int .u64 y1.Lo))]))], [(17, .x (.agg [.p (.val (.int .u64 y1.Hi)), .p (.val (.int .u64 y1.Lo))]))], [], none⟩,
      ⟨[(2, .x (.one (.ptr 102 0))), (16, .x (.agg [.p (.val (.int .u64 b1)), .p (.val (.int .u64 b2))]))], [(102, some (.var [.p (.val (.int .u64 a3)), .p (.val (.int .u64 a4))]))], [], [(102, some (.var [.p (.val (.int .u64 b1)), .p (.val (.int .u64 b2))]))], none⟩] (⟨19, mkS [(2, .x (.one (.ptr 102 0))), (3, .x (.one (.ptr 103 0))), (4, .x (.one (.ptr 104 0)))], mkH [(102, .var [.p (.val (.int .u64 b1)), .p (.val (.int .u64 b2))]), (103, .var [.p (.val (.int .u64 y1.Hi)), .p (.val (.int .u64 y1.Lo))]), (104, .var [.p (.val (.int .u64 (0 : Int))), .p (.val (.int .u64 (0 : Int)))])]⟩) (by kernel_rfl) (by kernel_rfl) (by kernel_rfl) rfl rfl rfl ?_
        try simp only [thenL, blockL, ↓reduceIte, reduceCtorEq]
        exact ⟨(b1, b2, y1.Hi, y1.Lo), (Option.some.inj H1).symm, imp_au⟩
      · intro b_2
        replace H1 := cneg H1 b_2
        refine lok_exit ?_
        try simp only [thenL, blockL, ↓reduceIte, reduceCtorEq]
        have e_1 := k_1 _ (Option.some.inj H1).symm
        subst e_1
        try dsimp only at H0
        try simp only [thenL, blockL, ↓reduceIte, reduceCtorEq]
        exact ⟨(a3, a4), H0, imp_au⟩
theorem ok_ref01_Valid (a : api_Ratio) (r_ : Bool) (H0 : ref01_Valid a = some r_) : CallOK Try.prog 60 [.agg [.p (pi a.Num), .p (pi a.Den)]] [] [.one (.p (.val (.bool r_)))] [] := by
  refine callOK (n := 32) (rs := [.tmp 2]) (nb := 0) (V := []) Try.func60 rfl (by kernel_rfl) rfl rfl rfl rfl (Nat.le_of_ble_eq_true rfl) (by decide) ?_
  unfold ref01_Valid at H0
  refine lok_rt E0 (⟨32, mkS [(1, .x (.one (.ptr 101 0)))], mkH [(101, .var [.p (pi a.Num), .p (pi a.Den)])]⟩) ?_
  refine lok_seq ?_
  refine lok_rt E0 (⟨32, mkS [(1, .x (.one (.ptr 101 0))), (20, .x (.one (.p (.val (.bool ((((decide (a.Den < (1 : Int))) || (decide ((1152921504606846976 : Int) < a.Den))) || (decide (a.Num < (-1152921504606846976 : Int)))) || (decide ((1152921504606846976 : Int) < a.Num))))))))], mkH [(101, .var [.p (pi a.Num), .p (pi a.Den)])]⟩) ?_
  refine lok_c ((((decide (a.Den < (1 : Int))) || (decide ((1152921504606846976 : Int) < a.Den))) || (decide (a.Num < (-1152921504606846976 : Int)))) || (decide ((1152921504606846976 : Int) < a.Num))) ?_ ?_
  · intro b_3
    replace H0 := cpos H0 b_3
    refine lok_rt E0 (⟨32, mkS [(2, .x (.one (.p (.val (.bool false)))))], mkH []⟩) ?_
    refine lok_ret ?_
    obtain rfl := Option.some.inj H0
    try simp only [thenL, blockL]
    exact fin_au _ (.inr rfl) [] (⟨32, mkS [(2, .x (.one (.p (.val (.bool false)))))], mkH []⟩) rfl rfl imp_au
  · intro b_3
    replace H0 := cneg H0 b_3
    refine lok_skip ?_
    try simp only [thenL, blockL, ↓reduceIte, reduceCtorEq]
    replace H0 := bind_some H0
    obtain ⟨y, h_0, H0⟩ := H0
    replace H0 := bind_some H0
    obtain ⟨y1, h_1, H0⟩ := H0
    replace H0 := bind_some H0
    obtain ⟨y2, h_2, H0⟩ := H0
    refine lok_dt (Env.of E0 [⟨some 23, 89, [.one (.p (pi a.Num))], [], [.one (.p (.val (.int .u64 y)))], [], True, fun _ => ok_ref01_Size a.Num y h_0, []⟩,
      ⟨some 27, 89, [.one (.p (pi a.Den))], [], [.one (.p (.val (.int .u64 y1)))], [], True, fun _ => ok_ref01_Size a.Den y1 h_1, []⟩,
      ⟨some 29, 95, [.agg [.p (.val (.int .u64 (0 : Int))), .p (.val (.int .u64 y))], .agg [.p (.val (.int .u64 (0 : Int))), .p (.val (.int .u64 y1))]], [], [.agg [.p (.val (.int .u64 y2.Hi)), .p (.val (.int .u64 y2.Lo))]], [], True, fun _ => ok_ref01_Divisor (ref01_Wide.mk (0 : Int) y) (ref01_Wide.mk (0 : Int) y1) y2 h_2, []⟩]) 10 (⟨32, mkS [(2, .x (.one (.p (.val (.bool ((y2.Hi == (0 : Int)) && (y2.Lo == (1 : Int))))))))], mkH []⟩) (by kernel_rfl) (by kernel_rfl) ?_
    refine lok_ret ?_
    obtain rfl := Option.some.inj H0
    try simp only [thenL, blockL]
    exact fin_au _ (.inr rfl) [] (⟨32, mkS [(2, .x (.one (.p (.val (.bool ((y2.Hi == (0 : Int)) && (y2.Lo == (1 : Int))))))))], mkH []⟩) rfl rfl imp_au
theorem ok_ref01_floor (n : Int) (d : Int) (r_ : Int) (H0 : ref01_floor n d = some r_) : CallOK Try.prog 61 [.one (.p (pi n)), .one (.p (pi d))] [] [.one (.p (pi r_))] [] := by
  refine callOK (n := 16) (rs := [.tmp 4]) (nb := 0) (V := []) Try.func61 rfl (by kernel_rfl) rfl rfl rfl rfl (Nat.le_of_ble_eq_true rfl) (by decide) ?_
  unfold ref01_floor at H0
  refine lok_rt E0 (⟨16, mkS [(0, .x (.one (.p (pi n)))), (1, .x (.one (.p (pi d))))], mkH []⟩) ?_
  replace H0 := req_some H0
  obtain ⟨q_2, H0⟩ := H0
  refine lok_rt E0 (⟨16, mkS [(0, .x (.one (.p (pi n)))), (1, .x (.one (.p (pi d)))), (5, .x (.one (.p (pi (IntKind.i64.wrap (Int.tdiv n d))))))], mkH []⟩) ?_
  refine lok_join (fun x_ : Int => ref01_floor_j1 x_ = some r_) (fun x_ => ⟨16, mkS [(5, .x (.one (.p (pi x_))))], mkH []⟩) ?hyref01_floor_j1 ?hxref01_floor_j1
  case hyref01_floor_j1 =>
    rintro q H0
    try dsimp only at H0 ⊢
    unfold ref01_floor_j1 at H0
    refine lok_rt E0 (⟨16, mkS [(4, .x (.one (.p (pi q))))], mkH []⟩) ?_
    refine lok_ret ?_
    obtain rfl := Option.some.inj H0
    try simp only [thenL, blockL]
    exact fin_au _ (.inr rfl) [] (⟨16, mkS [(4, .x (.one (.p (pi q))))], mkH []⟩) rfl rfl imp_au
  case hxref01_floor_j1 =>
    replace H0 := req_some H0
    obtain ⟨q_1, H0⟩ := H0
    refine lok_rt E0 (⟨16, mkS [(5, .x (.one (.p (pi (IntKind.i64.wrap (Int.tdiv n d)))))), (12, .x (.one (.p (.val (.bool (decide ((Int.tmod n d) < (0 : Int))))))))], mkH []⟩) ?_
    refine lok_c (decide ((Int.tmod n d) < (0 : Int))) ?_ ?_
    · intro b_0
      replace H0 := cpos H0 b_0
      refine lok_rl E0 (⟨16, mkS [(5, .x (.one (.p (pi (IntKind.i64.wrap ((IntKind.i64.wrap (Int.tdiv n d)) - (1 : Int)))))))], mkH []⟩) ?_
      try simp only [thenL, blockL, ↓reduceIte, reduceCtorEq]
      exact ⟨(IntKind.i64.wrap ((IntKind.i64.wrap (Int.tdiv n d)) - (1 : Int))), H0, imp_au⟩
    · intro b_0
      replace H0 := cneg H0 b_0
      refine lok_skip ?_
      try simp only [thenL, blockL, ↓reduceIte, reduceCtorEq]
      exact ⟨(IntKind.i64.wrap (Int.tdiv n d)), H0, imp_au⟩
theorem ok_ref01_Ceil (a : api_Ratio) (r_ : Int) (H0 : ref01_Ceil a = some r_) : CallOK Try.prog 29 [.agg [.p (pi a.Num), .p (pi a.Den)]] [] [.one (.p (pi r_))] [] := by
  refine callOK (n := 13) (rs := [.tmp 2]) (nb := 0) (V := []) Try.func29 rfl (by kernel_rfl) rfl rfl rfl rfl (Nat.le_of_ble_eq_true rfl) (by decide) ?_
  unfold ref01_Ceil at H0
  refine lok_rt E0 (⟨13, mkS [(1, .x (.one (.ptr 101 0)))], mkH [(101, .var [.p (pi a.Num), .p (pi a.Den)])]⟩) ?_
  refine lok_seq ?_
  replace H0 := bind_some H0
  obtain ⟨y, h_0, H0⟩ := H0
  refine lok_rt (Env.of E0 [⟨some 4, 60, [.agg [.p (pi a.Num), .p (pi a.Den)]], [], [.one (.p (.val (.bool y)))], [], True, fun _ => ok_ref01_Valid a y h_0, []⟩]) (⟨13, mkS [(1, .x (.one (.ptr 101 0))), (5, .x (.one (.p (.val (.bool (!y))))))], mkH [(101, .var [.p (pi a.Num), .p (pi a.Den)])]⟩) ?_
  refine lok_c (!y) ?_ ?_
  · intro b_2
    replace H0 := cpos H0 b_2
    refine lok_rt E0 (⟨13, mkS [(2, .x (.one (.p (pi (0 : Int)))))], mkH []⟩) ?_
    refine lok_ret ?_
    obtain rfl := Option.some.inj H0
    try simp only [thenL, blockL]
    exact fin_au _ (.inr rfl) [] (⟨13, mkS [(2, .x (.one (.p (pi (0 : Int)))))], mkH []⟩) rfl rfl imp_au
  · intro b_2
    replace H0 := cneg H0 b_2
    refine lok_skip ?_
    try simp only [thenL, blockL, ↓reduceIte, reduceCtorEq]
    replace H0 := bind_some H0
    obtain ⟨y1, h_1, H0⟩ := H0
    refine lok_rt (Env.of E0 [⟨some 11, 61, [.one (.p (pi (IntKind.i64.wrap (0 - a.Num)))), .one (.p (pi a.Den))], [], [.one (.p (pi y1))], [], True, fun _ => ok_ref01_floor (IntKind.i64.wrap (0 - a.Num)) a.Den y1 h_1, []⟩]) (⟨13, mkS [(2, .x (.one (.p (pi (IntKind.i64.wrap (0 - y1))))))], mkH []⟩) ?_
    refine lok_ret ?_
    obtain rfl := Option.some.inj H0
    try simp only [thenL, blockL]
    exact fin_au _ (.inr rfl) [] (⟨13, mkS [(2, .x (.one (.p (pi (IntKind.i64.wrap (0 - y1))))))], mkH []⟩) rfl rfl imp_au
theorem ok_law36_AggregateRises (t : List Int) (n : Int) (m : Int) (r_ : Bool) (H0 : law36_AggregateRises t n m = some r_) : CallOK Try.prog 5 [.one (.p (.sl 1 (List.map encI t))), .one (.p (.val (.int .u8 n))), .one (.p (.val (.int .u8 m)))] [] [.one (.p (.val (.bool r_)))] [] := by
  refine callOK (n := 166) (rs := [.tmp 6]) (nb := 0) (V := []) Try.func5 rfl (by kernel_rfl) rfl rfl rfl rfl (Nat.le_of_ble_eq_true rfl) (by decide) ?_
  unfold law36_AggregateRises at H0
  refine lok_rt E0 (⟨166, mkS [(0, .x (.one (.p (.sl 1 (List.map encI t))))), (1, .x (.one (.p (.val (.int .u8 n))))), (2, .x (.one (.p (.val (.int .u8 m)))))], mkH []⟩) ?_
  refine lok_seq ?_
  replace H0 := bind_some H0
  obtain ⟨y, h_0, H0⟩ := H0
  refine lok_rt (Env.of E0 [⟨some 25, 10, [.one (.p (.sl 1 (List.map encI t)))], [], [.one (.p (.val (.bool y)))], [], True, fun _ => ok_mark_Light t y h_0, []⟩]) (⟨166, mkS [(0, .x (.one (.p (.sl 1 (List.map encI t))))), (1, .x (.one (.p (.val (.int .u8 n))))), (2, .x (.one (.p (.val (.int .u8 m))))), (26, .x (.one (.p (.val (.bool (!y))))))], mkH []⟩) ?_
  refine lok_c (!y) ?_ ?_
  · intro b_22
    replace H0 := cpos H0 b_22
    replace H0 := bind_some H0
    obtain ⟨y1, h_1, H0⟩ := H0
    refine lok_rt (Env.of E0 [⟨some 27, 11, [], [], [.one (.p (.val (.bool y1)))], [], True, fun _ => ok_law36_sane y1 h_1, []⟩]) (⟨166, mkS [(6, .x (.one (.p (.val (.bool y1)))))], mkH []⟩) ?_
    refine lok_ret ?_
    obtain rfl := Option.some.inj H0
    try simp only [thenL, blockL]
    exact fin_au _ (.inr rfl) [] (⟨166, mkS [(6, .x (.one (.p (.val (.bool y1)))))], mkH []⟩) rfl rfl imp_au
  · intro b_22
    replace H0 := cneg H0 b_22
    refine lok_skip ?_
    try simp only [thenL, blockL, ↓reduceIte, reduceCtorEq]
    replace H0 := bind_some H0
    obtain ⟨y2, h_2, H0⟩ := H0
    refine lok_rt (Env.of E0 [⟨some 29, 12, [.one (.p (.sl 1 (List.map encI t)))], [], [.one (.ptr 0 0)], [some (.var [.p (.sl 1 (List.map encI y2.L)), .p (pi y2.At)])], True, fun _ => ok_mark_Roll t y2 h_2, []⟩]) (⟨166, mkS [(1, .x (.one (.p (.val (.int .u8 n))))), (2, .x (.one (.p (.val (.int .u8 m))))), (7, .x (.one (.ptr 1029 0)))], mkH [(1029, .var [.p (.sl 1 (List.map encI y2.L)), .p (pi y2.At)])]⟩) ?_
    replace H0 := bind_some H0
    obtain ⟨⟨y3, y4⟩, h_3, H0⟩ := H0
    try dsimp only at H0
    replace H0 := bind_some H0
    obtain ⟨⟨y5, y6⟩, h_4, H0⟩ := H0
    try dsimp only at H0
    refine lok_rt (Env.of E0 [⟨some 32, 14, [.one (.ptr 0 0), .one (.p (pi (4 : Int)))], [.var [.p (.sl 1 (List.map encI y2.L)), .p (pi y2.At)]], [.one (.p (pi y3))], [some (.var [.p (.sl 1 (List.map encI y4.L)), .p (pi y4.At)])], True, fun _ => ok_mark_Dice_Next y2 (4 : Int) (y3, y4) h_3, []⟩,
      ⟨some 34, 13, [.one (.ptr 0 0), .one (.p (pi (IntKind.i64.wrap ((1 : Int) + y3))))], [.var [.p (.sl 1 (List.map encI y4.L)), .p (pi y4.At)]], [.agg [.p (.sl 3 (List.map enc_api_Unit y5.Units)), .p (.sl 1 (List.map encI y5.Bounds)), .p (pi y5.Max)]], [some (.var [.p (.sl 1 (List.map encI y6.L)), .p (pi y6.At)])], True, fun _ => ok_mark_Dice_Award y4 (IntKind.i64.wrap ((1 : Int) + y3)) (y5, y6) h_4, []⟩]) (⟨166, mkS [(1, .x (.one (.p (.val (.int .u8 n))))), (2, .x (.one (.p (.val (.int .u8 m))))), (7, .x (.one (.ptr 1029 0))), (8, .x (.one (.ptr 108 0)))], mkH [(108, .var [.p (.sl 3 (List.map enc_api_Unit y5.Units)), .p (.sl 1 (List.map encI y5.Bounds)), .p (pi y5.Max)]), (1029, .var [.p (.sl 1 (List.map encI y6.L)), .p (pi y6.At)])]⟩) ?_
    replace H0 := bind_some H0
    obtain ⟨⟨y7, y8⟩, h_5, H0⟩ := H0
    try dsimp only at H0
    refine lok_rt (Env.of E0 [⟨some 37, 15, [.one (.ptr 0 0), .agg [.p (.sl 3 (List.map enc_api_Unit y5.Units)), .p (.sl 1 (List.map encI y5.Bounds)), .p (pi y5.Max)]], [.var [.p (.sl 1 (List.map encI y6.L)), .p (pi y6.At)]], [.one (.vw 1)], [some (.var [.p (.sl 1 (List.map encI y8.L)), .p (pi y8.At)]), some (.arr 3 (List.map enc_api_UnitMark y7))], True, fun _ => ok_mark_Dice_Marks y6 y5 (y7, y8) h_5, []⟩]) (⟨166, mkS [(1, .x (.one (.p (.val (.int .u8 n))))), (2, .x (.one (.p (.val (.int .u8 m))))), (8, .x (.one (.ptr 108 0))), (9, .x (.one (.vw 1037)))], mkH [(108, .var [.p (.sl 3 (List.map enc_api_Unit y5.Units)), .p (.sl 1 (List.map encI y5.Bounds)), .p (pi y5.Max)]), (1037, .arr 3 (List.map enc_api_UnitMark y7))]⟩) ?_
    replace H0 := bind_some H0
    obtain ⟨⟨y9, y10, y11, y12⟩, h_6, H0⟩ := H0
    try dsimp only at H0
    refine lok_rt (Env.of E0 [⟨some 41, 25, [.agg [.p (.sl 3 (List.map enc_api_Unit y5.Units)), .p (.sl 1 (List.map encI y5.Bounds)), .p (pi y5.Max)], .one (.p (.sl 3 (List.map enc_api_UnitMark y7))), .one (.p (pi (10 : Int)))], [], [.one (.p (pi y9)), .one (.p (pi y10)), .one (.p (pi y11)), .one (.p (pi y12))], [], True, fun _ => ok_aggregate_Decide y5 y7 (10 : Int) (y9, y10, y11, y12) h_6, []⟩]) (⟨166, mkS [(1, .x (.one (.p (.val (.int .u8 n))))), (2, .x (.one (.p (.val (.int .u8 m))))), (8, .x (.one (.ptr 108 0))), (9, .x (.one (.vw 1037))), (10, .x (.one (.p (pi y9)))), (11, .x (.one (.p (pi y10)))), (12, .x (.one (.p (pi y11)))), (13, .x (.one (.p (pi y12))))], mkH [(108, .var [.p (.sl 3 (List.map enc_api_Unit y5.Units)), .p (.sl 1 (List.map encI y5.Bounds)), .p (pi y5.Max)]), (1037, .arr 3 (List.map enc_api_UnitMark y7))]⟩) ?_
    refine lok_seq ?_
    refine lok_rt E0 (⟨166, mkS [(1, .x (.one (.p (.val (.int .u8 n))))), (2, .x (.one (.p (.val (.int .u8 m))))), (8, .x (.one (.ptr 108 0))), (9, .x (.one (.vw 1037))), (10, .x (.one (.p (pi y9)))), (11, .x (.one (.p (pi y10)))), (12, .x (.one (.p (pi y11)))), (47, .x (.one (.p (.val (.bool (y12 != (0 : Int)))))))], mkH [(108, .var [.p (.sl 3 (List.map enc_api_Unit y5.Units)), .p (.sl 1 (List.map encI y5.Bounds)), .p (pi y5.Max)]), (1037, .arr 3 (List.map enc_api_UnitMark y7))]⟩) ?_
    refine lok_c (y12 != (0 : Int)) ?_ ?_
    · intro b_21
      replace H0 := cpos H0 b_21
      refine lok_rt E0 (⟨166, mkS [(6, .x (.one (.p (.val (.bool false)))))], mkH []⟩) ?_
      refine lok_ret ?_
      obtain rfl := Option.some.inj H0
      try simp only [thenL, blockL]
      exact fin_au _ (.inr rfl) [] (⟨166, mkS [(6, .x (.one (.p (.val (.bool false)))))], mkH []⟩) rfl rfl imp_au
    · intro b_21
      replace H0 := cneg H0 b_21
      refine lok_skip ?_
      try simp only [thenL, blockL, ↓reduceIte, reduceCtorEq]
      replace H0 := req_some H0
      obtain ⟨q_20, H0⟩ := H0
      refine lok_rt E0 (⟨166, mkS [(2, .x (.one (.p (.val (.int .u8 m))))), (8, .x (.one (.ptr 108 0))), (9, .x (.one (.vw 1037))), (10, .x (.one (.p (pi y9)))), (11, .x (.one (.p (pi y10)))), (12, .x (.one (.p (pi y11)))), (14, .x (.one (.p (pi (Int.tmod (IntKind.i64.wrap n) (y7.length : Int))))))], mkH [(108, .var [.p (.sl 3 (List.map enc_api_Unit y5.Units)), .p (.sl 1 (List.map encI y5.Bounds)), .p (pi y5.Max)]), (1037, .arr 3 (List.map enc_api_UnitMark y7))]⟩) ?_
      replace H0 := req_some H0
      obtain ⟨q_19, H0⟩ := H0
      refine lok_rt E0 (⟨166, mkS [(2, .x (.one (.p (.val (.int .u8 m))))), (8, .x (.one (.ptr 108 0))), (9, .x (.one (.vw 1037))), (10, .x (.one (.p (pi y9)))), (11, .x (.one (.p (pi y10)))), (12, .x (.one (.p (pi y11)))), (14, .x (.one (.p (pi (Int.tmod (IntKind.i64.wrap n) (y7.length : Int)))))), (15, .x (.one (.vw 154)))], mkH [(108, .var [.p (.sl 3 (List.map enc_api_Unit y5.Units)), .p (.sl 1 (List.map encI y5.Bounds)), .p (pi y5.Max)]), (154, .arr 3 (List.map enc_api_UnitMark y7)), (1037, .arr 3 (List.map enc_api_UnitMark y7))]⟩) ?_
      refine lok_join (fun x_ : (List api_UnitMark) => law36_AggregateRises_j1 m y5 y7 y9 y10 y11 x_ = some r_) (fun x_ => ⟨166, mkS [(2, .x (.one (.p (.val (.int .u8 m))))), (8, .x (.one (.ptr 108 0))), (9, .x (.one (.vw 1037))), (10, .x (.one (.p (pi y9)))), (11, .x (.one (.p (pi y10)))), (12, .x (.one (.p (pi y11)))), (15, .x (.one (.vw 154)))], mkH [(108, .var [.p (.sl 3 (List.map enc_api_Unit y5.Units)), .p (.sl 1 (List.map encI y5.Bounds)), .p (pi y5.Max)]), (154, .arr 3 (List.map enc_api_UnitMark x_)), (1037, .arr 3 (List.map enc_api_UnitMark y7))]⟩) ?hylaw36_AggregateRises_j1 ?hxlaw36_AggregateRises_j1
      case hylaw36_AggregateRises_j1 =>
        rintro w H0
        try dsimp only at H0 ⊢
        unfold law36_AggregateRises_j1 at H0
        replace H0 := bind_some H0
        obtain ⟨⟨y13, y14, y15, y16⟩, h_7, H0⟩ := H0
        try dsimp only at H0
        refine lok_rt (Env.of E0 [⟨some 86, 25, [.agg [.p (.sl 3 (List.map enc_api_Unit y5.Units)), .p (.sl 1 (List.map encI y5.Bounds)), .p (pi y5.Max)], .one (.p (.sl 3 (List.map enc_api_UnitMark w))), .one (.p (pi (10 : Int)))], [], [.one (.p (pi y13)), .one (.p (pi y14)), .one (.p (pi y15)), .one (.p (pi y16))], [], True, fun _ => ok_aggregate_Decide y5 w (10 : Int) (y13, y14, y15, y16) h_7, []⟩]) (⟨166, mkS [(2, .x (.one (.p (.val (.int .u8 m))))), (8, .x (.one (.ptr 108 0))), (9, .x (.one (.vw 1037))), (10, .x (.one (.p (pi y9)))), (11, .x (.one (.p (pi y10)))), (12, .x (.one (.p (pi y11)))), (16, .x (.one (.p (pi y13)))), (17, .x (.one (.p (pi y14)))), (18, .x (.one (.p (pi y15)))), (19, .x (.one (.p (pi y16))))], mkH [(108, .var [.p (.sl 3 (List.map enc_api_Unit y5.Units)), .p (.sl 1 (List.map encI y5.Bounds)), .p (pi y5.Max)]), (1037, .arr 3 (List.map enc_api_UnitMark y7))]⟩) ?_
        replace H0 := bind_some H0
        obtain ⟨⟨y17, y18, y19, y20⟩, h_8, H0⟩ := H0
        try dsimp only at H0
        refine lok_rt (Env.of E0 [⟨some 98, 25, [.agg [.p (.sl 3 (List.map enc_api_Unit y5.Units)), .p (.sl 1 (List.map encI y5.Bounds)), .p (pi y5.Max)], .one (.p (.sl 3 (List.map enc_api_UnitMark y7))), .one (.p (pi (IntKind.i64.wrap ((10 : Int) + (IntKind.i64.wrap (Int.tmod m (30 : Int)))))))], [], [.one (.p (pi y17)), .one (.p (pi y18)), .one (.p (pi y19)), .one (.p (pi y20))], [], True, fun _ => ok_aggregate_Decide y5 y7 (IntKind.i64.wrap ((10 : Int) + (IntKind.i64.wrap (Int.tmod m (30 : Int))))) (y17, y18, y19, y20) h_8, []⟩]) (⟨166, mkS [(8, .x (.one (.ptr 108 0))), (10, .x (.one (.p (pi y9)))), (11, .x (.one (.p (pi y10)))), (12, .x (.one (.p (pi y11)))), (16, .x (.one (.p (pi y13)))), (17, .x (.one (.p (pi y14)))), (18, .x (.one (.p (pi y15)))), (19, .x (.one (.p (pi y16)))), (20, .x (.one (.p (pi y17)))), (21, .x (.one (.p (pi y18)))), (22, .x (.one (.p (pi y19)))), (23, .x (.one (.p (pi y20))))], mkH [(108, .var [.p (.sl 3 (List.map enc_api_Unit y5.Units)), .p (.sl 1 (List.map encI y5.Bounds)), .p (pi y5.Max)])]⟩) ?_
        refine lok_seq ?_
        refine lok_rt E0 (⟨166, mkS [(8, .x (.one (.ptr 108 0))), (10, .x (.one (.p (pi y9)))), (11, .x (.one (.p (pi y10)))), (12, .x (.one (.p (pi y11)))), (17, .x (.one (.p (pi y14)))), (18, .x (.one (.p (pi y15)))), (21, .x (.one (.p (pi y18)))), (22, .x (.one (.p (pi y19)))), (118, .x (.one (.p (.val (.bool ((((y16 != (0 : Int)) || (y20 != (0 : Int))) || (y13 != y9)) || (y17 != y9)))))))], mkH [(108, .var [.p (.sl 3 (List.map enc_api_Unit y5.Units)), .p (.sl 1 (List.map encI y5.Bounds)), .p (pi y5.Max)])]⟩) ?_
        refine lok_c ((((y16 != (0 : Int)) || (y20 != (0 : Int))) || (y13 != y9)) || (y17 != y9)) ?_ ?_
        · intro b_10
          replace H0 := cpos H0 b_10
          refine lok_rt E0 (⟨166, mkS [(6, .x (.one (.p (.val (.bool false)))))], mkH []⟩) ?_
          refine lok_ret ?_
          obtain rfl := Option.some.inj H0
          try simp only [thenL, blockL]
          exact fin_au _ (.inr rfl) [] (⟨166, mkS [(6, .x (.one (.p (.val (.bool false)))))], mkH []⟩) rfl rfl imp_au
        · intro b_10
          replace H0 := cneg H0 b_10
          refine lok_skip ?_
          try simp only [thenL, blockL, ↓reduceIte, reduceCtorEq]
          replace H0 := req_some H0
          obtain ⟨q_9, H0⟩ := H0
          refine lok_rt (Env.of E0 [⟨some 164, 11, [], [], [.one (.p (.val (.bool ((law36_sane).getD default))))], [], (law36_sane).isSome = true, fun h => ok_law36_sane _ (isSome_get h), []⟩]) (⟨166, mkS [(6, .x (.one (.p (.val (.bool (((((((((y9 == (0 : Int)) && (decide ((0 : Int) ≤ y11))) && (decide (y11 ≤ y5.Max))) && (decide (y11 ≤ y15))) && (decide (y11 ≤ y19))) && (decide (y14 ≤ y10))) && (decide (y18 ≤ y10))) || (((y9 != (0 : Int)) && (y11 == (0 : Int))) && (y10 == (0 : Int)))) && ((law36_sane).getD default)))))))], mkH []⟩) ?_
          refine lok_ret ?_
          obtain rfl := Option.some.inj H0
          try simp only [thenL, blockL]
          exact fin_au _ (.inr rfl) [] (⟨166, mkS [(6, .x (.one (.p (.val (.bool (((((((((y9 == (0 : Int)) && (decide ((0 : Int) ≤ y11))) && (decide (y11 ≤ y5.Max))) && (decide (y11 ≤ y15))) && (decide (y11 ≤ y19))) && (decide (y14 ≤ y10))) && (decide (y18 ≤ y10))) || (((y9 != (0 : Int)) && (y11 == (0 : Int))) && (y10 == (0 : Int)))) && ((law36_sane).getD default)))))))], mkH []⟩) rfl rfl imp_au
      case hxlaw36_AggregateRises_j1 =>
        replace H0 := req_some H0
        obtain ⟨q_18, H0⟩ := H0
        refine lok_rt E0 (⟨166, mkS [(2, .x (.one (.p (.val (.int .u8 m))))), (8, .x (.one (.ptr 108 0))), (9, .x (.one (.vw 1037))), (10, .x (.one (.p (pi y9)))), (11, .x (.one (.p (pi y10)))), (12, .x (.one (.p (pi y11)))), (14, .x (.one (.p (pi (Int.tmod (IntKind.i64.wrap n) (y7.length : Int)))))), (15, .x (.one (.vw 154))), (60, .x (.one (.p (.val (.bool ((ix y7 (Int.tmod (IntKind.i64.wrap n) (y7.length : Int))).Kind == (0 : Int)))))))], mkH [(108, .var [.p (.sl 3 (List.map enc_api_Unit y5.Units)), .p (.sl 1 (List.map encI y5.Bounds)), .p (pi y5.Max)]), (154, .arr 3 (List.map enc_api_UnitMark y7)), (1037, .arr 3 (List.map enc_api_UnitMark y7))]⟩) ?_
        refine lok_c ((ix y7 (Int.tmod (IntKind.i64.wrap n) (y7.length : Int))).Kind == (0 : Int)) ?_ ?_
        · intro b_17
          replace H0 := cpos H0 b_17
          replace H0 := req_some H0
          obtain ⟨⟨q_14, q_15⟩, H0⟩ := H0
          replace H0 := bind_some H0
          obtain ⟨y21, h_11, H0⟩ := H0
          replace H0 := bind_some H0
          obtain ⟨y22, h_12, H0⟩ := H0
          replace H0 := req_some H0
          obtain ⟨q_16, H0⟩ := H0
          replace H0 := bindV_some H0
          obtain ⟨w1, a_13, H0⟩ := H0
          refine lok_dlg (Env.of E0 [⟨some 74, 29, [.agg [.p (pi (((ix y7 (Int.tmod (IntKind.i64.wrap n) (y7.length : Int))).Value).Num)), .p (pi (((ix y7 (Int.tmod (IntKind.i64.wrap n) (y7.length : Int))).Value).Den))]], [], [.one (.p (pi y21))], [], True, fun _ => ok_ref01_Ceil ((ix y7 (Int.tmod (IntKind.i64.wrap n) (y7.length : Int))).Value) y21 h_11, []⟩,
      ⟨some 80, 17, [.one (.p (pi (imin ((ix y5.Units (Int.tmod (IntKind.i64.wrap n) (y7.length : Int))).Max) (IntKind.i64.wrap (y21 + (IntKind.i64.wrap (Int.tmod m (5 : Int))))))))], [], [.agg [.p (pi y22.Num), .p (pi y22.Den)]], [], True, fun _ => ok_law36_whole (imin ((ix y5.Units (Int.tmod (IntKind.i64.wrap n) (y7.length : Int))).Max) (IntKind.i64.wrap (y21 + (IntKind.i64.wrap (Int.tmod m (5 : Int)))))) y22 h_12, []⟩]) 20 a_13 (⟨166, mkS [(2, .x (.one (.p (.val (.int .u8 m))))), (8, .x (.one (.ptr 108 0))), (9, .x (.one (.vw 1037))), (10, .x (.one (.p (pi y9)))), (11, .x (.one (.p (pi y10)))), (12, .x (.one (.p (pi y11)))), (15, .x (.one (.vw 154)))], mkH [(108, .var [.p (.sl 3 (List.map enc_api_Unit y5.Units)), .p (.sl 1 (List.map encI y5.Bounds)), .p (pi y5.Max)]), (154, .arr 3 (List.map enc_api_UnitMark w1)), (1037, .arr 3 (List.map enc_api_UnitMark y7))]⟩) (by kernel_rfl) (by kernel_rfl) ?_
          try simp only [thenL, blockL, ↓reduceIte, reduceCtorEq]
          exact ⟨w1, H0, imp_au⟩
        · intro b_17
          replace H0 := cneg H0 b_17
          refine lok_skip ?_
          try simp only [thenL, blockL, ↓reduceIte, reduceCtorEq]
          exact ⟨y7, H0, imp_au⟩
theorem ok_law36_AggregateOrder (t : List Int) (k : Int) (r_ : Bool) (H0 : law36_AggregateOrder t k = some r_) : CallOK Try.prog 6 [.one (.p (.sl 1 (List.map encI t))), .one (.p (.val (.int .u8 k)))] [] [.one (.p (.val (.bool r_)))] [] := by
  refine callOK (n := 130) (rs := [.tmp 4]) (nb := 0) (V := []) Try.func6 rfl (by kernel_rfl) rfl rfl rfl rfl (Nat.le_of_ble_eq_true rfl) (by decide) ?_
  unfold law36_AggregateOrder at H0
  refine lok_rt E0 (⟨130, mkS [(0, .x (.one (.p (.sl 1 (List.map encI t))))), (1, .x (.one (.p (.val (.int .u8 k)))))], mkH []⟩) ?_
  refine lok_seq ?_
  replace H0 := bind_some H0
  obtain ⟨y, h_0, H0⟩ := H0
  refine lok_rt (Env.of E0 [⟨some 22, 10, [.one (.p (.sl 1 (List.map encI t)))], [], [.one (.p (.val (.bool y)))], [], True, fun _ => ok_mark_Light t y h_0, []⟩]) (⟨130, mkS [(0, .x (.one (.p (.sl 1 (List.map encI t))))), (1, .x (.one (.p (.val (.int .u8 k))))), (23, .x (.one (.p (.val (.bool (!y))))))], mkH []⟩) ?_
  refine lok_c (!y) ?_ ?_
  · intro b_23
    replace H0 := cpos H0 b_23
    replace H0 := bind_some H0
    obtain ⟨y1, h_1, H0⟩ := H0
    refine lok_rt (Env.of E0 [⟨some 24, 11, [], [], [.one (.p (.val (.bool y1)))], [], True, fun _ => ok_law36_sane y1 h_1, []⟩]) (⟨130, mkS [(4, .x (.one (.p (.val (.bool y1)))))], mkH []⟩) ?_
    refine lok_ret ?_
    obtain rfl := Option.some.inj H0
    try simp only [thenL, blockL]
    exact fin_au _ (.inr rfl) [] (⟨130, mkS [(4, .x (.one (.p (.val (.bool y1)))))], mkH []⟩) rfl rfl imp_au
  · intro b_23
    replace H0 := cneg H0 b_23
    refine lok_skip ?_
    try simp only [thenL, blockL, ↓reduceIte, reduceCtorEq]
    replace H0 := bind_some H0
    obtain ⟨y2, h_2, H0⟩ := H0
    refine lok_rt (Env.of E0 [⟨some 26, 12, [.one (.p (.sl 1 (List.map encI t)))], [], [.one (.ptr 0 0)], [some (.var [.p (.sl 1 (List.map encI y2.L)), .p (pi y2.At)])], True, fun _ => ok_mark_Roll t y2 h_2, []⟩]) (⟨130, mkS [(1, .x (.one (.p (.val (.int .u8 k))))), (5, .x (.one (.ptr 1026 0)))], mkH [(1026, .var [.p (.sl 1 (List.map encI y2.L)), .p (pi y2.At)])]⟩) ?_
    replace H0 := bind_some H0
    obtain ⟨⟨y3, y4⟩, h_3, H0⟩ := H0
    try dsimp only at H0
    replace H0 := bind_some H0
    obtain ⟨⟨y5, y6⟩, h_4, H0⟩ := H0
    try dsimp only at H0
    refine lok_rt (Env.of E0 [⟨some 29, 14, [.one (.ptr 0 0), .one (.p (pi (4 : Int)))], [.var [.p (.sl 1 (List.map encI y2.L)), .p (pi y2.At)]], [.one (.p (pi y3))], [some (.var [.p (.sl 1 (List.map encI y4.L)), .p (pi y4.At)])], True, fun _ => ok_mark_Dice_Next y2 (4 : Int) (y3, y4) h_3, []⟩,
      ⟨some 31, 13, [.one (.ptr 0 0), .one (.p (pi (IntKind.i64.wrap ((1 : Int) + y3))))], [.var [.p (.sl 1 (List.map encI y4.L)), .p (pi y4.At)]], [.agg [.p (.sl 3 (List.map enc_api_Unit y5.Units)), .p (.sl 1 (List.map encI y5.Bounds)), .p (pi y5.Max)]], [some (.var [.p (.sl 1 (List.map encI y6.L)), .p (pi y6.At)])], True, fun _ => ok_mark_Dice_Award y4 (IntKind.i64.wrap ((1 : Int) + y3)) (y5, y6) h_4, []⟩]) (⟨130, mkS [(1, .x (.one (.p (.val (.int .u8 k))))), (5, .x (.one (.ptr 1026 0))), (6, .x (.one (.ptr 106 0)))], mkH [(106, .var [.p (.sl 3 (List.map enc_api_Unit y5.Units)), .p (.sl 1 (List.map encI y5.Bounds)), .p (pi y5.Max)]), (1026, .var [.p (.sl 1 (List.map encI y6.L)), .p (pi y6.At)])]⟩) ?_
    replace H0 := bind_some H0
    obtain ⟨⟨y7, y8⟩, h_5, H0⟩ := H0
    try dsimp only at H0
    refine lok_rt (Env.of E0 [⟨some 34, 15, [.one (.ptr 0 0), .agg [.p (.sl 3 (List.map enc_api_Unit y5.Units)), .p (.sl 1 (List.map encI y5.Bounds)), .p (pi y5.Max)]], [.var [.p (.sl 1 (List.map encI y6.L)), .p (pi y6.At)]], [.one (.vw 1)], [some (.var [.p (.sl 1 (List.map encI y8.L)), .p (pi y8.At)]), some (.arr 3 (List.map enc_api_UnitMark y7))], True, fun _ => ok_mark_Dice_Marks y6 y5 (y7, y8) h_5, []⟩]) (⟨130, mkS [(1, .x (.one (.p (.val (.int .u8 k))))), (6, .x (.one (.ptr 106 0))), (7, .x (.one (.vw 1034)))], mkH [(106, .var [.p (.sl 3 (List.map enc_api_Unit y5.Units)), .p (.sl 1 (List.map encI y5.Bounds)), .p (pi y5.Max)]), (1034, .arr 3 (List.map enc_api_UnitMark y7))]⟩) ?_
    refine lok_et E0 130 [⟨[(6, .x (.one (.ptr 106 0)))], [(106, some (.var [.p (.sl 3 (List.map enc_api_Unit y5.Units)), .p (.sl 1 (List.map encI y5.Bounds)), .p (pi y5.Max)]))], [(35, .x (.agg [.p (.sl 3 (List.map enc_api_Unit y5.Units)), .p (.sl 1 (List.map encI y5.Bounds)), .p (pi y5.Max)]))], [], none⟩,
      ⟨[(6, .x (.one (.ptr 106 0)))], [(106, some (.var [.p (.sl 3 (List.map enc_api_Unit y5.Units)), .p (.sl 1 (List.map encI y5.Bounds)), .p (pi y5.Max)]))], [(36, .x (.agg [.p (.sl 3 (List.map enc_api_Unit y5.Units)), .p (.sl 1 (List.map encI y5.Bounds)), .p (pi y5.Max)]))], [], none⟩,
      ⟨[], [(108, none)], [(8, .x (.one (.ptr 108 0)))], [(108, some (.var [.p .nil, .p .nil, .p (pi (0 : Int))]))], some 108⟩,
      ⟨[], [(109, none)], [(9, .x (.one (.ptr 109 0)))], [(109, some (.var [.p .nil, .p .nil, .p (pi (0 : Int))]))], some 109⟩,
      ⟨[(8, .x (.one (.ptr 108 0))), (35, .x (.agg [.p (.sl 3 (List.map enc_api_Unit y5.Units)), .p (.sl 1 (List.map encI y5.Bounds)), .p (pi y5.Max)]))], [(108, some (.var [.p .nil, .p .nil, .p (pi (0 : Int))]))], [], [(108, some (.var [.p (.sl 3 (List.map enc_api_Unit y5.Units)), .p (.sl 1 (List.map encI y5.Bounds)), .p (pi y5.Max)]))], none⟩] (⟨130, mkS [(1, .x (.one (.p (.val (.int .u8 k))))), (6, .x (.one (.ptr 106 0))), (7, .x (.one (.vw 1034))), (8, .x (.one (.ptr 108 0))), (9, .x (.one (.ptr 109 0)))], mkH [(106, .var [.p (.sl 3 (List.map enc_api_Unit y5.Units)), .p (.sl 1 (List.map encI y5.Bounds)), .p (pi y5.Max)]), (108, .var [.p (.sl 3 (List.map enc_api_Unit y5.Units)), .p (.sl 1 (List.map encI y5.Bounds)), .p (pi y5.Max)]), (109, .var [.p (.sl 3 (List.map enc_api_Unit y5.Units)), .p (.sl 1 (List.map encI y5.Bounds)), .p (pi y5.Max)]), (1034, .arr 3 (List.map enc_api_UnitMark y7))]⟩) (by kernel_rfl) (by kernel_rfl) (by kernel_rfl) rfl rfl rfl ?_
    refine lok_rt E0 (⟨130, mkS [(1, .x (.one (.p (.val (.int .u8 k))))), (6, .x (.one (.ptr 106 0))), (7, .x (.one (.vw 1034))), (8, .x (.one (.ptr 108 0))), (9, .x (.one (.ptr 109 0)))], mkH [(106, .var [.p (.sl 3 (List.map enc_api_Unit y5.Units)), .p (.sl 1 (List.map encI y5.Bounds)), .p (pi y5.Max)]), (108, .var [.p .nil, .p (.sl 1 (List.map encI y5.Bounds)), .p (pi y5.Max)]), (109, .var [.p .nil, .p (.sl 1 (List.map encI y5.Bounds)), .p (pi y5.Max)]), (1034, .arr 3 (List.map enc_api_UnitMark y7))]⟩) ?_
    refine lok_rt E0 (⟨130, mkS [(1, .x (.one (.p (.val (.int .u8 k))))), (6, .x (.one (.ptr 106 0))), (7, .x (.one (.vw 1034))), (8, .x (.one (.ptr 108 0))), (9, .x (.one (.ptr 109 0))), (10, .x (.one (.vw 110)))], mkH [(106, .var [.p (.sl 3 (List.map enc_api_Unit y5.Units)), .p (.sl 1 (List.map encI y5.Bounds)), .p (pi y5.Max)]), (108, .var [.p .nil, .p (.sl 1 (List.map encI y5.Bounds)), .p (pi y5.Max)]), (109, .var [.p .nil, .p (.sl 1 (List.map encI y5.Bounds)), .p (pi y5.Max)]), (110, .arr 3 (List.map enc_api_UnitMark ([] : List api_UnitMark))), (1034, .arr 3 (List.map enc_api_UnitMark y7))]⟩) ?_
    refine lok_join (fun x_ : (List api_UnitMark) × (List api_Unit) => law36_AggregateOrder_j3 k y5 y7 x_.1 x_.2 = some r_) (fun x_ => ⟨130, mkS [(1, .x (.one (.p (.val (.int .u8 k))))), (6, .x (.one (.ptr 106 0))), (7, .x (.one (.vw 1034))), (8, .x (.one (.ptr 108 0))), (9, .x (.one (.ptr 109 0))), (10, .x (.one (.vw 110)))], mkH [(106, .var [.p (.sl 3 (List.map enc_api_Unit y5.Units)), .p (.sl 1 (List.map encI y5.Bounds)), .p (pi y5.Max)]), (108, .var [.vw 160, .p (.sl 1 (List.map encI y5.Bounds)), .p (pi y5.Max)]), (109, .var [.p .nil, .p (.sl 1 (List.map encI y5.Bounds)), .p (pi y5.Max)]), (110, .arr 3 (List.map enc_api_UnitMark x_.1)), (160, .arr 3 (List.map enc_api_Unit x_.2)), (1034, .arr 3 (List.map enc_api_UnitMark y7))]⟩) ?hylaw36_AggregateOrder_j3 ?hxlaw36_AggregateOrder_j3
    case hylaw36_AggregateOrder_j3 =>
      rintro ⟨back, w⟩ H0
      try dsimp only at H0 ⊢
      unfold law36_AggregateOrder_j3 at H0
      refine lok_join (fun x_ : (List api_Unit) => law36_AggregateOrder_j1 y5 y7 back w x_ = some r_) (fun x_ => ⟨130, mkS [(6, .x (.one (.ptr 106 0))), (7, .x (.one (.vw 1034))), (8, .x (.one (.ptr 108 0))), (9, .x (.one (.ptr 109 0))), (10, .x (.one (.vw 110)))], mkH [(106, .var [.p (.sl 3 (List.map enc_api_Unit y5.Units)), .p (.sl 1 (List.map encI y5.Bounds)), .p (pi y5.Max)]), (108, .var [.vw 160, .p (.sl 1 (List.map encI y5.Bounds)), .p (pi y5.Max)]), (109, .var [.vw 188, .p (.sl 1 (List.map encI y5.Bounds)), .p (pi y5.Max)]), (110, .arr 3 (List.map enc_api_UnitMark back)), (160, .arr 3 (List.map enc_api_Unit w)), (188, .arr 3 (List.map enc_api_Unit x_)), (1034, .arr 3 (List.map enc_api_UnitMark y7))]⟩) ?hylaw36_AggregateOrder_j1 ?hxlaw36_AggregateOrder_j1
      case hylaw36_AggregateOrder_j1 =>
        rintro w1 H0
        try dsimp only at H0 ⊢
        unfold law36_AggregateOrder_j1 at H0
        replace H0 := bind_some H0
        obtain ⟨⟨y9, y10⟩, h_6, H0⟩ := H0
        try dsimp only at H0
        refine lok_rt (Env.of E0 [⟨some 94, 21, [.agg [.p (.sl 3 (List.map enc_api_Unit y5.Units)), .p (.sl 1 (List.map encI y5.Bounds)), .p (pi y5.Max)], .one (.p (.sl 3 (List.map enc_api_UnitMark y7))), .one (.p (pi (20 : Int)))], [], [.agg [.p (pi y9.Num), .p (pi y9.Den)], .one (.p (pi y10))], [], True, fun _ => ok_aggregate_Exact y5 y7 (20 : Int) (y9, y10) h_6, []⟩]) (⟨130, mkS [(7, .x (.one (.vw 1034))), (8, .x (.one (.ptr 108 0))), (9, .x (.one (.ptr 109 0))), (10, .x (.one (.vw 110))), (15, .x (.one (.ptr 115 0))), (16, .x (.one (.p (pi y10))))], mkH [(108, .var [.vw 160, .p (.sl 1 (List.map encI y5.Bounds)), .p (pi y5.Max)]), (109, .var [.vw 188, .p (.sl 1 (List.map encI y5.Bounds)), .p (pi y5.Max)]), (110, .arr 3 (List.map enc_api_UnitMark back)), (115, .var [.p (pi y9.Num), .p (pi y9.Den)]), (160, .arr 3 (List.map enc_api_Unit w)), (188, .arr 3 (List.map enc_api_Unit w1)), (1034, .arr 3 (List.map enc_api_UnitMark y7))]⟩) ?_
        replace H0 := bind_some H0
        obtain ⟨⟨y11, y12⟩, h_7, H0⟩ := H0
        try dsimp only at H0
        refine lok_rt (Env.of E0 [⟨some 100, 21, [.agg [.p (.sl 3 (List.map enc_api_Unit w)), .p (.sl 1 (List.map encI y5.Bounds)), .p (pi y5.Max)], .one (.p (.sl 3 (List.map enc_api_UnitMark back))), .one (.p (pi (20 : Int)))], [], [.agg [.p (pi y11.Num), .p (pi y11.Den)], .one (.p (pi y12))], [], True, fun _ => ok_aggregate_Exact (api_Award.mk w y5.Bounds y5.Max) back (20 : Int) (y11, y12) h_7, []⟩]) (⟨130, mkS [(7, .x (.one (.vw 1034))), (9, .x (.one (.ptr 109 0))), (15, .x (.one (.ptr 115 0))), (16, .x (.one (.p (pi y10)))), (17, .x (.one (.ptr 117 0))), (18, .x (.one (.p (pi y12))))], mkH [(109, .var [.vw 188, .p (.sl 1 (List.map encI y5.Bounds)), .p (pi y5.Max)]), (115, .var [.p (pi y9.Num), .p (pi y9.Den)]), (117, .var [.p (pi y11.Num), .p (pi y11.Den)]), (188, .arr 3 (List.map enc_api_Unit w1)), (1034, .arr 3 (List.map enc_api_UnitMark y7))]⟩) ?_
        replace H0 := bind_some H0
        obtain ⟨⟨y13, y14⟩, h_8, H0⟩ := H0
        try dsimp only at H0
        refine lok_rt (Env.of E0 [⟨some 106, 21, [.agg [.p (.sl 3 (List.map enc_api_Unit w1)), .p (.sl 1 (List.map encI y5.Bounds)), .p (pi y5.Max)], .one (.p (.sl 3 (List.map enc_api_UnitMark y7))), .one (.p (pi (20 : Int)))], [], [.agg [.p (pi y13.Num), .p (pi y13.Den)], .one (.p (pi y14))], [], True, fun _ => ok_aggregate_Exact (api_Award.mk w1 y5.Bounds y5.Max) y7 (20 : Int) (y13, y14) h_8, []⟩]) (⟨130, mkS [(15, .x (.one (.ptr 115 0))), (16, .x (.one (.p (pi y10)))), (17, .x (.one (.ptr 117 0))), (18, .x (.one (.p (pi y12)))), (19, .x (.one (.ptr 119 0))), (20, .x (.one (.p (pi y14))))], mkH [(115, .var [.p (pi y9.Num), .p (pi y9.Den)]), (117, .var [.p (pi y11.Num), .p (pi y11.Den)]), (119, .var [.p (pi y13.Num), .p (pi y13.Den)])]⟩) ?_
        replace H0 := req_some H0
        obtain ⟨q_9, H0⟩ := H0
        refine lok_rt (Env.of E0 [⟨some 128, 11, [], [], [.one (.p (.val (.bool ((law36_sane).getD default))))], [], (law36_sane).isSome = true, fun h => ok_law36_sane _ (isSome_get h), []⟩]) (⟨130, mkS [(4, .x (.one (.p (.val (.bool (((((y10 == y12) && (y10 == y14)) && ((y9.Num == y11.Num) && (y9.Den == y11.Den))) && ((y9.Num == y13.Num) && (y9.Den == y13.Den))) && ((law36_sane).getD default)))))))], mkH []⟩) ?_
        refine lok_ret ?_
        obtain rfl := Option.some.inj H0
        try simp only [thenL, blockL]
        exact fin_au _ (.inr rfl) [] (⟨130, mkS [(4, .x (.one (.p (.val (.bool (((((y10 == y12) && (y10 == y14)) && ((y9.Num == y11.Num) && (y9.Den == y11.Den))) && ((y9.Num == y13.Num) && (y9.Den == y13.Den))) && ((law36_sane).getD default)))))))], mkH []⟩) rfl rfl imp_au
      case hxlaw36_AggregateOrder_j1 =>
        refine lok_rt E0 (⟨130, mkS [(1, .x (.one (.p (.val (.int .u8 k))))), (6, .x (.one (.ptr 106 0))), (7, .x (.one (.vw 1034))), (8, .x (.one (.ptr 108 0))), (9, .x (.one (.ptr 109 0))), (10, .x (.one (.vw 110))), (70, .x (.one (.p (.sl 3 (List.map enc_api_Unit y5.Units))))), (71, .x (.one (.p (pi (y5.Units.length : Int))))), (72, .x (.one (.p (pi (0 : Int)))))], mkH [(106, .var [.p (.sl 3 (List.map enc_api_Unit y5.Units)), .p (.sl 1 (List.map encI y5.Bounds)), .p (pi y5.Max)]), (108, .var [.vw 160, .p (.sl 1 (List.map encI y5.Bounds)), .p (pi y5.Max)]), (109, .var [.p .nil, .p (.sl 1 (List.map encI y5.Bounds)), .p (pi y5.Max)]), (110, .arr 3 (List.map enc_api_UnitMark back)), (160, .arr 3 (List.map enc_api_Unit w)), (1034, .arr 3 (List.map enc_api_UnitMark y7))]⟩) ?_
        refine lok_block ?_
        replace H0 := bind_some H0
        obtain ⟨v_10, hv_10, H0⟩ := H0
        refine lok_iter (fun x_ => ⟨130, mkS [(1, .x (.one (.p (.val (.int .u8 k))))), (6, .x (.one (.ptr 106 0))), (7, .x (.one (.vw 1034))), (8, .x (.one (.ptr 108 0))), (9, .x (.one (.ptr 109 0))), (10, .x (.one (.vw 110))), (70, .x (.one (.p (.sl 3 (List.map enc_api_Unit y5.Units))))), (71, .x (.one (.p (pi (y5.Units.length : Int))))), (72, .x (.one (.p (pi x_.1))))], mkH [(106, .var [.p (.sl 3 (List.map enc_api_Unit y5.Units)), .p (.sl 1 (List.map encI y5.Bounds)), .p (pi y5.Max)]), (108, .var [.vw 160, .p (.sl 1 (List.map encI y5.Bounds)), .p (pi y5.Max)]), (109, .var [.vw 188, .p (.sl 1 (List.map encI y5.Bounds)), .p (pi y5.Max)]), (110, .arr 3 (List.map enc_api_UnitMark back)), (160, .arr 3 (List.map enc_api_Unit w)), (188, .arr 3 (List.map enc_api_Unit x_.2)), (1034, .arr 3 (List.map enc_api_UnitMark y7))]⟩) hv_10 imp_au ?_
        · rintro ⟨v, w2⟩ o_1 H1 k_1
          unfold law36_AggregateOrder_l2 at H1
          try dsimp only at H1 ⊢
          refine lok_rt E0 (⟨130, mkS [(1, .x (.one (.p (.val (.int .u8 k))))), (6, .x (.one (.ptr 106 0))), (7, .x (.one (.vw 1034))), (8, .x (.one (.ptr 108 0))), (9, .x (.one (.ptr 109 0))), (10, .x (.one (.vw 110))), (70, .x (.one (.p (.sl 3 (List.map enc_api_Unit y5.Units))))), (71, .x (.one (.p (pi (y5.Units.length : Int))))), (72, .x (.one (.p (pi v)))), (73, .x (.one (.p (.val (.bool (decide (v < (y5.Units.length : Int))))))))], mkH [(106, .var [.p (.sl 3 (List.map enc_api_Unit y5.Units)), .p (.sl 1 (List.map encI y5.Bounds)), .p (pi y5.Max)]), (108, .var [.vw 160, .p (.sl 1 (List.map encI y5.Bounds)), .p (pi y5.Max)]), (109, .var [.vw 188, .p (.sl 1 (List.map encI y5.Bounds)), .p (pi y5.Max)]), (110, .arr 3 (List.map enc_api_UnitMark back)), (160, .arr 3 (List.map enc_api_Unit w)), (188, .arr 3 (List.map enc_api_Unit w2)), (1034, .arr 3 (List.map enc_api_UnitMark y7))]⟩) ?_
          refine lok_seq ?_
          refine lok_c (decide (v < (y5.Units.length : Int))) ?_ ?_
          · intro b_15
            replace H1 := cpos H1 b_15
            refine lok_skip ?_
            try simp only [thenL, blockL, ↓reduceIte, reduceCtorEq]
            refine lok_seq ?_
            refine lok_block ?_
            replace H1 := req_some H1
            obtain ⟨q_14, H1⟩ := H1
            refine lok_rt E0 (⟨130, mkS [(1, .x (.one (.p (.val (.int .u8 k))))), (6, .x (.one (.ptr 106 0))), (7, .x (.one (.vw 1034))), (8, .x (.one (.ptr 108 0))), (9, .x (.one (.ptr 109 0))), (10, .x (.one (.vw 110))), (14, .x (.one (.ptr 114 0))), (70, .x (.one (.p (.sl 3 (List.map enc_api_Unit y5.Units))))), (71, .x (.one (.p (pi (y5.Units.length : Int))))), (72, .x (.one (.p (pi v))))], mkH [(106, .var [.p (.sl 3 (List.map enc_api_Unit y5.Units)), .p (.sl 1 (List.map encI y5.Bounds)), .p (pi y5.Max)]), (108, .var [.vw 160, .p (.sl 1 (List.map encI y5.Bounds)), .p (pi y5.Max)]), (109, .var [.vw 188, .p (.sl 1 (List.map encI y5.Bounds)), .p (pi y5.Max)]), (110, .arr 3 (List.map enc_api_UnitMark back)), (114, .var [.p (pi ((ix y5.Units v).Paper)), .p (pi ((ix y5.Units v).Weight)), .p (pi ((ix y5.Units v).Max))]), (160, .arr 3 (List.map enc_api_Unit w)), (188, .arr 3 (List.map enc_api_Unit w2)), (1034, .arr 3 (List.map enc_api_UnitMark y7))]⟩) ?_
            replace H1 := bindV_some H1
            obtain ⟨u, a_11, H1⟩ := H1
            refine lok_rtg E0 a_11 (⟨130, mkS [(1, .x (.one (.p (.val (.int .u8 k))))), (6, .x (.one (.ptr 106 0))), (7, .x (.one (.vw 1034))), (8, .x (.one (.ptr 108 0))), (9, .x (.one (.ptr 109 0))), (10, .x (.one (.vw 110))), (14, .x (.one (.ptr 114 0))), (70, .x (.one (.p (.sl 3 (List.map enc_api_Unit y5.Units))))), (71, .x (.one (.p (pi (y5.Units.length : Int))))), (72, .x (.one (.p (pi v))))], mkH [(106, .var [.p (.sl 3 (List.map enc_api_Unit y5.Units)), .p (.sl 1 (List.map encI y5.Bounds)), .p (pi y5.Max)]), (108, .var [.vw 160, .p (.sl 1 (List.map encI y5.Bounds)), .p (pi y5.Max)]), (109, .var [.vw 188, .p (.sl 1 (List.map encI y5.Bounds)), .p (pi y5.Max)]), (110, .arr 3 (List.map enc_api_UnitMark back)), (114, .var [.p (pi ((ix y5.Units v).Paper)), .p (pi u), .p (pi ((ix y5.Units v).Max))]), (160, .arr 3 (List.map enc_api_Unit w)), (188, .arr 3 (List.map enc_api_Unit w2)), (1034, .arr 3 (List.map enc_api_UnitMark y7))]⟩) ?_
            replace H1 := req_some H1
            obtain ⟨q_13, H1⟩ := H1
            replace H1 := bindV_some H1
            obtain ⟨w4, a_12, H1⟩ := H1
            refine lok_rlg E0 a_12 (⟨130, mkS [(1, .x (.one (.p (.val (.int .u8 k))))), (6, .x (.one (.ptr 106 0))), (7, .x (.one (.vw 1034))), (8, .x (.one (.ptr 108 0))), (9, .x (.one (.ptr 109 0))), (10, .x (.one (.vw 110))), (70, .x (.one (.p (.sl 3 (List.map enc_api_Unit y5.Units))))), (71, .x (.one (.p (pi (y5.Units.length : Int))))), (72, .x (.one (.p (pi v))))], mkH [(106, .var [.p (.sl 3 (List.map enc_api_Unit y5.Units)), .p (.sl 1 (List.map encI y5.Bounds)), .p (pi y5.Max)]), (108, .var [.vw 160, .p (.sl 1 (List.map encI y5.Bounds)), .p (pi y5.Max)]), (109, .var [.vw 188, .p (.sl 1 (List.map encI y5.Bounds)), .p (pi y5.Max)]), (110, .arr 3 (List.map enc_api_UnitMark back)), (160, .arr 3 (List.map enc_api_Unit w)), (188, .arr 3 (List.map enc_api_Unit w4)), (1034, .arr 3 (List.map enc_api_UnitMark y7))]⟩) ?_
            try simp only [thenL, blockL, ↓reduceIte, reduceCtorEq]
            refine lok_rl E0 (⟨130, mkS [(1, .x (.one (.p (.val (.int .u8 k))))), (6, .x (.one (.ptr 106 0))), (7, .x (.one (.vw 1034))), (8, .x (.one (.ptr 108 0))), (9, .x (.one (.ptr 109 0))), (10, .x (.one (.vw 110))), (70, .x (.one (.p (.sl 3 (List.map enc_api_Unit y5.Units))))), (71, .x (.one (.p (pi (y5.Units.length : Int))))), (72, .x (.one (.p (pi (IntKind.i64.wrap (v + (1 : Int)))))))], mkH [(106, .var [.p (.sl 3 (List.map enc_api_Unit y5.Units)), .p (.sl 1 (List.map encI y5.Bounds)), .p (pi y5.Max)]), (108, .var [.vw 160, .p (.sl 1 (List.map encI y5.Bounds)), .p (pi y5.Max)]), (109, .var [.vw 188, .p (.sl 1 (List.map encI y5.Bounds)), .p (pi y5.Max)]), (110, .arr 3 (List.map enc_api_UnitMark back)), (160, .arr 3 (List.map enc_api_Unit w)), (188, .arr 3 (List.map enc_api_Unit w4)), (1034, .arr 3 (List.map enc_api_UnitMark y7))]⟩) ?_
            try simp only [thenL, blockL, ↓reduceIte, reduceCtorEq]
            exact ⟨((IntKind.i64.wrap (v + (1 : Int))), w4), (Option.some.inj H1).symm, imp_au⟩
          · intro b_15
            replace H1 := cneg H1 b_15
            refine lok_exit ?_
            try simp only [thenL, blockL, ↓reduceIte, reduceCtorEq]
            have e_1 := k_1 _ (Option.some.inj H1).symm
            subst e_1
            try dsimp only at H0
            try simp only [thenL, blockL, ↓reduceIte, reduceCtorEq]
            exact ⟨w2, H0, imp_au⟩
    case hxlaw36_AggregateOrder_j3 =>
      refine lok_rt E0 (⟨130, mkS [(1, .x (.one (.p (.val (.int .u8 k))))), (6, .x (.one (.ptr 106 0))), (7, .x (.one (.vw 1034))), (8, .x (.one (.ptr 108 0))), (9, .x (.one (.ptr 109 0))), (10, .x (.one (.vw 110))), (11, .x (.one (.p (pi (IntKind.i64.wrap ((y7.length : Int) - (1 : Int)))))))], mkH [(106, .var [.p (.sl 3 (List.map enc_api_Unit y5.Units)), .p (.sl 1 (List.map encI y5.Bounds)), .p (pi y5.Max)]), (108, .var [.p .nil, .p (.sl 1 (List.map encI y5.Bounds)), .p (pi y5.Max)]), (109, .var [.p .nil, .p (.sl 1 (List.map encI y5.Bounds)), .p (pi y5.Max)]), (110, .arr 3 (List.map enc_api_UnitMark ([] : List api_UnitMark))), (1034, .arr 3 (List.map enc_api_UnitMark y7))]⟩) ?_
      refine lok_block ?_
      replace H0 := bind_some H0
      obtain ⟨v_16, hv_16, H0⟩ := H0
      refine lok_iter (fun x_ => ⟨130, mkS [(1, .x (.one (.p (.val (.int .u8 k))))), (6, .x (.one (.ptr 106 0))), (7, .x (.one (.vw 1034))), (8, .x (.one (.ptr 108 0))), (9, .x (.one (.ptr 109 0))), (10, .x (.one (.vw 110))), (11, .x (.one (.p (pi x_.1))))], mkH [(106, .var [.p (.sl 3 (List.map enc_api_Unit y5.Units)), .p (.sl 1 (List.map encI y5.Bounds)), .p (pi y5.Max)]), (108, .var [.vw 160, .p (.sl 1 (List.map encI y5.Bounds)), .p (pi y5.Max)]), (109, .var [.p .nil, .p (.sl 1 (List.map encI y5.Bounds)), .p (pi y5.Max)]), (110, .arr 3 (List.map enc_api_UnitMark x_.2.1)), (160, .arr 3 (List.map enc_api_Unit x_.2.2)), (1034, .arr 3 (List.map enc_api_UnitMark y7))]⟩) hv_16 imp_au ?_
      · rintro ⟨i, back1, w5⟩ o_1 H1 k_1
        unfold law36_AggregateOrder_l4 at H1
        try dsimp only at H1 ⊢
        refine lok_seq ?_
        refine lok_rt E0 (⟨130, mkS [(1, .x (.one (.p (.val (.int .u8 k))))), (6, .x (.one (.ptr 106 0))), (7, .x (.one (.vw 1034))), (8, .x (.one (.ptr 108 0))), (9, .x (.one (.ptr 109 0))), (10, .x (.one (.vw 110))), (11, .x (.one (.p (pi i)))), (43, .x (.one (.p (.val (.bool (decide ((0 : Int) ≤ i)))))))], mkH [(106, .var [.p (.sl 3 (List.map enc_api_Unit y5.Units)), .p (.sl 1 (List.map encI y5.Bounds)), .p (pi y5.Max)]), (108, .var [.vw 160, .p (.sl 1 (List.map encI y5.Bounds)), .p (pi y5.Max)]), (109, .var [.p .nil, .p (.sl 1 (List.map encI y5.Bounds)), .p (pi y5.Max)]), (110, .arr 3 (List.map enc_api_UnitMark back1)), (160, .arr 3 (List.map enc_api_Unit w5)), (1034, .arr 3 (List.map enc_api_UnitMark y7))]⟩) ?_
        refine lok_c (decide ((0 : Int) ≤ i)) ?_ ?_
        · intro b_22
          replace H1 := cpos H1 b_22
          refine lok_skip ?_
          try simp only [thenL, blockL, ↓reduceIte, reduceCtorEq]
          refine lok_seq ?_
          refine lok_block ?_
          replace H1 := req_some H1
          obtain ⟨q_21, H1⟩ := H1
          refine lok_rt E0 (⟨130, mkS [(1, .x (.one (.p (.val (.int .u8 k))))), (6, .x (.one (.ptr 106 0))), (7, .x (.one (.vw 1034))), (8, .x (.one (.ptr 108 0))), (9, .x (.one (.ptr 109 0))), (10, .x (.one (.vw 110))), (11, .x (.one (.p (pi i)))), (12, .x (.one (.ptr 112 0)))], mkH [(106, .var [.p (.sl 3 (List.map enc_api_Unit y5.Units)), .p (.sl 1 (List.map encI y5.Bounds)), .p (pi y5.Max)]), (108, .var [.vw 160, .p (.sl 1 (List.map encI y5.Bounds)), .p (pi y5.Max)]), (109, .var [.p .nil, .p (.sl 1 (List.map encI y5.Bounds)), .p (pi y5.Max)]), (110, .arr 3 (List.map enc_api_UnitMark back1)), (112, .var [.p (pi ((ix y5.Units i).Paper)), .p (pi ((ix y5.Units i).Weight)), .p (pi ((ix y5.Units i).Max))]), (160, .arr 3 (List.map enc_api_Unit w5)), (1034, .arr 3 (List.map enc_api_UnitMark y7))]⟩) ?_
          refine lok_rt E0 (⟨130, mkS [(1, .x (.one (.p (.val (.int .u8 k))))), (6, .x (.one (.ptr 106 0))), (7, .x (.one (.vw 1034))), (8, .x (.one (.ptr 108 0))), (9, .x (.one (.ptr 109 0))), (10, .x (.one (.vw 110))), (11, .x (.one (.p (pi i)))), (12, .x (.one (.ptr 112 0)))], mkH [(106, .var [.p (.sl 3 (List.map enc_api_Unit y5.Units)), .p (.sl 1 (List.map encI y5.Bounds)), .p (pi y5.Max)]), (108, .var [.vw 160, .p (.sl 1 (List.map encI y5.Bounds)), .p (pi y5.Max)]), (109, .var [.p .nil, .p (.sl 1 (List.map encI y5.Bounds)), .p (pi y5.Max)]), (110, .arr 3 (List.map enc_api_UnitMark back1)), (112, .var [.p (pi (IntKind.i64.wrap ((10 : Int) + (w5.length : Int)))), .p (pi ((ix y5.Units i).Weight)), .p (pi ((ix y5.Units i).Max))]), (160, .arr 3 (List.map enc_api_Unit w5)), (1034, .arr 3 (List.map enc_api_UnitMark y7))]⟩) ?_
          replace H1 := req_some H1
          obtain ⟨⟨q_18, q_19, q_20⟩, H1⟩ := H1
          replace H1 := bindV_some H1
          obtain ⟨w7, a_17, H1⟩ := H1
          refine lok_elg E0 130 [⟨[(8, .x (.one (.ptr 108 0)))], [], [(56, .x (.one (.ptr 108 0)))], [], none⟩,
      ⟨[(56, .x (.one (.ptr 108 0)))], [(108, some (.var [.vw 160, .p (.sl 1 (List.map encI y5.Bounds)), .p (pi y5.Max)]))], [(57, .x (.one (.vw 160)))], [], none⟩,
      ⟨[(12, .x (.one (.ptr 112 0)))], [(112, some (.var [.p (pi (IntKind.i64.wrap ((10 : Int) + (w5.length : Int)))), .p (pi ((ix y5.Units i).Weight)), .p (pi ((ix y5.Units i).Max))]))], [(58, .x (.agg [.p (pi (IntKind.i64.wrap ((10 : Int) + (w5.length : Int)))), .p (pi ((ix y5.Units i).Weight)), .p (pi ((ix y5.Units i).Max))]))], [], none⟩,
      ⟨[(58, .x (.agg [.p (pi (IntKind.i64.wrap ((10 : Int) + (w5.length : Int)))), .p (pi ((ix y5.Units i).Weight)), .p (pi ((ix y5.Units i).Max))]))], [], [(59, .x (.one (.fl 3 (List.map enc_api_Unit ([(api_Unit.mk (IntKind.i64.wrap ((10 : Int) + (w5.length : Int))) ((ix y5.Units i).Weight) ((ix y5.Units i).Max))])))))], [], none⟩,
      ⟨[(57, .x (.one (.vw 160))), (59, .x (.one (.fl 3 (List.map enc_api_Unit ([(api_Unit.mk (IntKind.i64.wrap ((10 : Int) + (w5.length : Int))) ((ix y5.Units i).Weight) ((ix y5.Units i).Max))])))))], [(160, some (.arr 3 (List.map enc_api_Unit w5))), (108, some (.var [.vw 160, .p (.sl 1 (List.map encI y5.Bounds)), .p (pi y5.Max)]))], [(60, .x (.one (.vw 160)))], [(160, some (.arr 3 (List.map enc_api_Unit (w5 ++ [(api_Unit.mk (IntKind.i64.wrap ((10 : Int) + (w5.length : Int))) ((ix y5.Units i).Weight) ((ix y5.Units i).Max))]))))], some 160⟩,
      ⟨[(10, .x (.one (.vw 110)))], [], [(61, .x (.one (.vw 110)))], [], none⟩,
      ⟨[(7, .x (.one (.vw 1034)))], [], [(62, .x (.one (.vw 1034)))], [], none⟩,
      ⟨[(11, .x (.one (.p (pi i))))], [], [(63, .x (.one (.p (pi i))))], [], none⟩,
      ⟨[(62, .x (.one (.vw 1034))), (63, .x (.one (.p (pi i))))], [(1034, some (.arr 3 (List.map enc_api_UnitMark y7)))], [(64, .x (.one (.ap 1034 i.toNat 0)))], [], none⟩,
      ⟨[(64, .x (.one (.ap 1034 i.toNat 0)))], [(1034, some (.arr 3 (List.map enc_api_UnitMark y7)))], [(65, .x (.agg [.p (pi ((ix y7 i).Kind)), .p (pi (((ix y7 i).Value).Num)), .p (pi (((ix y7 i).Value).Den))]))], [], none⟩,
      ⟨[(65, .x (.agg [.p (pi ((ix y7 i).Kind)), .p (pi (((ix y7 i).Value).Num)), .p (pi (((ix y7 i).Value).Den))]))], [], [(66, .x (.one (.fl 3 (List.map enc_api_UnitMark ([(api_UnitMark.mk ((ix y7 i).Kind) ((ix y7 i).Value))])))))], [], none⟩,
      ⟨[(61, .x (.one (.vw 110))), (66, .x (.one (.fl 3 (List.map enc_api_UnitMark ([(api_UnitMark.mk ((ix y7 i).Kind) ((ix y7 i).Value))]))))), (10, .x (.one (.vw 110)))], [(110, some (.arr 3 (List.map enc_api_UnitMark back1)))], [(67, .x (.one (.vw 110)))], [(110, some (.arr 3 (List.map enc_api_UnitMark (back1 ++ [(api_UnitMark.mk ((ix y7 i).Kind) ((ix y7 i).Value))]))))], some 110⟩,
      ⟨[(8, .x (.one (.ptr 108 0)))], [], [(68, .x (.one (.ptr 108 0)))], [], none⟩] a_17 (⟨130, mkS [(1, .x (.one (.p (.val (.int .u8 k))))), (6, .x (.one (.ptr 106 0))), (7, .x (.one (.vw 1034))), (8, .x (.one (.ptr 108 0))), (9, .x (.one (.ptr 109 0))), (10, .x (.one (.vw 110))), (11, .x (.one (.p (pi i))))], mkH [(106, .var [.p (.sl 3 (List.map enc_api_Unit y5.Units)), .p (.sl 1 (List.map encI y5.Bounds)), .p (pi y5.Max)]), (108, .var [.vw 160, .p (.sl 1 (List.map encI y5.Bounds)), .p (pi y5.Max)]), (109, .var [.p .nil, .p (.sl 1 (List.map encI y5.Bounds)), .p (pi y5.Max)]), (110, .arr 3 (List.map enc_api_UnitMark (back1 ++ [(api_UnitMark.mk ((ix y7 i).Kind) ((ix y7 i).Value))]))), (160, .arr 3 (List.map enc_api_Unit w7)), (1034, .arr 3 (List.map enc_api_UnitMark y7))]⟩) (by kernel_rfl) (by kernel_rfl) (by kernel_rfl) rfl rfl rfl ?_
          try simp only [thenL, blockL, ↓reduceIte, reduceCtorEq]
          refine lok_rl E0 (⟨130, mkS [(1, .x (.one (.p (.val (.int .u8 k))))), (6, .x (.one (.ptr 106 0))), (7, .x (.one (.vw 1034))), (8, .x (.one (.ptr 108 0))), (9, .x (.one (.ptr 109 0))), (10, .x (.one (.vw 110))), (11, .x (.one (.p (pi (IntKind.i64.wrap (i - (1 : Int)))))))], mkH [(106, .var [.p (.sl 3 (List.map enc_api_Unit y5.Units)), .p (.sl 1 (List.map encI y5.Bounds)), .p (pi y5.Max)]), (108, .var [.vw 160, .p (.sl 1 (List.map encI y5.Bounds)), .p (pi y5.Max)]), (109, .var [.p .nil, .p (.sl 1 (List.map encI y5.Bounds)), .p (pi y5.Max)]), (110, .arr 3 (List.map enc_api_UnitMark (back1 ++ [(api_UnitMark.mk ((ix y7 i).Kind) ((ix y7 i).Value))]))), (160, .arr 3 (List.map enc_api_Unit w7)), (1034, .arr 3 (List.map enc_api_UnitMark y7))]⟩) ?_
          try simp only [thenL, blockL, ↓reduceIte, reduceCtorEq]
          exact ⟨((IntKind.i64.wrap (i - (1 : Int))), (back1 ++ [(api_UnitMark.mk ((ix y7 i).Kind) ((ix y7 i).Value))]), w7), (Option.some.inj H1).symm, imp_au⟩
        · intro b_22
          replace H1 := cneg H1 b_22
          refine lok_exit ?_
          try simp only [thenL, blockL, ↓reduceIte, reduceCtorEq]
          have e_1 := k_1 _ (Option.some.inj H1).symm
          subst e_1
          try dsimp only at H0
          try simp only [thenL, blockL, ↓reduceIte, reduceCtorEq]
          exact ⟨(back1, w5), H0, imp_au⟩
theorem ok_law36_AggregateEstimates (t : List Int) (n : Int) (r_ : Bool) (H0 : law36_AggregateEstimates t n = some r_) : CallOK Try.prog 4 [.one (.p (.sl 1 (List.map encI t))), .one (.p (.val (.int .u8 n)))] [] [.one (.p (.val (.bool r_)))] [] := by
  refine callOK (n := 96) (rs := [.tmp 4]) (nb := 0) (V := []) Try.func4 rfl (by kernel_rfl) rfl rfl rfl rfl (Nat.le_of_ble_eq_true rfl) (by decide) ?_
  unfold law36_AggregateEstimates at H0
  refine lok_rt E0 (⟨96, mkS [(0, .x (.one (.p (.sl 1 (List.map encI t))))), (1, .x (.one (.p (.val (.int .u8 n)))))], mkH []⟩) ?_
  refine lok_seq ?_
  replace H0 := bind_some H0
  obtain ⟨y, h_0, H0⟩ := H0
  refine lok_rt (Env.of E0 [⟨some 17, 10, [.one (.p (.sl 1 (List.map encI t)))], [], [.one (.p (.val (.bool y)))], [], True, fun _ => ok_mark_Light t y h_0, []⟩]) (⟨96, mkS [(0, .x (.one (.p (.sl 1 (List.map encI t))))), (1, .x (.one (.p (.val (.int .u8 n))))), (18, .x (.one (.p (.val (.bool (!y))))))], mkH []⟩) ?_
  refine lok_c (!y) ?_ ?_
  · intro b_19
    replace H0 := cpos H0 b_19
    replace H0 := bind_some H0
    obtain ⟨y1, h_1, H0⟩ := H0
    refine lok_rt (Env.of E0 [⟨some 19, 11, [], [], [.one (.p (.val (.bool y1)))], [], True, fun _ => ok_law36_sane y1 h_1, []⟩]) (⟨96, mkS [(4, .x (.one (.p (.val (.bool y1)))))], mkH []⟩) ?_
    refine lok_ret ?_
    obtain rfl := Option.some.inj H0
    try simp only [thenL, blockL]
    exact fin_au _ (.inr rfl) [] (⟨96, mkS [(4, .x (.one (.p (.val (.bool y1)))))], mkH []⟩) rfl rfl imp_au
  · intro b_19
    replace H0 := cneg H0 b_19
    refine lok_skip ?_
    try simp only [thenL, blockL, ↓reduceIte, reduceCtorEq]
    replace H0 := bind_some H0
    obtain ⟨y2, h_2, H0⟩ := H0
    refine lok_rt (Env.of E0 [⟨some 21, 12, [.one (.p (.sl 1 (List.map encI t)))], [], [.one (.ptr 0 0)], [some (.var [.p (.sl 1 (List.map encI y2.L)), .p (pi y2.At)])], True, fun _ => ok_mark_Roll t y2 h_2, []⟩]) (⟨96, mkS [(1, .x (.one (.p (.val (.int .u8 n))))), (5, .x (.one (.ptr 1021 0)))], mkH [(1021, .var [.p (.sl 1 (List.map encI y2.L)), .p (pi y2.At)])]⟩) ?_
    replace H0 := bind_some H0
    obtain ⟨⟨y3, y4⟩, h_3, H0⟩ := H0
    try dsimp only at H0
    replace H0 := bind_some H0
    obtain ⟨⟨y5, y6⟩, h_4, H0⟩ := H0
    try dsimp only at H0
    refine lok_rt (Env.of E0 [⟨some 24, 14, [.one (.ptr 0 0), .one (.p (pi (4 : Int)))], [.var [.p (.sl 1 (List.map encI y2.L)), .p (pi y2.At)]], [.one (.p (pi y3))], [some (.var [.p (.sl 1 (List.map encI y4.L)), .p (pi y4.At)])], True, fun _ => ok_mark_Dice_Next y2 (4 : Int) (y3, y4) h_3, []⟩,
      ⟨some 26, 13, [.one (.ptr 0 0), .one (.p (pi (IntKind.i64.wrap ((1 : Int) + y3))))], [.var [.p (.sl 1 (List.map encI y4.L)), .p (pi y4.At)]], [.agg [.p (.sl 3 (List.map enc_api_Unit y5.Units)), .p (.sl 1 (List.map encI y5.Bounds)), .p (pi y5.Max)]], [some (.var [.p (.sl 1 (List.map encI y6.L)), .p (pi y6.At)])], True, fun _ => ok_mark_Dice_Award y4 (IntKind.i64.wrap ((1 : Int) + y3)) (y5, y6) h_4, []⟩]) (⟨96, mkS [(1, .x (.one (.p (.val (.int .u8 n))))), (5, .x (.one (.ptr 1021 0))), (6, .x (.one (.ptr 106 0)))], mkH [(106, .var [.p (.sl 3 (List.map enc_api_Unit y5.Units)), .p (.sl 1 (List.map encI y5.Bounds)), .p (pi y5.Max)]), (1021, .var [.p (.sl 1 (List.map encI y6.L)), .p (pi y6.At)])]⟩) ?_
    replace H0 := bind_some H0
    obtain ⟨⟨y7, y8⟩, h_5, H0⟩ := H0
    try dsimp only at H0
    refine lok_rt (Env.of E0 [⟨some 29, 15, [.one (.ptr 0 0), .agg [.p (.sl 3 (List.map enc_api_Unit y5.Units)), .p (.sl 1 (List.map encI y5.Bounds)), .p (pi y5.Max)]], [.var [.p (.sl 1 (List.map encI y6.L)), .p (pi y6.At)]], [.one (.vw 1)], [some (.var [.p (.sl 1 (List.map encI y8.L)), .p (pi y8.At)]), some (.arr 3 (List.map enc_api_UnitMark y7))], True, fun _ => ok_mark_Dice_Marks y6 y5 (y7, y8) h_5, []⟩]) (⟨96, mkS [(1, .x (.one (.p (.val (.int .u8 n))))), (6, .x (.one (.ptr 106 0))), (7, .x (.one (.vw 1029)))], mkH [(106, .var [.p (.sl 3 (List.map enc_api_Unit y5.Units)), .p (.sl 1 (List.map encI y5.Bounds)), .p (pi y5.Max)]), (1029, .arr 3 (List.map enc_api_UnitMark y7))]⟩) ?_
    replace H0 := req_some H0
    obtain ⟨q_18, H0⟩ := H0
    refine lok_rt E0 (⟨96, mkS [(6, .x (.one (.ptr 106 0))), (7, .x (.one (.vw 1029))), (8, .x (.one (.p (pi (Int.tmod (IntKind.i64.wrap n) (y7.length : Int))))))], mkH [(106, .var [.p (.sl 3 (List.map enc_api_Unit y5.Units)), .p (.sl 1 (List.map encI y5.Bounds)), .p (pi y5.Max)]), (1029, .arr 3 (List.map enc_api_UnitMark y7))]⟩) ?_
    replace H0 := bind_some H0
    obtain ⟨y9, h_6, H0⟩ := H0
    replace H0 := req_some H0
    obtain ⟨q_17, H0⟩ := H0
    replace H0 := bindV_some H0
    obtain ⟨w, a_7, H0⟩ := H0
    refine lok_rtg (Env.of E0 [⟨some 37, 17, [.one (.p (pi (0 : Int)))], [], [.agg [.p (pi y9.Num), .p (pi y9.Den)]], [], True, fun _ => ok_law36_whole (0 : Int) y9 h_6, []⟩]) a_7 (⟨96, mkS [(6, .x (.one (.ptr 106 0))), (7, .x (.one (.vw 1029))), (8, .x (.one (.p (pi (Int.tmod (IntKind.i64.wrap n) (y7.length : Int))))))], mkH [(106, .var [.p (.sl 3 (List.map enc_api_Unit y5.Units)), .p (.sl 1 (List.map encI y5.Bounds)), .p (pi y5.Max)]), (1029, .arr 3 (List.map enc_api_UnitMark w))]⟩) ?_
    replace H0 := bind_some H0
    obtain ⟨⟨y10, y11⟩, h_8, H0⟩ := H0
    try dsimp only at H0
    refine lok_rt (Env.of E0 [⟨some 43, 21, [.agg [.p (.sl 3 (List.map enc_api_Unit y5.Units)), .p (.sl 1 (List.map encI y5.Bounds)), .p (pi y5.Max)], .one (.p (.sl 3 (List.map enc_api_UnitMark w))), .one (.p (pi (0 : Int)))], [], [.agg [.p (pi y10.Num), .p (pi y10.Den)], .one (.p (pi y11))], [], True, fun _ => ok_aggregate_Exact y5 w (0 : Int) (y10, y11) h_8, []⟩]) (⟨96, mkS [(6, .x (.one (.ptr 106 0))), (7, .x (.one (.vw 1029))), (8, .x (.one (.p (pi (Int.tmod (IntKind.i64.wrap n) (y7.length : Int)))))), (9, .x (.one (.ptr 109 0))), (10, .x (.one (.p (pi y11))))], mkH [(106, .var [.p (.sl 3 (List.map enc_api_Unit y5.Units)), .p (.sl 1 (List.map encI y5.Bounds)), .p (pi y5.Max)]), (109, .var [.p (pi y10.Num), .p (pi y10.Den)]), (1029, .arr 3 (List.map enc_api_UnitMark w))]⟩) ?_
    replace H0 := bind_some H0
    obtain ⟨⟨y12, y13⟩, h_9, H0⟩ := H0
    try dsimp only at H0
    refine lok_rt (Env.of E0 [⟨some 50, 27, [.agg [.p (.sl 3 (List.map enc_api_Unit y5.Units)), .p (.sl 1 (List.map encI y5.Bounds)), .p (pi y5.Max)], .one (.p (.sl 3 (List.map enc_api_UnitMark w))), .one (.p (pi (Int.tmod (IntKind.i64.wrap n) (y7.length : Int))))], [], [.agg [.p (pi y12.Num), .p (pi y12.Den)], .one (.p (pi y13))], [], True, fun _ => ok_aggregate_Estimate y5 w (Int.tmod (IntKind.i64.wrap n) (y7.length : Int)) (y12, y13) h_9, []⟩]) (⟨96, mkS [(6, .x (.one (.ptr 106 0))), (7, .x (.one (.vw 1029))), (8, .x (.one (.p (pi (Int.tmod (IntKind.i64.wrap n) (y7.length : Int)))))), (9, .x (.one (.ptr 109 0))), (10, .x (.one (.p (pi y11)))), (11, .x (.one (.ptr 111 0))), (12, .x (.one (.p (pi y13))))], mkH [(106, .var [.p (.sl 3 (List.map enc_api_Unit y5.Units)), .p (.sl 1 (List.map encI y5.Bounds)), .p (pi y5.Max)]), (109, .var [.p (pi y10.Num), .p (pi y10.Den)]), (111, .var [.p (pi y12.Num), .p (pi y12.Den)]), (1029, .arr 3 (List.map enc_api_UnitMark w))]⟩) ?_
    refine lok_seq ?_
    refine lok_rt E0 (⟨96, mkS [(6, .x (.one (.ptr 106 0))), (7, .x (.one (.vw 1029))), (8, .x (.one (.p (pi (Int.tmod (IntKind.i64.wrap n) (y7.length : Int)))))), (9, .x (.one (.ptr 109 0))), (10, .x (.one (.p (pi y11)))), (11, .x (.one (.ptr 111 0))), (12, .x (.one (.p (pi y13)))), (58, .x (.one (.p (.val (.bool ((y11 != (0 : Int)) || (y13 != (0 : Int))))))))], mkH [(106, .var [.p (.sl 3 (List.map enc_api_Unit y5.Units)), .p (.sl 1 (List.map encI y5.Bounds)), .p (pi y5.Max)]), (109, .var [.p (pi y10.Num), .p (pi y10.Den)]), (111, .var [.p (pi y12.Num), .p (pi y12.Den)]), (1029, .arr 3 (List.map enc_api_UnitMark w))]⟩) ?_
    refine lok_c ((y11 != (0 : Int)) || (y13 != (0 : Int))) ?_ ?_
    · intro b_16
      replace H0 := cpos H0 b_16
      replace H0 := req_some H0
      obtain ⟨q_10, H0⟩ := H0
      refine lok_rt (Env.of E0 [⟨some 71, 11, [], [], [.one (.p (.val (.bool ((law36_sane).getD default))))], [], (law36_sane).isSome = true, fun h => ok_law36_sane _ (isSome_get h), []⟩]) (⟨96, mkS [(4, .x (.one (.p (.val (.bool (((y11 == y13) && ((y11 == (8 : Int)) || (y11 == (10 : Int)))) && ((law36_sane).getD default)))))))], mkH []⟩) ?_
      refine lok_ret ?_
      obtain rfl := Option.some.inj H0
      try simp only [thenL, blockL]
      exact fin_au _ (.inr rfl) [] (⟨96, mkS [(4, .x (.one (.p (.val (.bool (((y11 == y13) && ((y11 == (8 : Int)) || (y11 == (10 : Int)))) && ((law36_sane).getD default)))))))], mkH []⟩) rfl rfl imp_au
    · intro b_16
      replace H0 := cneg H0 b_16
      refine lok_skip ?_
      try simp only [thenL, blockL, ↓reduceIte, reduceCtorEq]
      replace H0 := req_some H0
      obtain ⟨q_15, H0⟩ := H0
      refine lok_rt E0 (⟨96, mkS [(6, .x (.one (.ptr 106 0))), (8, .x (.one (.p (pi (Int.tmod (IntKind.i64.wrap n) (y7.length : Int)))))), (9, .x (.one (.ptr 109 0))), (11, .x (.one (.ptr 111 0))), (13, .x (.one (.vw 174)))], mkH [(106, .var [.p (.sl 3 (List.map enc_api_Unit y5.Units)), .p (.sl 1 (List.map encI y5.Bounds)), .p (pi y5.Max)]), (109, .var [.p (pi y10.Num), .p (pi y10.Den)]), (111, .var [.p (pi y12.Num), .p (pi y12.Den)]), (174, .arr 3 (List.map enc_api_UnitMark w))]⟩) ?_
      replace H0 := req_some H0
      obtain ⟨q_14, H0⟩ := H0
      replace H0 := bindV_some H0
      obtain ⟨w1, a_11, H0⟩ := H0
      refine lok_rtg E0 a_11 (⟨96, mkS [(6, .x (.one (.ptr 106 0))), (9, .x (.one (.ptr 109 0))), (13, .x (.one (.vw 174)))], mkH [(106, .var [.p (.sl 3 (List.map enc_api_Unit y5.Units)), .p (.sl 1 (List.map encI y5.Bounds)), .p (pi y5.Max)]), (109, .var [.p (pi y10.Num), .p (pi y10.Den)]), (174, .arr 3 (List.map enc_api_UnitMark w1))]⟩) ?_
      replace H0 := bind_some H0
      obtain ⟨⟨y14, y15⟩, h_12, H0⟩ := H0
      try dsimp only at H0
      refine lok_rt (Env.of E0 [⟨some 83, 21, [.agg [.p (.sl 3 (List.map enc_api_Unit y5.Units)), .p (.sl 1 (List.map encI y5.Bounds)), .p (pi y5.Max)], .one (.p (.sl 3 (List.map enc_api_UnitMark w1))), .one (.p (pi (0 : Int)))], [], [.agg [.p (pi y14.Num), .p (pi y14.Den)], .one (.p (pi y15))], [], True, fun _ => ok_aggregate_Exact y5 w1 (0 : Int) (y14, y15) h_12, []⟩]) (⟨96, mkS [(9, .x (.one (.ptr 109 0))), (14, .x (.one (.ptr 114 0))), (15, .x (.one (.p (pi y15))))], mkH [(109, .var [.p (pi y10.Num), .p (pi y10.Den)]), (114, .var [.p (pi y14.Num), .p (pi y14.Den)])]⟩) ?_
      replace H0 := req_some H0
      obtain ⟨q_13, H0⟩ := H0
      refine lok_rt (Env.of E0 [⟨some 94, 11, [], [], [.one (.p (.val (.bool ((law36_sane).getD default))))], [], (law36_sane).isSome = true, fun h => ok_law36_sane _ (isSome_get h), []⟩]) (⟨96, mkS [(4, .x (.one (.p (.val (.bool (((y15 == (0 : Int)) && ((y14.Num == y10.Num) && (y14.Den == y10.Den))) && ((law36_sane).getD default)))))))], mkH []⟩) ?_
      refine lok_ret ?_
      obtain rfl := Option.some.inj H0
      try simp only [thenL, blockL]
      exact fin_au _ (.inr rfl) [] (⟨96, mkS [(4, .x (.one (.p (.val (.bool (((y15 == (0 : Int)) && ((y14.Num == y10.Num) && (y14.Den == y10.Den))) && ((law36_sane).getD default)))))))], mkH []⟩) rfl rfl imp_au
end Go.LS
