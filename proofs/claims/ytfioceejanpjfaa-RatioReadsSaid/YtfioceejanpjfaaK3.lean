/-
  The walks: the functions compute what the plain ones say. Condition: the plain function has a value.
-/
import Derived.Test.YtfioceejanpjfaaK2
import Derived.Test.YtfioceejanpjfaaD3
namespace Go.LS
open Go.Proofs
set_option linter.all false
set_option linter.unusedSimpArgs false
set_option linter.unusedVariables false
set_option maxRecDepth 20000

theorem ok_ratio_Add (a : api_Ratio) (b : api_Ratio) (r_ : api_Ratio × Int) (H0 : ratio_Add a b = some r_) : CallOK Try.prog 22 [.agg [.p (pi a.Num), .p (pi a.Den)], .agg [.p (pi b.Num), .p (pi b.Den)]] [] [.agg [.p (pi r_.1.Num), .p (pi r_.1.Den)], .one (.p (pi r_.2))] [] := by
  refine callOK (n := 64) (rs := [.cell 4 23, .tmp 5]) (nb := 0) (V := []) Try.func22 rfl (by kernel_rfl) rfl rfl rfl rfl (Nat.le_of_ble_eq_true rfl) (by decide) ?_
  unfold ratio_Add at H0
  refine lok_rt E0 (⟨64, mkS [(2, .x (.one (.ptr 102 0))), (3, .x (.one (.ptr 103 0))), (4, .x (.one (.ptr 104 0)))], mkH [(102, .var [.p (pi a.Num), .p (pi a.Den)]), (103, .var [.p (pi b.Num), .p (pi b.Den)]), (104, .var [.p (pi (0 : Int)), .p (pi (0 : Int))])]⟩) ?_
  refine lok_seq ?_
  replace H0 := bind_some H0
  obtain ⟨y, h_0, H0⟩ := H0
  replace H0 := req_some H0
  obtain ⟨q_15, H0⟩ := H0
  refine lok_rt (Env.of E0 [⟨some 12, 43, [.agg [.p (pi a.Num), .p (pi a.Den)]], [], [.one (.p (.val (.bool y)))], [], True, fun _ => ok_ratio_Valid a y h_0, []⟩,
      ⟨some 16, 43, [.agg [.p (pi b.Num), .p (pi b.Den)]], [], [.one (.p (.val (.bool ((ratio_Valid b).getD default))))], [], (ratio_Valid b).isSome = true, fun h => ok_ratio_Valid b _ (isSome_get h), []⟩]) (⟨64, mkS [(2, .x (.one (.ptr 102 0))), (3, .x (.one (.ptr 103 0))), (4, .x (.one (.ptr 104 0))), (18, .x (.one (.p (.val (.bool ((!y) || (!((ratio_Valid b).getD default))))))))], mkH [(102, .var [.p (pi a.Num), .p (pi a.Den)]), (103, .var [.p (pi b.Num), .p (pi b.Den)]), (104, .var [.p (pi (0 : Int)), .p (pi (0 : Int))])]⟩) ?_
  refine lok_c ((!y) || (!((ratio_Valid b).getD default))) ?_ ?_
  · intro b_14
    replace H0 := cpos H0 b_14
    refine lok_rt E0 (⟨64, mkS [(4, .x (.one (.ptr 104 0))), (5, .x (.one (.p (pi (1 : Int)))))], mkH [(104, .var [.p (pi (0 : Int)), .p (pi (0 : Int))])]⟩) ?_
    refine lok_ret ?_
    obtain rfl := Option.some.inj H0
    try simp only [thenL, blockL]
    exact fin_au _ (.inr rfl) [] (⟨64, mkS [(4, .x (.one (.ptr 104 0))), (5, .x (.one (.p (pi (1 : Int)))))], mkH [(104, .var [.p (pi (0 : Int)), .p (pi (0 : Int))])]⟩) rfl rfl imp_au
  · intro b_14
    replace H0 := cneg H0 b_14
    refine lok_skip ?_
    try simp only [thenL, blockL, ↓reduceIte, reduceCtorEq]
    refine lok_dt E0 7 (⟨64, mkS [(2, .x (.one (.ptr 102 0))), (3, .x (.one (.ptr 103 0))), (4, .x (.one (.ptr 104 0))), (6, .x (.one (.p (.val (.int .u64 (IntKind.u64.wrap a.Den)))))), (7, .x (.one (.p (.val (.int .u64 (IntKind.u64.wrap b.Den))))))], mkH [(102, .var [.p (pi a.Num), .p (pi a.Den)]), (103, .var [.p (pi b.Num), .p (pi b.Den)]), (104, .var [.p (pi (0 : Int)), .p (pi (0 : Int))])]⟩) (by kernel_rfl) (by kernel_rfl) ?_
    replace H0 := bind_some H0
    obtain ⟨y1, h_1, H0⟩ := H0
    refine lok_rt (Env.of E0 [⟨some 28, 44, [.one (.p (.val (.int .u64 (IntKind.u64.wrap a.Den)))), .one (.p (.val (.int .u64 (IntKind.u64.wrap b.Den))))], [], [.one (.p (.val (.int .u64 y1)))], [], True, fun _ => ok_ratio_gcd (IntKind.u64.wrap a.Den) (IntKind.u64.wrap b.Den) y1 h_1, []⟩]) (⟨64, mkS [(2, .x (.one (.ptr 102 0))), (3, .x (.one (.ptr 103 0))), (4, .x (.one (.ptr 104 0))), (6, .x (.one (.p (.val (.int .u64 (IntKind.u64.wrap a.Den)))))), (7, .x (.one (.p (.val (.int .u64 (IntKind.u64.wrap b.Den)))))), (8, .x (.one (.p (.val (.int .u64 y1)))))], mkH [(102, .var [.p (pi a.Num), .p (pi a.Den)]), (103, .var [.p (pi b.Num), .p (pi b.Den)]), (104, .var [.p (pi (0 : Int)), .p (pi (0 : Int))])]⟩) ?_
    replace H0 := req_some H0
    obtain ⟨q_12, H0⟩ := H0
    replace H0 := bind_some H0
    obtain ⟨y2, h_2, H0⟩ := H0
    replace H0 := req_some H0
    obtain ⟨q_13, H0⟩ := H0
    replace H0 := bind_some H0
    obtain ⟨y3, h_3, H0⟩ := H0
    replace H0 := bind_some H0
    obtain ⟨y4, h_4, H0⟩ := H0
    refine lok_et (Env.of E0 [⟨some 34, 47, [.one (.p (pi a.Num)), .one (.p (.val (.int .u64 (IntKind.u64.wrap (Int.tdiv (IntKind.u64.wrap b.Den) y1)))))], [], [.agg [.p (.val (.bool y2.neg)), .p (.val (.int .u64 y2.abs.hi)), .p (.val (.int .u64 y2.abs.lo))]], [], True, fun _ => ok_ratio_signedProduct a.Num (IntKind.u64.wrap (Int.tdiv (IntKind.u64.wrap b.Den) y1)) y2 h_2, []⟩,
      ⟨some 40, 47, [.one (.p (pi b.Num)), .one (.p (.val (.int .u64 (IntKind.u64.wrap (Int.tdiv (IntKind.u64.wrap a.Den) y1)))))], [], [.agg [.p (.val (.bool y3.neg)), .p (.val (.int .u64 y3.abs.hi)), .p (.val (.int .u64 y3.abs.lo))]], [], True, fun _ => ok_ratio_signedProduct b.Num (IntKind.u64.wrap (Int.tdiv (IntKind.u64.wrap a.Den) y1)) y3 h_3, []⟩,
      ⟨some 41, 46, [.agg [.p (.val (.bool y2.neg)), .p (.val (.int .u64 y2.abs.hi)), .p (.val (.int .u64 y2.abs.lo))], .agg [.p (.val (.bool y3.neg)), .p (.val (.int .u64 y3.abs.hi)), .p (.val (.int .u64 y3.abs.lo))]], [], [.agg [.p (.val (.bool y4.neg)), .p (.val (.int .u64 y4.abs.hi)), .p (.val (.int .u64 y4.abs.lo))]], [], True, fun _ => ok_ratio_signed_plus y2 y3 y4 h_4, []⟩]) 64 [⟨[(2, .x (.one (.ptr 102 0)))], [], [(29, .x (.one (.ptr 102 0)))], [], none⟩,
      ⟨[(29, .x (.one (.ptr 102 0)))], [(102, some (.var [.p (pi a.Num), .p (pi a.Den)]))], [(30, .x (.one (.p (pi a.Num))))], [], none⟩,
      ⟨[(7, .x (.one (.p (.val (.int .u64 (IntKind.u64.wrap b.Den))))))], [], [(31, .x (.one (.p (.val (.int .u64 (IntKind.u64.wrap b.Den))))))], [], none⟩,
      ⟨[(8, .x (.one (.p (.val (.int .u64 y1)))))], [], [(32, .x (.one (.p (.val (.int .u64 y1)))))], [], none⟩,
      ⟨[(31, .x (.one (.p (.val (.int .u64 (IntKind.u64.wrap b.Den)))))), (32, .x (.one (.p (.val (.int .u64 y1)))))], [], [(33, .x (.one (.p (.val (.int .u64 (IntKind.u64.wrap (Int.tdiv (IntKind.u64.wrap b.Den) y1)))))))], [], none⟩,
      ⟨[(30, .x (.one (.p (pi a.Num)))), (33, .x (.one (.p (.val (.int .u64 (IntKind.u64.wrap (Int.tdiv (IntKind.u64.wrap b.Den) y1)))))))], [], [(34, .x (.agg [.p (.val (.bool y2.neg)), .p (.val (.int .u64 y2.abs.hi)), .p (.val (.int .u64 y2.abs.lo))]))], [], none⟩,
      ⟨[(3, .x (.one (.ptr 103 0)))], [], [(35, .x (.one (.ptr 103 0)))], [], none⟩,
      ⟨[(35, .x (.one (.ptr 103 0)))], [(103, some (.var [.p (pi b.Num), .p (pi b.Den)]))], [(36, .x (.one (.p (pi b.Num))))], [], none⟩,
      ⟨[(6, .x (.one (.p (.val (.int .u64 (IntKind.u64.wrap a.Den))))))], [], [(37, .x (.one (.p (.val (.int .u64 (IntKind.u64.wrap a.Den))))))], [], none⟩,
      ⟨[(8, .x (.one (.p (.val (.int .u64 y1)))))], [], [(38, .x (.one (.p (.val (.int .u64 y1)))))], [], none⟩,
      ⟨[(37, .x (.one (.p (.val (.int .u64 (IntKind.u64.wrap a.Den)))))), (38, .x (.one (.p (.val (.int .u64 y1)))))], [], [(39, .x (.one (.p (.val (.int .u64 (IntKind.u64.wrap (Int.tdiv (IntKind.u64.wrap a.Den) y1)))))))], [], none⟩,
      ⟨[(36, .x (.one (.p (pi b.Num)))), (39, .x (.one (.p (.val (.int .u64 (IntKind.u64.wrap (Int.tdiv (IntKind.u64.wrap a.Den) y1)))))))], [], [(40, .x (.agg [.p (.val (.bool y3.neg)), .p (.val (.int .u64 y3.abs.hi)), .p (.val (.int .u64 y3.abs.lo))]))], [], none⟩,
      ⟨[(34, .x (.agg [.p (.val (.bool y2.neg)), .p (.val (.int .u64 y2.abs.hi)), .p (.val (.int .u64 y2.abs.lo))])), (40, .x (.agg [.p (.val (.bool y3.neg)), .p (.val (.int .u64 y3.abs.hi)), .p (.val (.int .u64 y3.abs.lo))]))], [], [(41, .x (.agg [.p (.val (.bool y4.neg)), .p (.val (.int .u64 y4.abs.hi)), .p (.val (.int .u64 y4.abs.lo))]))], [], none⟩,
      ⟨[], [(109, none)], [(9, .x (.one (.ptr 109 0)))], [(109, some (.var [.p (.val (.bool false)), .p (.val (.int .u64 (0 : Int))), .p (.val (.int .u64 (0 : Int)))]))], some 109⟩] (⟨64, mkS [(4, .x (.one (.ptr 104 0))), (6, .x (.one (.p (.val (.int .u64 (IntKind.u64.wrap a.Den)))))), (7, .x (.one (.p (.val (.int .u64 (IntKind.u64.wrap b.Den)))))), (8, .x (.one (.p (.val (.int .u64 y1))))), (9, .x (.one (.ptr 109 0)))], mkH [(104, .var [.p (pi (0 : Int)), .p (pi (0 : Int))]), (109, .var [.p (.val (.bool y4.neg)), .p (.val (.int .u64 y4.abs.hi)), .p (.val (.int .u64 y4.abs.lo))])]⟩) (by kernel_rfl) (by kernel_rfl) (by kernel_rfl) rfl rfl rfl ?_
    replace H0 := bind_some H0
    obtain ⟨y5, h_5, H0⟩ := H0
    replace H0 := bind_some H0
    obtain ⟨y6, h_6, H0⟩ := H0
    refine lok_rt (Env.of E0 [⟨some 45, 49, [.agg [.p (.val (.int .u64 y4.abs.hi)), .p (.val (.int .u64 y4.abs.lo))], .one (.p (.val (.int .u64 y1)))], [], [.one (.p (.val (.int .u64 y5)))], [], True, fun _ => ok_ratio_wide_mod y4.abs y1 y5 h_5, []⟩,
      ⟨some 47, 44, [.one (.p (.val (.int .u64 y5))), .one (.p (.val (.int .u64 y1)))], [], [.one (.p (.val (.int .u64 y6)))], [], True, fun _ => ok_ratio_gcd y5 y1 y6 h_6, []⟩]) (⟨64, mkS [(4, .x (.one (.ptr 104 0))), (6, .x (.one (.p (.val (.int .u64 (IntKind.u64.wrap a.Den)))))), (7, .x (.one (.p (.val (.int .u64 (IntKind.u64.wrap b.Den)))))), (8, .x (.one (.p (.val (.int .u64 y1))))), (9, .x (.one (.ptr 109 0))), (10, .x (.one (.p (.val (.int .u64 y6)))))], mkH [(104, .var [.p (pi (0 : Int)), .p (pi (0 : Int))]), (109, .var [.p (.val (.bool y4.neg)), .p (.val (.int .u64 y4.abs.hi)), .p (.val (.int .u64 y4.abs.lo))])]⟩) ?_
    replace H0 := bind_some H0
    obtain ⟨y7, h_7, H0⟩ := H0
    replace H0 := req_some H0
    obtain ⟨⟨q_10, q_11⟩, H0⟩ := H0
    replace H0 := bind_some H0
    obtain ⟨y8, h_8, H0⟩ := H0
    replace H0 := bind_some H0
    obtain ⟨⟨y9, y10⟩, h_9, H0⟩ := H0
    try dsimp only at H0
    refine lok_dt (Env.of E0 [⟨some 53, 50, [.agg [.p (.val (.int .u64 y4.abs.hi)), .p (.val (.int .u64 y4.abs.lo))], .one (.p (.val (.int .u64 y6)))], [], [.agg [.p (.val (.int .u64 y7.hi)), .p (.val (.int .u64 y7.lo))]], [], True, fun _ => ok_ratio_wide_over y4.abs y6 y7 h_7, []⟩,
      ⟨some 60, 33, [.one (.p (.val (.int .u64 (IntKind.u64.wrap (Int.tdiv (IntKind.u64.wrap a.Den) y1))))), .one (.p (.val (.int .u64 (IntKind.u64.wrap (Int.tdiv (IntKind.u64.wrap b.Den) y6)))))], [], [.agg [.p (.val (.int .u64 y8.hi)), .p (.val (.int .u64 y8.lo))]], [], True, fun _ => ok_ratio_product (IntKind.u64.wrap (Int.tdiv (IntKind.u64.wrap a.Den) y1)) (IntKind.u64.wrap (Int.tdiv (IntKind.u64.wrap b.Den) y6)) y8 h_8, []⟩,
      ⟨some 61, 45, [.one (.p (.val (.bool y4.neg))), .agg [.p (.val (.int .u64 y7.hi)), .p (.val (.int .u64 y7.lo))], .agg [.p (.val (.int .u64 y8.hi)), .p (.val (.int .u64 y8.lo))]], [], [.agg [.p (pi y9.Num), .p (pi y9.Den)], .one (.p (pi y10))], [], True, fun _ => ok_ratio_fitted y4.neg y7 y8 (y9, y10) h_9, []⟩]) 16 (⟨64, mkS [(4, .x (.one (.ptr 104 0))), (5, .x (.one (.p (pi y10))))], mkH [(104, .var [.p (pi y9.Num), .p (pi y9.Den)])]⟩) (by kernel_rfl) (by kernel_rfl) ?_
    refine lok_ret ?_
    obtain rfl := Option.some.inj H0
    try simp only [thenL, blockL]
    exact fin_au _ (.inr rfl) [] (⟨64, mkS [(4, .x (.one (.ptr 104 0))), (5, .x (.one (.p (pi y10))))], mkH [(104, .var [.p (pi y9.Num), .p (pi y9.Den)])]⟩) rfl rfl imp_au
theorem ok_ratio_Sub (a : api_Ratio) (b : api_Ratio) (r_ : api_Ratio × Int) (H0 : ratio_Sub a b = some r_) : CallOK Try.prog 23 [.agg [.p (pi a.Num), .p (pi a.Den)], .agg [.p (pi b.Num), .p (pi b.Den)]] [] [.agg [.p (pi r_.1.Num), .p (pi r_.1.Den)], .one (.p (pi r_.2))] [] := by
  refine callOK (n := 25) (rs := [.cell 4 23, .tmp 5]) (nb := 0) (V := []) Try.func23 rfl (by kernel_rfl) rfl rfl rfl rfl (Nat.le_of_ble_eq_true rfl) (by decide) ?_
  unfold ratio_Sub at H0
  refine lok_rt E0 (⟨25, mkS [(2, .x (.one (.ptr 102 0))), (3, .x (.one (.ptr 103 0))), (4, .x (.one (.ptr 104 0)))], mkH [(102, .var [.p (pi a.Num), .p (pi a.Den)]), (103, .var [.p (pi b.Num), .p (pi b.Den)]), (104, .var [.p (pi (0 : Int)), .p (pi (0 : Int))])]⟩) ?_
  refine lok_seq ?_
  replace H0 := bind_some H0
  obtain ⟨y, h_0, H0⟩ := H0
  replace H0 := req_some H0
  obtain ⟨q_3, H0⟩ := H0
  refine lok_rt (Env.of E0 [⟨some 7, 43, [.agg [.p (pi a.Num), .p (pi a.Den)]], [], [.one (.p (.val (.bool y)))], [], True, fun _ => ok_ratio_Valid a y h_0, []⟩,
      ⟨some 11, 43, [.agg [.p (pi b.Num), .p (pi b.Den)]], [], [.one (.p (.val (.bool ((ratio_Valid b).getD default))))], [], (ratio_Valid b).isSome = true, fun h => ok_ratio_Valid b _ (isSome_get h), []⟩]) (⟨25, mkS [(2, .x (.one (.ptr 102 0))), (3, .x (.one (.ptr 103 0))), (4, .x (.one (.ptr 104 0))), (13, .x (.one (.p (.val (.bool ((!y) || (!((ratio_Valid b).getD default))))))))], mkH [(102, .var [.p (pi a.Num), .p (pi a.Den)]), (103, .var [.p (pi b.Num), .p (pi b.Den)]), (104, .var [.p (pi (0 : Int)), .p (pi (0 : Int))])]⟩) ?_
  refine lok_c ((!y) || (!((ratio_Valid b).getD default))) ?_ ?_
  · intro b_2
    replace H0 := cpos H0 b_2
    refine lok_rt E0 (⟨25, mkS [(4, .x (.one (.ptr 104 0))), (5, .x (.one (.p (pi (1 : Int)))))], mkH [(104, .var [.p (pi (0 : Int)), .p (pi (0 : Int))])]⟩) ?_
    refine lok_ret ?_
    obtain rfl := Option.some.inj H0
    try simp only [thenL, blockL]
    exact fin_au _ (.inr rfl) [] (⟨25, mkS [(4, .x (.one (.ptr 104 0))), (5, .x (.one (.p (pi (1 : Int)))))], mkH [(104, .var [.p (pi (0 : Int)), .p (pi (0 : Int))])]⟩) rfl rfl imp_au
  · intro b_2
    replace H0 := cneg H0 b_2
    refine lok_skip ?_
    try simp only [thenL, blockL, ↓reduceIte, reduceCtorEq]
    replace H0 := bind_some H0
    obtain ⟨⟨y1, y2⟩, h_1, H0⟩ := H0
    try dsimp only at H0
    refine lok_rt (Env.of E0 [⟨some 22, 22, [.agg [.p (pi a.Num), .p (pi a.Den)], .agg [.p (pi (IntKind.i64.wrap (0 - b.Num))), .p (pi b.Den)]], [], [.agg [.p (pi y1.Num), .p (pi y1.Den)], .one (.p (pi y2))], [], True, fun _ => ok_ratio_Add a (api_Ratio.mk (IntKind.i64.wrap (0 - b.Num)) b.Den) (y1, y2) h_1, []⟩]) (⟨25, mkS [(4, .x (.one (.ptr 104 0))), (5, .x (.one (.p (pi y2))))], mkH [(104, .var [.p (pi y1.Num), .p (pi y1.Den)])]⟩) ?_
    refine lok_ret ?_
    obtain rfl := Option.some.inj H0
    try simp only [thenL, blockL]
    exact fin_au _ (.inr rfl) [] (⟨25, mkS [(4, .x (.one (.ptr 104 0))), (5, .x (.one (.p (pi y2))))], mkH [(104, .var [.p (pi y1.Num), .p (pi y1.Den)])]⟩) rfl rfl imp_au
theorem ok_ratio_Div (a : api_Ratio) (b : api_Ratio) (r_ : api_Ratio × Int) (H0 : ratio_Div a b = some r_) : CallOK Try.prog 24 [.agg [.p (pi a.Num), .p (pi a.Den)], .agg [.p (pi b.Num), .p (pi b.Den)]] [] [.agg [.p (pi r_.1.Num), .p (pi r_.1.Den)], .one (.p (pi r_.2))] [] := by
  refine callOK (n := 40) (rs := [.cell 4 23, .tmp 5]) (nb := 0) (V := []) Try.func24 rfl (by kernel_rfl) rfl rfl rfl rfl (Nat.le_of_ble_eq_true rfl) (by decide) ?_
  unfold ratio_Div at H0
  refine lok_rt E0 (⟨40, mkS [(2, .x (.one (.ptr 102 0))), (3, .x (.one (.ptr 103 0))), (4, .x (.one (.ptr 104 0)))], mkH [(102, .var [.p (pi a.Num), .p (pi a.Den)]), (103, .var [.p (pi b.Num), .p (pi b.Den)]), (104, .var [.p (pi (0 : Int)), .p (pi (0 : Int))])]⟩) ?_
  refine lok_seq ?_
  replace H0 := bind_some H0
  obtain ⟨y, h_0, H0⟩ := H0
  replace H0 := req_some H0
  obtain ⟨q_5, H0⟩ := H0
  refine lok_rt (Env.of E0 [⟨some 8, 43, [.agg [.p (pi a.Num), .p (pi a.Den)]], [], [.one (.p (.val (.bool y)))], [], True, fun _ => ok_ratio_Valid a y h_0, []⟩,
      ⟨some 12, 43, [.agg [.p (pi b.Num), .p (pi b.Den)]], [], [.one (.p (.val (.bool ((ratio_Valid b).getD default))))], [], (ratio_Valid b).isSome = true, fun h => ok_ratio_Valid b _ (isSome_get h), []⟩]) (⟨40, mkS [(2, .x (.one (.ptr 102 0))), (3, .x (.one (.ptr 103 0))), (4, .x (.one (.ptr 104 0))), (14, .x (.one (.p (.val (.bool ((!y) || (!((ratio_Valid b).getD default))))))))], mkH [(102, .var [.p (pi a.Num), .p (pi a.Den)]), (103, .var [.p (pi b.Num), .p (pi b.Den)]), (104, .var [.p (pi (0 : Int)), .p (pi (0 : Int))])]⟩) ?_
  refine lok_c ((!y) || (!((ratio_Valid b).getD default))) ?_ ?_
  · intro b_4
    replace H0 := cpos H0 b_4
    refine lok_rt E0 (⟨40, mkS [(4, .x (.one (.ptr 104 0))), (5, .x (.one (.p (pi (1 : Int)))))], mkH [(104, .var [.p (pi (0 : Int)), .p (pi (0 : Int))])]⟩) ?_
    refine lok_ret ?_
    obtain rfl := Option.some.inj H0
    try simp only [thenL, blockL]
    exact fin_au _ (.inr rfl) [] (⟨40, mkS [(4, .x (.one (.ptr 104 0))), (5, .x (.one (.p (pi (1 : Int)))))], mkH [(104, .var [.p (pi (0 : Int)), .p (pi (0 : Int))])]⟩) rfl rfl imp_au
  · intro b_4
    replace H0 := cneg H0 b_4
    refine lok_skip ?_
    try simp only [thenL, blockL, ↓reduceIte, reduceCtorEq]
    refine lok_seq ?_
    refine lok_rt E0 (⟨40, mkS [(2, .x (.one (.ptr 102 0))), (3, .x (.one (.ptr 103 0))), (4, .x (.one (.ptr 104 0))), (18, .x (.one (.p (.val (.bool (b.Num == (0 : Int)))))))], mkH [(102, .var [.p (pi a.Num), .p (pi a.Den)]), (103, .var [.p (pi b.Num), .p (pi b.Den)]), (104, .var [.p (pi (0 : Int)), .p (pi (0 : Int))])]⟩) ?_
    refine lok_c (b.Num == (0 : Int)) ?_ ?_
    · intro b_3
      replace H0 := cpos H0 b_3
      refine lok_rt E0 (⟨40, mkS [(4, .x (.one (.ptr 104 0))), (5, .x (.one (.p (pi (2 : Int)))))], mkH [(104, .var [.p (pi (0 : Int)), .p (pi (0 : Int))])]⟩) ?_
      refine lok_ret ?_
      obtain rfl := Option.some.inj H0
      try simp only [thenL, blockL]
      exact fin_au _ (.inr rfl) [] (⟨40, mkS [(4, .x (.one (.ptr 104 0))), (5, .x (.one (.p (pi (2 : Int)))))], mkH [(104, .var [.p (pi (0 : Int)), .p (pi (0 : Int))])]⟩) rfl rfl imp_au
    · intro b_3
      replace H0 := cneg H0 b_3
      refine lok_skip ?_
      try simp only [thenL, blockL, ↓reduceIte, reduceCtorEq]
      refine lok_rt E0 (⟨40, mkS [(2, .x (.one (.ptr 102 0))), (3, .x (.one (.ptr 103 0))), (4, .x (.one (.ptr 104 0))), (6, .x (.one (.ptr 106 0)))], mkH [(102, .var [.p (pi a.Num), .p (pi a.Den)]), (103, .var [.p (pi b.Num), .p (pi b.Den)]), (104, .var [.p (pi (0 : Int)), .p (pi (0 : Int))]), (106, .var [.p (pi b.Den), .p (pi b.Num)])]⟩) ?_
      refine lok_join (fun x_ : Int × Int => ratio_Div_j1 a x_.1 x_.2 = some r_) (fun x_ => ⟨40, mkS [(2, .x (.one (.ptr 102 0))), (4, .x (.one (.ptr 104 0))), (6, .x (.one (.ptr 106 0)))], mkH [(102, .var [.p (pi a.Num), .p (pi a.Den)]), (104, .var [.p (pi (0 : Int)), .p (pi (0 : Int))]), (106, .var [.p (pi x_.1), .p (pi x_.2)])]⟩) ?hyratio_Div_j1 ?hxratio_Div_j1
      case hyratio_Div_j1 =>
        rintro ⟨inverse, inverse1⟩ H0
        try dsimp only at H0 ⊢
        unfold ratio_Div_j1 at H0
        replace H0 := bind_some H0
        obtain ⟨⟨y1, y2⟩, h_1, H0⟩ := H0
        try dsimp only at H0
        refine lok_rt (Env.of E0 [⟨some 37, 19, [.agg [.p (pi a.Num), .p (pi a.Den)], .agg [.p (pi inverse), .p (pi inverse1)]], [], [.agg [.p (pi y1.Num), .p (pi y1.Den)], .one (.p (pi y2))], [], True, fun _ => ok_ratio_Mul a (api_Ratio.mk inverse inverse1) (y1, y2) h_1, []⟩]) (⟨40, mkS [(4, .x (.one (.ptr 104 0))), (5, .x (.one (.p (pi y2))))], mkH [(104, .var [.p (pi y1.Num), .p (pi y1.Den)])]⟩) ?_
        refine lok_ret ?_
        obtain rfl := Option.some.inj H0
        try simp only [thenL, blockL]
        exact fin_au _ (.inr rfl) [] (⟨40, mkS [(4, .x (.one (.ptr 104 0))), (5, .x (.one (.p (pi y2))))], mkH [(104, .var [.p (pi y1.Num), .p (pi y1.Den)])]⟩) rfl rfl imp_au
      case hxratio_Div_j1 =>
        refine lok_rt E0 (⟨40, mkS [(2, .x (.one (.ptr 102 0))), (3, .x (.one (.ptr 103 0))), (4, .x (.one (.ptr 104 0))), (6, .x (.one (.ptr 106 0))), (27, .x (.one (.p (.val (.bool (decide (b.Num < (0 : Int))))))))], mkH [(102, .var [.p (pi a.Num), .p (pi a.Den)]), (103, .var [.p (pi b.Num), .p (pi b.Den)]), (104, .var [.p (pi (0 : Int)), .p (pi (0 : Int))]), (106, .var [.p (pi b.Den), .p (pi b.Num)])]⟩) ?_
        refine lok_c (decide (b.Num < (0 : Int))) ?_ ?_
        · intro b_2
          replace H0 := cpos H0 b_2
          refine lok_rl E0 (⟨40, mkS [(2, .x (.one (.ptr 102 0))), (4, .x (.one (.ptr 104 0))), (6, .x (.one (.ptr 106 0)))], mkH [(102, .var [.p (pi a.Num), .p (pi a.Den)]), (104, .var [.p (pi (0 : Int)), .p (pi (0 : Int))]), (106, .var [.p (pi (IntKind.i64.wrap (0 - b.Den))), .p (pi (IntKind.i64.wrap (0 - b.Num)))])]⟩) ?_
          try simp only [thenL, blockL, ↓reduceIte, reduceCtorEq]
          exact ⟨((IntKind.i64.wrap (0 - b.Den)), (IntKind.i64.wrap (0 - b.Num))), H0, imp_au⟩
        · intro b_2
          replace H0 := cneg H0 b_2
          refine lok_skip ?_
          try simp only [thenL, blockL, ↓reduceIte, reduceCtorEq]
          exact ⟨(b.Den, b.Num), H0, imp_au⟩
theorem ok_law01_RatioField (t : List Int) (r_ : Bool) (H0 : law01_RatioField t = some r_) : CallOK Try.prog 6 [.one (.p (.sl 1 (List.map encI t)))] [] [.one (.p (.val (.bool r_)))] [] := by
  refine callOK (n := 191) (rs := [.tmp 2]) (nb := 0) (V := []) Try.func6 rfl (by kernel_rfl) rfl rfl rfl rfl (Nat.le_of_ble_eq_true rfl) (by decide) ?_
  unfold law01_RatioField at H0
  refine lok_rt E0 (⟨191, mkS [(0, .x (.one (.p (.sl 1 (List.map encI t)))))], mkH []⟩) ?_
  replace H0 := bind_some H0
  obtain ⟨y, h_0, H0⟩ := H0
  refine lok_rt (Env.of E0 [⟨some 32, 11, [.one (.p (.sl 1 (List.map encI t)))], [], [.one (.ptr 0 0)], [some (.var [.p (.sl 1 (List.map encI y.L)), .p (pi y.At)])], True, fun _ => ok_make_New t y h_0, []⟩]) (⟨191, mkS [(3, .x (.one (.ptr 1032 0)))], mkH [(1032, .var [.p (.sl 1 (List.map encI y.L)), .p (pi y.At)])]⟩) ?_
  replace H0 := bind_some H0
  obtain ⟨⟨y1, y2⟩, h_1, H0⟩ := H0
  try dsimp only at H0
  replace H0 := bind_some H0
  obtain ⟨⟨y3, y4⟩, h_2, H0⟩ := H0
  try dsimp only at H0
  replace H0 := bind_some H0
  obtain ⟨⟨y5, y6⟩, h_3, H0⟩ := H0
  try dsimp only at H0
  refine lok_rt (Env.of E0 [⟨some 34, 21, [.one (.ptr 0 0)], [.var [.p (.sl 1 (List.map encI y.L)), .p (pi y.At)]], [.agg [.p (pi y1.Num), .p (pi y1.Den)]], [some (.var [.p (.sl 1 (List.map encI y2.L)), .p (pi y2.At)])], True, fun _ => ok_make_Tape_Small y (y1, y2) h_1, []⟩,
      ⟨some 36, 21, [.one (.ptr 0 0)], [.var [.p (.sl 1 (List.map encI y2.L)), .p (pi y2.At)]], [.agg [.p (pi y3.Num), .p (pi y3.Den)]], [some (.var [.p (.sl 1 (List.map encI y4.L)), .p (pi y4.At)])], True, fun _ => ok_make_Tape_Small y2 (y3, y4) h_2, []⟩,
      ⟨some 38, 21, [.one (.ptr 0 0)], [.var [.p (.sl 1 (List.map encI y4.L)), .p (pi y4.At)]], [.agg [.p (pi y5.Num), .p (pi y5.Den)]], [some (.var [.p (.sl 1 (List.map encI y6.L)), .p (pi y6.At)])], True, fun _ => ok_make_Tape_Small y4 (y5, y6) h_3, []⟩]) (⟨191, mkS [(4, .x (.one (.ptr 104 0))), (5, .x (.one (.ptr 105 0))), (6, .x (.one (.ptr 106 0)))], mkH [(104, .var [.p (pi y1.Num), .p (pi y1.Den)]), (105, .var [.p (pi y3.Num), .p (pi y3.Den)]), (106, .var [.p (pi y5.Num), .p (pi y5.Den)])]⟩) ?_
  replace H0 := bind_some H0
  obtain ⟨⟨y7, y8⟩, h_4, H0⟩ := H0
  try dsimp only at H0
  refine lok_rt (Env.of E0 [⟨some 42, 22, [.agg [.p (pi y1.Num), .p (pi y1.Den)], .agg [.p (pi y3.Num), .p (pi y3.Den)]], [], [.agg [.p (pi y7.Num), .p (pi y7.Den)], .one (.p (pi y8))], [], True, fun _ => ok_ratio_Add y1 y3 (y7, y8) h_4, []⟩]) (⟨191, mkS [(4, .x (.one (.ptr 104 0))), (5, .x (.one (.ptr 105 0))), (6, .x (.one (.ptr 106 0))), (7, .x (.one (.ptr 107 0))), (8, .x (.one (.p (pi y8))))], mkH [(104, .var [.p (pi y1.Num), .p (pi y1.Den)]), (105, .var [.p (pi y3.Num), .p (pi y3.Den)]), (106, .var [.p (pi y5.Num), .p (pi y5.Den)]), (107, .var [.p (pi y7.Num), .p (pi y7.Den)])]⟩) ?_
  replace H0 := bind_some H0
  obtain ⟨⟨y9, y10⟩, h_5, H0⟩ := H0
  try dsimp only at H0
  refine lok_rt (Env.of E0 [⟨some 48, 22, [.agg [.p (pi y3.Num), .p (pi y3.Den)], .agg [.p (pi y1.Num), .p (pi y1.Den)]], [], [.agg [.p (pi y9.Num), .p (pi y9.Den)], .one (.p (pi y10))], [], True, fun _ => ok_ratio_Add y3 y1 (y9, y10) h_5, []⟩]) (⟨191, mkS [(4, .x (.one (.ptr 104 0))), (5, .x (.one (.ptr 105 0))), (6, .x (.one (.ptr 106 0))), (7, .x (.one (.ptr 107 0))), (8, .x (.one (.p (pi y8)))), (9, .x (.one (.ptr 109 0))), (10, .x (.one (.p (pi y10))))], mkH [(104, .var [.p (pi y1.Num), .p (pi y1.Den)]), (105, .var [.p (pi y3.Num), .p (pi y3.Den)]), (106, .var [.p (pi y5.Num), .p (pi y5.Den)]), (107, .var [.p (pi y7.Num), .p (pi y7.Den)]), (109, .var [.p (pi y9.Num), .p (pi y9.Den)])]⟩) ?_
  replace H0 := bind_some H0
  obtain ⟨⟨y11, y12⟩, h_6, H0⟩ := H0
  try dsimp only at H0
  refine lok_rt (Env.of E0 [⟨some 54, 22, [.agg [.p (pi y3.Num), .p (pi y3.Den)], .agg [.p (pi y5.Num), .p (pi y5.Den)]], [], [.agg [.p (pi y11.Num), .p (pi y11.Den)], .one (.p (pi y12))], [], True, fun _ => ok_ratio_Add y3 y5 (y11, y12) h_6, []⟩]) (⟨191, mkS [(4, .x (.one (.ptr 104 0))), (5, .x (.one (.ptr 105 0))), (6, .x (.one (.ptr 106 0))), (7, .x (.one (.ptr 107 0))), (8, .x (.one (.p (pi y8)))), (9, .x (.one (.ptr 109 0))), (10, .x (.one (.p (pi y10)))), (11, .x (.one (.ptr 111 0))), (12, .x (.one (.p (pi y12))))], mkH [(104, .var [.p (pi y1.Num), .p (pi y1.Den)]), (105, .var [.p (pi y3.Num), .p (pi y3.Den)]), (106, .var [.p (pi y5.Num), .p (pi y5.Den)]), (107, .var [.p (pi y7.Num), .p (pi y7.Den)]), (109, .var [.p (pi y9.Num), .p (pi y9.Den)]), (111, .var [.p (pi y11.Num), .p (pi y11.Den)])]⟩) ?_
  replace H0 := bind_some H0
  obtain ⟨⟨y13, y14⟩, h_7, H0⟩ := H0
  try dsimp only at H0
  refine lok_rt (Env.of E0 [⟨some 60, 22, [.agg [.p (pi y7.Num), .p (pi y7.Den)], .agg [.p (pi y5.Num), .p (pi y5.Den)]], [], [.agg [.p (pi y13.Num), .p (pi y13.Den)], .one (.p (pi y14))], [], True, fun _ => ok_ratio_Add y7 y5 (y13, y14) h_7, []⟩]) (⟨191, mkS [(4, .x (.one (.ptr 104 0))), (5, .x (.one (.ptr 105 0))), (6, .x (.one (.ptr 106 0))), (7, .x (.one (.ptr 107 0))), (8, .x (.one (.p (pi y8)))), (9, .x (.one (.ptr 109 0))), (10, .x (.one (.p (pi y10)))), (11, .x (.one (.ptr 111 0))), (12, .x (.one (.p (pi y12)))), (13, .x (.one (.ptr 113 0))), (14, .x (.one (.p (pi y14))))], mkH [(104, .var [.p (pi y1.Num), .p (pi y1.Den)]), (105, .var [.p (pi y3.Num), .p (pi y3.Den)]), (106, .var [.p (pi y5.Num), .p (pi y5.Den)]), (107, .var [.p (pi y7.Num), .p (pi y7.Den)]), (109, .var [.p (pi y9.Num), .p (pi y9.Den)]), (111, .var [.p (pi y11.Num), .p (pi y11.Den)]), (113, .var [.p (pi y13.Num), .p (pi y13.Den)])]⟩) ?_
  replace H0 := bind_some H0
  obtain ⟨⟨y15, y16⟩, h_8, H0⟩ := H0
  try dsimp only at H0
  refine lok_rt (Env.of E0 [⟨some 66, 22, [.agg [.p (pi y1.Num), .p (pi y1.Den)], .agg [.p (pi y11.Num), .p (pi y11.Den)]], [], [.agg [.p (pi y15.Num), .p (pi y15.Den)], .one (.p (pi y16))], [], True, fun _ => ok_ratio_Add y1 y11 (y15, y16) h_8, []⟩]) (⟨191, mkS [(4, .x (.one (.ptr 104 0))), (5, .x (.one (.ptr 105 0))), (6, .x (.one (.ptr 106 0))), (7, .x (.one (.ptr 107 0))), (8, .x (.one (.p (pi y8)))), (9, .x (.one (.ptr 109 0))), (10, .x (.one (.p (pi y10)))), (11, .x (.one (.ptr 111 0))), (12, .x (.one (.p (pi y12)))), (13, .x (.one (.ptr 113 0))), (14, .x (.one (.p (pi y14)))), (15, .x (.one (.ptr 115 0))), (16, .x (.one (.p (pi y16))))], mkH [(104, .var [.p (pi y1.Num), .p (pi y1.Den)]), (105, .var [.p (pi y3.Num), .p (pi y3.Den)]), (106, .var [.p (pi y5.Num), .p (pi y5.Den)]), (107, .var [.p (pi y7.Num), .p (pi y7.Den)]), (109, .var [.p (pi y9.Num), .p (pi y9.Den)]), (111, .var [.p (pi y11.Num), .p (pi y11.Den)]), (113, .var [.p (pi y13.Num), .p (pi y13.Den)]), (115, .var [.p (pi y15.Num), .p (pi y15.Den)])]⟩) ?_
  replace H0 := bind_some H0
  obtain ⟨⟨y17, y18⟩, h_9, H0⟩ := H0
  try dsimp only at H0
  refine lok_rt (Env.of E0 [⟨some 72, 19, [.agg [.p (pi y1.Num), .p (pi y1.Den)], .agg [.p (pi y3.Num), .p (pi y3.Den)]], [], [.agg [.p (pi y17.Num), .p (pi y17.Den)], .one (.p (pi y18))], [], True, fun _ => ok_ratio_Mul y1 y3 (y17, y18) h_9, []⟩]) (⟨191, mkS [(4, .x (.one (.ptr 104 0))), (5, .x (.one (.ptr 105 0))), (6, .x (.one (.ptr 106 0))), (7, .x (.one (.ptr 107 0))), (8, .x (.one (.p (pi y8)))), (9, .x (.one (.ptr 109 0))), (10, .x (.one (.p (pi y10)))), (11, .x (.one (.ptr 111 0))), (12, .x (.one (.p (pi y12)))), (13, .x (.one (.ptr 113 0))), (14, .x (.one (.p (pi y14)))), (15, .x (.one (.ptr 115 0))), (16, .x (.one (.p (pi y16)))), (17, .x (.one (.ptr 117 0))), (18, .x (.one (.p (pi y18))))], mkH [(104, .var [.p (pi y1.Num), .p (pi y1.Den)]), (105, .var [.p (pi y3.Num), .p (pi y3.Den)]), (106, .var [.p (pi y5.Num), .p (pi y5.Den)]), (107, .var [.p (pi y7.Num), .p (pi y7.Den)]), (109, .var [.p (pi y9.Num), .p (pi y9.Den)]), (111, .var [.p (pi y11.Num), .p (pi y11.Den)]), (113, .var [.p (pi y13.Num), .p (pi y13.Den)]), (115, .var [.p (pi y15.Num), .p (pi y15.Den)]), (117, .var [.p (pi y17.Num), .p (pi y17.Den)])]⟩) ?_
  replace H0 := bind_some H0
  obtain ⟨⟨y19, y20⟩, h_10, H0⟩ := H0
  try dsimp only at H0
  refine lok_rt (Env.of E0 [⟨some 78, 19, [.agg [.p (pi y3.Num), .p (pi y3.Den)], .agg [.p (pi y1.Num), .p (pi y1.Den)]], [], [.agg [.p (pi y19.Num), .p (pi y19.Den)], .one (.p (pi y20))], [], True, fun _ => ok_ratio_Mul y3 y1 (y19, y20) h_10, []⟩]) (⟨191, mkS [(4, .x (.one (.ptr 104 0))), (5, .x (.one (.ptr 105 0))), (6, .x (.one (.ptr 106 0))), (7, .x (.one (.ptr 107 0))), (8, .x (.one (.p (pi y8)))), (9, .x (.one (.ptr 109 0))), (10, .x (.one (.p (pi y10)))), (11, .x (.one (.ptr 111 0))), (12, .x (.one (.p (pi y12)))), (13, .x (.one (.ptr 113 0))), (14, .x (.one (.p (pi y14)))), (15, .x (.one (.ptr 115 0))), (16, .x (.one (.p (pi y16)))), (17, .x (.one (.ptr 117 0))), (18, .x (.one (.p (pi y18)))), (19, .x (.one (.ptr 119 0))), (20, .x (.one (.p (pi y20))))], mkH [(104, .var [.p (pi y1.Num), .p (pi y1.Den)]), (105, .var [.p (pi y3.Num), .p (pi y3.Den)]), (106, .var [.p (pi y5.Num), .p (pi y5.Den)]), (107, .var [.p (pi y7.Num), .p (pi y7.Den)]), (109, .var [.p (pi y9.Num), .p (pi y9.Den)]), (111, .var [.p (pi y11.Num), .p (pi y11.Den)]), (113, .var [.p (pi y13.Num), .p (pi y13.Den)]), (115, .var [.p (pi y15.Num), .p (pi y15.Den)]), (117, .var [.p (pi y17.Num), .p (pi y17.Den)]), (119, .var [.p (pi y19.Num), .p (pi y19.Den)])]⟩) ?_
  replace H0 := bind_some H0
  obtain ⟨⟨y21, y22⟩, h_11, H0⟩ := H0
  try dsimp only at H0
  refine lok_rt (Env.of E0 [⟨some 84, 19, [.agg [.p (pi y1.Num), .p (pi y1.Den)], .agg [.p (pi y5.Num), .p (pi y5.Den)]], [], [.agg [.p (pi y21.Num), .p (pi y21.Den)], .one (.p (pi y22))], [], True, fun _ => ok_ratio_Mul y1 y5 (y21, y22) h_11, []⟩]) (⟨191, mkS [(4, .x (.one (.ptr 104 0))), (5, .x (.one (.ptr 105 0))), (7, .x (.one (.ptr 107 0))), (8, .x (.one (.p (pi y8)))), (9, .x (.one (.ptr 109 0))), (10, .x (.one (.p (pi y10)))), (11, .x (.one (.ptr 111 0))), (12, .x (.one (.p (pi y12)))), (13, .x (.one (.ptr 113 0))), (14, .x (.one (.p (pi y14)))), (15, .x (.one (.ptr 115 0))), (16, .x (.one (.p (pi y16)))), (17, .x (.one (.ptr 117 0))), (18, .x (.one (.p (pi y18)))), (19, .x (.one (.ptr 119 0))), (20, .x (.one (.p (pi y20)))), (21, .x (.one (.ptr 121 0))), (22, .x (.one (.p (pi y22))))], mkH [(104, .var [.p (pi y1.Num), .p (pi y1.Den)]), (105, .var [.p (pi y3.Num), .p (pi y3.Den)]), (107, .var [.p (pi y7.Num), .p (pi y7.Den)]), (109, .var [.p (pi y9.Num), .p (pi y9.Den)]), (111, .var [.p (pi y11.Num), .p (pi y11.Den)]), (113, .var [.p (pi y13.Num), .p (pi y13.Den)]), (115, .var [.p (pi y15.Num), .p (pi y15.Den)]), (117, .var [.p (pi y17.Num), .p (pi y17.Den)]), (119, .var [.p (pi y19.Num), .p (pi y19.Den)]), (121, .var [.p (pi y21.Num), .p (pi y21.Den)])]⟩) ?_
  replace H0 := bind_some H0
  obtain ⟨⟨y23, y24⟩, h_12, H0⟩ := H0
  try dsimp only at H0
  refine lok_rt (Env.of E0 [⟨some 90, 19, [.agg [.p (pi y1.Num), .p (pi y1.Den)], .agg [.p (pi y11.Num), .p (pi y11.Den)]], [], [.agg [.p (pi y23.Num), .p (pi y23.Den)], .one (.p (pi y24))], [], True, fun _ => ok_ratio_Mul y1 y11 (y23, y24) h_12, []⟩]) (⟨191, mkS [(4, .x (.one (.ptr 104 0))), (5, .x (.one (.ptr 105 0))), (7, .x (.one (.ptr 107 0))), (8, .x (.one (.p (pi y8)))), (9, .x (.one (.ptr 109 0))), (10, .x (.one (.p (pi y10)))), (12, .x (.one (.p (pi y12)))), (13, .x (.one (.ptr 113 0))), (14, .x (.one (.p (pi y14)))), (15, .x (.one (.ptr 115 0))), (16, .x (.one (.p (pi y16)))), (17, .x (.one (.ptr 117 0))), (18, .x (.one (.p (pi y18)))), (19, .x (.one (.ptr 119 0))), (20, .x (.one (.p (pi y20)))), (21, .x (.one (.ptr 121 0))), (22, .x (.one (.p (pi y22)))), (23, .x (.one (.ptr 123 0))), (24, .x (.one (.p (pi y24))))], mkH [(104, .var [.p (pi y1.Num), .p (pi y1.Den)]), (105, .var [.p (pi y3.Num), .p (pi y3.Den)]), (107, .var [.p (pi y7.Num), .p (pi y7.Den)]), (109, .var [.p (pi y9.Num), .p (pi y9.Den)]), (113, .var [.p (pi y13.Num), .p (pi y13.Den)]), (115, .var [.p (pi y15.Num), .p (pi y15.Den)]), (117, .var [.p (pi y17.Num), .p (pi y17.Den)]), (119, .var [.p (pi y19.Num), .p (pi y19.Den)]), (121, .var [.p (pi y21.Num), .p (pi y21.Den)]), (123, .var [.p (pi y23.Num), .p (pi y23.Den)])]⟩) ?_
  replace H0 := bind_some H0
  obtain ⟨⟨y25, y26⟩, h_13, H0⟩ := H0
  try dsimp only at H0
  refine lok_rt (Env.of E0 [⟨some 96, 22, [.agg [.p (pi y17.Num), .p (pi y17.Den)], .agg [.p (pi y21.Num), .p (pi y21.Den)]], [], [.agg [.p (pi y25.Num), .p (pi y25.Den)], .one (.p (pi y26))], [], True, fun _ => ok_ratio_Add y17 y21 (y25, y26) h_13, []⟩]) (⟨191, mkS [(4, .x (.one (.ptr 104 0))), (5, .x (.one (.ptr 105 0))), (7, .x (.one (.ptr 107 0))), (8, .x (.one (.p (pi y8)))), (9, .x (.one (.ptr 109 0))), (10, .x (.one (.p (pi y10)))), (12, .x (.one (.p (pi y12)))), (13, .x (.one (.ptr 113 0))), (14, .x (.one (.p (pi y14)))), (15, .x (.one (.ptr 115 0))), (16, .x (.one (.p (pi y16)))), (17, .x (.one (.ptr 117 0))), (18, .x (.one (.p (pi y18)))), (19, .x (.one (.ptr 119 0))), (20, .x (.one (.p (pi y20)))), (22, .x (.one (.p (pi y22)))), (23, .x (.one (.ptr 123 0))), (24, .x (.one (.p (pi y24)))), (25, .x (.one (.ptr 125 0))), (26, .x (.one (.p (pi y26))))], mkH [(104, .var [.p (pi y1.Num), .p (pi y1.Den)]), (105, .var [.p (pi y3.Num), .p (pi y3.Den)]), (107, .var [.p (pi y7.Num), .p (pi y7.Den)]), (109, .var [.p (pi y9.Num), .p (pi y9.Den)]), (113, .var [.p (pi y13.Num), .p (pi y13.Den)]), (115, .var [.p (pi y15.Num), .p (pi y15.Den)]), (117, .var [.p (pi y17.Num), .p (pi y17.Den)]), (119, .var [.p (pi y19.Num), .p (pi y19.Den)]), (123, .var [.p (pi y23.Num), .p (pi y23.Den)]), (125, .var [.p (pi y25.Num), .p (pi y25.Den)])]⟩) ?_
  replace H0 := bind_some H0
  obtain ⟨⟨y27, y28⟩, h_14, H0⟩ := H0
  try dsimp only at H0
  refine lok_rt (Env.of E0 [⟨some 102, 23, [.agg [.p (pi y7.Num), .p (pi y7.Den)], .agg [.p (pi y3.Num), .p (pi y3.Den)]], [], [.agg [.p (pi y27.Num), .p (pi y27.Den)], .one (.p (pi y28))], [], True, fun _ => ok_ratio_Sub y7 y3 (y27, y28) h_14, []⟩]) (⟨191, mkS [(4, .x (.one (.ptr 104 0))), (5, .x (.one (.ptr 105 0))), (7, .x (.one (.ptr 107 0))), (8, .x (.one (.p (pi y8)))), (9, .x (.one (.ptr 109 0))), (10, .x (.one (.p (pi y10)))), (12, .x (.one (.p (pi y12)))), (13, .x (.one (.ptr 113 0))), (14, .x (.one (.p (pi y14)))), (15, .x (.one (.ptr 115 0))), (16, .x (.one (.p (pi y16)))), (17, .x (.one (.ptr 117 0))), (18, .x (.one (.p (pi y18)))), (19, .x (.one (.ptr 119 0))), (20, .x (.one (.p (pi y20)))), (22, .x (.one (.p (pi y22)))), (23, .x (.one (.ptr 123 0))), (24, .x (.one (.p (pi y24)))), (25, .x (.one (.ptr 125 0))), (26, .x (.one (.p (pi y26)))), (27, .x (.one (.ptr 127 0))), (28, .x (.one (.p (pi y28))))], mkH [(104, .var [.p (pi y1.Num), .p (pi y1.Den)]), (105, .var [.p (pi y3.Num), .p (pi y3.Den)]), (107, .var [.p (pi y7.Num), .p (pi y7.Den)]), (109, .var [.p (pi y9.Num), .p (pi y9.Den)]), (113, .var [.p (pi y13.Num), .p (pi y13.Den)]), (115, .var [.p (pi y15.Num), .p (pi y15.Den)]), (117, .var [.p (pi y17.Num), .p (pi y17.Den)]), (119, .var [.p (pi y19.Num), .p (pi y19.Den)]), (123, .var [.p (pi y23.Num), .p (pi y23.Den)]), (125, .var [.p (pi y25.Num), .p (pi y25.Den)]), (127, .var [.p (pi y27.Num), .p (pi y27.Den)])]⟩) ?_
  refine lok_seq ?_
  refine lok_rt E0 (⟨191, mkS [(4, .x (.one (.ptr 104 0))), (5, .x (.one (.ptr 105 0))), (7, .x (.one (.ptr 107 0))), (9, .x (.one (.ptr 109 0))), (13, .x (.one (.ptr 113 0))), (15, .x (.one (.ptr 115 0))), (17, .x (.one (.ptr 117 0))), (19, .x (.one (.ptr 119 0))), (23, .x (.one (.ptr 123 0))), (25, .x (.one (.ptr 125 0))), (27, .x (.one (.ptr 127 0))), (146, .x (.one (.p (.val (.bool (((((((((((y8 != (0 : Int)) || (y10 != (0 : Int))) || (y12 != (0 : Int))) || (y14 != (0 : Int))) || (y16 != (0 : Int))) || (y18 != (0 : Int))) || (y20 != (0 : Int))) || (y22 != (0 : Int))) || (y24 != (0 : Int))) || (y26 != (0 : Int))) || (y28 != (0 : Int))))))))], mkH [(104, .var [.p (pi y1.Num), .p (pi y1.Den)]), (105, .var [.p (pi y3.Num), .p (pi y3.Den)]), (107, .var [.p (pi y7.Num), .p (pi y7.Den)]), (109, .var [.p (pi y9.Num), .p (pi y9.Den)]), (113, .var [.p (pi y13.Num), .p (pi y13.Den)]), (115, .var [.p (pi y15.Num), .p (pi y15.Den)]), (117, .var [.p (pi y17.Num), .p (pi y17.Den)]), (119, .var [.p (pi y19.Num), .p (pi y19.Den)]), (123, .var [.p (pi y23.Num), .p (pi y23.Den)]), (125, .var [.p (pi y25.Num), .p (pi y25.Den)]), (127, .var [.p (pi y27.Num), .p (pi y27.Den)])]⟩) ?_
  refine lok_c (((((((((((y8 != (0 : Int)) || (y10 != (0 : Int))) || (y12 != (0 : Int))) || (y14 != (0 : Int))) || (y16 != (0 : Int))) || (y18 != (0 : Int))) || (y20 != (0 : Int))) || (y22 != (0 : Int))) || (y24 != (0 : Int))) || (y26 != (0 : Int))) || (y28 != (0 : Int))) ?_ ?_
  · intro b_20
    replace H0 := cpos H0 b_20
    refine lok_rt E0 (⟨191, mkS [(2, .x (.one (.p (.val (.bool false)))))], mkH []⟩) ?_
    refine lok_ret ?_
    obtain rfl := Option.some.inj H0
    try simp only [thenL, blockL]
    exact fin_au _ (.inr rfl) [] (⟨191, mkS [(2, .x (.one (.p (.val (.bool false)))))], mkH []⟩) rfl rfl imp_au
  · intro b_20
    replace H0 := cneg H0 b_20
    refine lok_skip ?_
    try simp only [thenL, blockL, ↓reduceIte, reduceCtorEq]
    replace H0 := bind_some H0
    obtain ⟨⟨y29, y30⟩, h_15, H0⟩ := H0
    try dsimp only at H0
    refine lok_rt (Env.of E0 [⟨some 150, 24, [.agg [.p (pi y17.Num), .p (pi y17.Den)], .agg [.p (pi y3.Num), .p (pi y3.Den)]], [], [.agg [.p (pi y29.Num), .p (pi y29.Den)], .one (.p (pi y30))], [], True, fun _ => ok_ratio_Div y17 y3 (y29, y30) h_15, []⟩]) (⟨191, mkS [(4, .x (.one (.ptr 104 0))), (5, .x (.one (.ptr 105 0))), (7, .x (.one (.ptr 107 0))), (9, .x (.one (.ptr 109 0))), (13, .x (.one (.ptr 113 0))), (15, .x (.one (.ptr 115 0))), (17, .x (.one (.ptr 117 0))), (19, .x (.one (.ptr 119 0))), (23, .x (.one (.ptr 123 0))), (25, .x (.one (.ptr 125 0))), (27, .x (.one (.ptr 127 0))), (29, .x (.one (.ptr 129 0))), (30, .x (.one (.p (pi y30))))], mkH [(104, .var [.p (pi y1.Num), .p (pi y1.Den)]), (105, .var [.p (pi y3.Num), .p (pi y3.Den)]), (107, .var [.p (pi y7.Num), .p (pi y7.Den)]), (109, .var [.p (pi y9.Num), .p (pi y9.Den)]), (113, .var [.p (pi y13.Num), .p (pi y13.Den)]), (115, .var [.p (pi y15.Num), .p (pi y15.Den)]), (117, .var [.p (pi y17.Num), .p (pi y17.Den)]), (119, .var [.p (pi y19.Num), .p (pi y19.Den)]), (123, .var [.p (pi y23.Num), .p (pi y23.Den)]), (125, .var [.p (pi y25.Num), .p (pi y25.Den)]), (127, .var [.p (pi y27.Num), .p (pi y27.Den)]), (129, .var [.p (pi y29.Num), .p (pi y29.Den)])]⟩) ?_
    refine lok_join (fun x_ : Unit => law01_RatioField_j1 y1 y7 y9 y13 y15 y17 y19 y23 y25 y27 = some r_) (fun x_ => ⟨191, mkS [(4, .x (.one (.ptr 104 0))), (7, .x (.one (.ptr 107 0))), (9, .x (.one (.ptr 109 0))), (13, .x (.one (.ptr 113 0))), (15, .x (.one (.ptr 115 0))), (17, .x (.one (.ptr 117 0))), (19, .x (.one (.ptr 119 0))), (23, .x (.one (.ptr 123 0))), (25, .x (.one (.ptr 125 0))), (27, .x (.one (.ptr 127 0)))], mkH [(104, .var [.p (pi y1.Num), .p (pi y1.Den)]), (107, .var [.p (pi y7.Num), .p (pi y7.Den)]), (109, .var [.p (pi y9.Num), .p (pi y9.Den)]), (113, .var [.p (pi y13.Num), .p (pi y13.Den)]), (115, .var [.p (pi y15.Num), .p (pi y15.Den)]), (117, .var [.p (pi y17.Num), .p (pi y17.Den)]), (119, .var [.p (pi y19.Num), .p (pi y19.Den)]), (123, .var [.p (pi y23.Num), .p (pi y23.Den)]), (125, .var [.p (pi y25.Num), .p (pi y25.Den)]), (127, .var [.p (pi y27.Num), .p (pi y27.Den)])]⟩) ?hylaw01_RatioField_j1 ?hxlaw01_RatioField_j1
    case hylaw01_RatioField_j1 =>
      rintro _ H0
      try dsimp only at H0 ⊢
      unfold law01_RatioField_j1 at H0
      replace H0 := req_some H0
      obtain ⟨q_16, H0⟩ := H0
      refine lok_rt (Env.of E0 [⟨some 189, 10, [], [], [.one (.p (.val (.bool ((law01_awake).getD default))))], [], (law01_awake).isSome = true, fun h => ok_law01_awake _ (isSome_get h), []⟩]) (⟨191, mkS [(2, .x (.one (.p (.val (.bool (((((((y7.Num == y9.Num) && (y7.Den == y9.Den)) && ((y13.Num == y15.Num) && (y13.Den == y15.Den))) && ((y17.Num == y19.Num) && (y17.Den == y19.Den))) && ((y23.Num == y25.Num) && (y23.Den == y25.Den))) && ((y27.Num == y1.Num) && (y27.Den == y1.Den))) && ((law01_awake).getD default)))))))], mkH []⟩) ?_
      refine lok_ret ?_
      obtain rfl := Option.some.inj H0
      try simp only [thenL, blockL]
      exact fin_au _ (.inr rfl) [] (⟨191, mkS [(2, .x (.one (.p (.val (.bool (((((((y7.Num == y9.Num) && (y7.Den == y9.Den)) && ((y13.Num == y15.Num) && (y13.Den == y15.Den))) && ((y17.Num == y19.Num) && (y17.Den == y19.Den))) && ((y23.Num == y25.Num) && (y23.Den == y25.Den))) && ((y27.Num == y1.Num) && (y27.Den == y1.Den))) && ((law01_awake).getD default)))))))], mkH []⟩) rfl rfl imp_au
    case hxlaw01_RatioField_j1 =>
      refine lok_rt E0 (⟨191, mkS [(4, .x (.one (.ptr 104 0))), (7, .x (.one (.ptr 107 0))), (9, .x (.one (.ptr 109 0))), (13, .x (.one (.ptr 113 0))), (15, .x (.one (.ptr 115 0))), (17, .x (.one (.ptr 117 0))), (19, .x (.one (.ptr 119 0))), (23, .x (.one (.ptr 123 0))), (25, .x (.one (.ptr 125 0))), (27, .x (.one (.ptr 127 0))), (29, .x (.one (.ptr 129 0))), (30, .x (.one (.p (pi y30)))), (155, .x (.one (.p (.val (.bool (y3.Num == (0 : Int)))))))], mkH [(104, .var [.p (pi y1.Num), .p (pi y1.Den)]), (107, .var [.p (pi y7.Num), .p (pi y7.Den)]), (109, .var [.p (pi y9.Num), .p (pi y9.Den)]), (113, .var [.p (pi y13.Num), .p (pi y13.Den)]), (115, .var [.p (pi y15.Num), .p (pi y15.Den)]), (117, .var [.p (pi y17.Num), .p (pi y17.Den)]), (119, .var [.p (pi y19.Num), .p (pi y19.Den)]), (123, .var [.p (pi y23.Num), .p (pi y23.Den)]), (125, .var [.p (pi y25.Num), .p (pi y25.Den)]), (127, .var [.p (pi y27.Num), .p (pi y27.Den)]), (129, .var [.p (pi y29.Num), .p (pi y29.Den)])]⟩) ?_
      refine lok_c (y3.Num == (0 : Int)) ?_ ?_
      · intro b_19
        replace H0 := cpos H0 b_19
        refine lok_rt E0 (⟨191, mkS [(4, .x (.one (.ptr 104 0))), (7, .x (.one (.ptr 107 0))), (9, .x (.one (.ptr 109 0))), (13, .x (.one (.ptr 113 0))), (15, .x (.one (.ptr 115 0))), (17, .x (.one (.ptr 117 0))), (19, .x (.one (.ptr 119 0))), (23, .x (.one (.ptr 123 0))), (25, .x (.one (.ptr 125 0))), (27, .x (.one (.ptr 127 0))), (157, .x (.one (.p (.val (.bool (y30 != (2 : Int)))))))], mkH [(104, .var [.p (pi y1.Num), .p (pi y1.Den)]), (107, .var [.p (pi y7.Num), .p (pi y7.Den)]), (109, .var [.p (pi y9.Num), .p (pi y9.Den)]), (113, .var [.p (pi y13.Num), .p (pi y13.Den)]), (115, .var [.p (pi y15.Num), .p (pi y15.Den)]), (117, .var [.p (pi y17.Num), .p (pi y17.Den)]), (119, .var [.p (pi y19.Num), .p (pi y19.Den)]), (123, .var [.p (pi y23.Num), .p (pi y23.Den)]), (125, .var [.p (pi y25.Num), .p (pi y25.Den)]), (127, .var [.p (pi y27.Num), .p (pi y27.Den)])]⟩) ?_
        refine lok_c (y30 != (2 : Int)) ?_ ?_
        · intro b_17
          replace H0 := cpos H0 b_17
          refine lok_rt E0 (⟨191, mkS [(2, .x (.one (.p (.val (.bool false)))))], mkH []⟩) ?_
          refine lok_ret ?_
          obtain rfl := Option.some.inj H0
          try simp only [thenL, blockL]
          exact fin_au _ (.inr rfl) [] (⟨191, mkS [(2, .x (.one (.p (.val (.bool false)))))], mkH []⟩) rfl rfl imp_au
        · intro b_17
          replace H0 := cneg H0 b_17
          refine lok_skip ?_
          try simp only [thenL, blockL, ↓reduceIte, reduceCtorEq]
          exact ⟨(), H0, imp_au⟩
      · intro b_19
        replace H0 := cneg H0 b_19
        refine lok_rt E0 (⟨191, mkS [(4, .x (.one (.ptr 104 0))), (7, .x (.one (.ptr 107 0))), (9, .x (.one (.ptr 109 0))), (13, .x (.one (.ptr 113 0))), (15, .x (.one (.ptr 115 0))), (17, .x (.one (.ptr 117 0))), (19, .x (.one (.ptr 119 0))), (23, .x (.one (.ptr 123 0))), (25, .x (.one (.ptr 125 0))), (27, .x (.one (.ptr 127 0))), (164, .x (.one (.p (.val (.bool ((y30 != (0 : Int)) || (!((y29.Num == y1.Num) && (y29.Den == y1.Den)))))))))], mkH [(104, .var [.p (pi y1.Num), .p (pi y1.Den)]), (107, .var [.p (pi y7.Num), .p (pi y7.Den)]), (109, .var [.p (pi y9.Num), .p (pi y9.Den)]), (113, .var [.p (pi y13.Num), .p (pi y13.Den)]), (115, .var [.p (pi y15.Num), .p (pi y15.Den)]), (117, .var [.p (pi y17.Num), .p (pi y17.Den)]), (119, .var [.p (pi y19.Num), .p (pi y19.Den)]), (123, .var [.p (pi y23.Num), .p (pi y23.Den)]), (125, .var [.p (pi y25.Num), .p (pi y25.Den)]), (127, .var [.p (pi y27.Num), .p (pi y27.Den)])]⟩) ?_
        refine lok_c ((y30 != (0 : Int)) || (!((y29.Num == y1.Num) && (y29.Den == y1.Den)))) ?_ ?_
        · intro b_18
          replace H0 := cpos H0 b_18
          refine lok_rt E0 (⟨191, mkS [(2, .x (.one (.p (.val (.bool false)))))], mkH []⟩) ?_
          refine lok_ret ?_
          obtain rfl := Option.some.inj H0
          try simp only [thenL, blockL]
          exact fin_au _ (.inr rfl) [] (⟨191, mkS [(2, .x (.one (.p (.val (.bool false)))))], mkH []⟩) rfl rfl imp_au
        · intro b_18
          replace H0 := cneg H0 b_18
          refine lok_skip ?_
          try simp only [thenL, blockL, ↓reduceIte, reduceCtorEq]
          exact ⟨(), H0, imp_au⟩
theorem ok_ratio_toFloor (floor : Int) (rest : Int) (den : Int) (r_ : Int) (H0 : ratio_toFloor floor rest den = some r_) : CallOK Try.prog 52 [.one (.p (pi floor)), .one (.p (pi rest)), .one (.p (pi den))] [] [.one (.p (pi r_))] [] := by
  refine callOK (n := 8) (rs := [.tmp 6]) (nb := 0) (V := []) Try.func52 rfl (by kernel_rfl) rfl rfl rfl rfl (Nat.le_of_ble_eq_true rfl) (by decide) ?_
  unfold ratio_toFloor at H0
  refine lok_rt E0 (⟨8, mkS [(0, .x (.one (.p (pi floor))))], mkH []⟩) ?_
  refine lok_rt E0 (⟨8, mkS [(6, .x (.one (.p (pi floor))))], mkH []⟩) ?_
  refine lok_ret ?_
  obtain rfl := Option.some.inj H0
  try simp only [thenL, blockL]
  exact fin_au _ (.inr rfl) [] (⟨8, mkS [(6, .x (.one (.p (pi floor))))], mkH []⟩) rfl rfl imp_au
theorem ok_ratio_rounded_ratio_toFloor (a : api_Ratio) (r_ : Int) (H0 : ratio_rounded_ratio_toFloor a = some r_) : CallOK Try.prog 51 [.agg [.p (pi a.Num), .p (pi a.Den)], .one (.fn 52 [])] [] [.one (.p (pi r_))] [] := by
  refine callOK (n := 34) (rs := [.tmp 4]) (nb := 0) (V := []) Try.func51 rfl (by kernel_rfl) rfl rfl rfl rfl (Nat.le_of_ble_eq_true rfl) (by decide) ?_
  unfold ratio_rounded_ratio_toFloor at H0
  refine lok_rt E0 (⟨34, mkS [(1, .x (.one (.fn 52 []))), (2, .x (.one (.ptr 102 0)))], mkH [(102, .var [.p (pi a.Num), .p (pi a.Den)])]⟩) ?_
  refine lok_seq ?_
  replace H0 := bind_some H0
  obtain ⟨y, h_0, H0⟩ := H0
  refine lok_rt (Env.of E0 [⟨some 8, 43, [.agg [.p (pi a.Num), .p (pi a.Den)]], [], [.one (.p (.val (.bool y)))], [], True, fun _ => ok_ratio_Valid a y h_0, []⟩]) (⟨34, mkS [(1, .x (.one (.fn 52 []))), (2, .x (.one (.ptr 102 0))), (9, .x (.one (.p (.val (.bool (!y))))))], mkH [(102, .var [.p (pi a.Num), .p (pi a.Den)])]⟩) ?_
  refine lok_c (!y) ?_ ?_
  · intro b_5
    replace H0 := cpos H0 b_5
    refine lok_rt E0 (⟨34, mkS [(4, .x (.one (.p (pi (0 : Int)))))], mkH []⟩) ?_
    refine lok_ret ?_
    obtain rfl := Option.some.inj H0
    try simp only [thenL, blockL]
    exact fin_au _ (.inr rfl) [] (⟨34, mkS [(4, .x (.one (.p (pi (0 : Int)))))], mkH []⟩) rfl rfl imp_au
  · intro b_5
    replace H0 := cneg H0 b_5
    refine lok_skip ?_
    try simp only [thenL, blockL, ↓reduceIte, reduceCtorEq]
    replace H0 := req_some H0
    obtain ⟨q_4, H0⟩ := H0
    refine lok_dt E0 11 (⟨34, mkS [(1, .x (.one (.fn 52 []))), (2, .x (.one (.ptr 102 0))), (5, .x (.one (.p (pi (IntKind.i64.wrap (Int.tdiv a.Num a.Den)))))), (6, .x (.one (.p (pi (Int.tmod a.Num a.Den)))))], mkH [(102, .var [.p (pi a.Num), .p (pi a.Den)])]⟩) (by kernel_rfl) (by kernel_rfl) ?_
    refine lok_join (fun x_ : Int × Int => ratio_rounded_ratio_toFloor_j1 a x_.1 x_.2 = some r_) (fun x_ => ⟨34, mkS [(1, .x (.one (.fn 52 []))), (2, .x (.one (.ptr 102 0))), (5, .x (.one (.p (pi x_.1)))), (6, .x (.one (.p (pi x_.2))))], mkH [(102, .var [.p (pi a.Num), .p (pi a.Den)])]⟩) ?hyratio_rounded_ratio_toFloor_j1 ?hxratio_rounded_ratio_toFloor_j1
    case hyratio_rounded_ratio_toFloor_j1 =>
      rintro ⟨floor, rest⟩ H0
      try dsimp only at H0 ⊢
      unfold ratio_rounded_ratio_toFloor_j1 at H0
      replace H0 := bind_some H0
      obtain ⟨y1, h_1, H0⟩ := H0
      refine lok_rt (Env.of E0 [⟨some 33, 52, [.one (.p (pi floor)), .one (.p (pi rest)), .one (.p (pi a.Den))], [], [.one (.p (pi y1))], [], True, fun _ => ok_ratio_toFloor floor rest a.Den y1 h_1, []⟩]) (⟨34, mkS [(4, .x (.one (.p (pi y1))))], mkH []⟩) ?_
      refine lok_ret ?_
      obtain rfl := Option.some.inj H0
      try simp only [thenL, blockL]
      exact fin_au _ (.inr rfl) [] (⟨34, mkS [(4, .x (.one (.p (pi y1))))], mkH []⟩) rfl rfl imp_au
    case hxratio_rounded_ratio_toFloor_j1 =>
      refine lok_rt E0 (⟨34, mkS [(1, .x (.one (.fn 52 []))), (2, .x (.one (.ptr 102 0))), (5, .x (.one (.p (pi (IntKind.i64.wrap (Int.tdiv a.Num a.Den)))))), (6, .x (.one (.p (pi (Int.tmod a.Num a.Den))))), (21, .x (.one (.p (.val (.bool (decide ((Int.tmod a.Num a.Den) < (0 : Int))))))))], mkH [(102, .var [.p (pi a.Num), .p (pi a.Den)])]⟩) ?_
      refine lok_c (decide ((Int.tmod a.Num a.Den) < (0 : Int))) ?_ ?_
      · intro b_3
        replace H0 := cpos H0 b_3
        replace H0 := bindV_some H0
        obtain ⟨floor1, a_2, H0⟩ := H0
        refine lok_dlg E0 7 a_2 (⟨34, mkS [(1, .x (.one (.fn 52 []))), (2, .x (.one (.ptr 102 0))), (5, .x (.one (.p (pi floor1)))), (6, .x (.one (.p (pi (IntKind.i64.wrap ((Int.tmod a.Num a.Den) + a.Den))))))], mkH [(102, .var [.p (pi a.Num), .p (pi a.Den)])]⟩) (by kernel_rfl) (by kernel_rfl) ?_
        try simp only [thenL, blockL, ↓reduceIte, reduceCtorEq]
        exact ⟨(floor1, (IntKind.i64.wrap ((Int.tmod a.Num a.Den) + a.Den))), H0, imp_au⟩
      · intro b_3
        replace H0 := cneg H0 b_3
        refine lok_skip ?_
        try simp only [thenL, blockL, ↓reduceIte, reduceCtorEq]
        exact ⟨((IntKind.i64.wrap (Int.tdiv a.Num a.Den)), (Int.tmod a.Num a.Den)), H0, imp_au⟩
theorem ok_ratio_Floor (a : api_Ratio) (r_ : Int) (H0 : ratio_Floor a = some r_) : CallOK Try.prog 25 [.agg [.p (pi a.Num), .p (pi a.Den)]] [] [.one (.p (pi r_))] [] := by
  refine callOK (n := 5) (rs := [.tmp 2]) (nb := 0) (V := []) Try.func25 rfl (by kernel_rfl) rfl rfl rfl rfl (Nat.le_of_ble_eq_true rfl) (by decide) ?_
  unfold ratio_Floor at H0
  refine lok_rt E0 (⟨5, mkS [(1, .x (.one (.ptr 101 0)))], mkH [(101, .var [.p (pi a.Num), .p (pi a.Den)])]⟩) ?_
  replace H0 := bind_some H0
  obtain ⟨y, h_0, H0⟩ := H0
  refine lok_rt (Env.of E0 [⟨some 4, 51, [.agg [.p (pi a.Num), .p (pi a.Den)], .one (.fn 52 [])], [], [.one (.p (pi y))], [], True, fun _ => ok_ratio_rounded_ratio_toFloor a y h_0, []⟩]) (⟨5, mkS [(2, .x (.one (.p (pi y))))], mkH []⟩) ?_
  refine lok_ret ?_
  obtain rfl := Option.some.inj H0
  try simp only [thenL, blockL]
  exact fin_au _ (.inr rfl) [] (⟨5, mkS [(2, .x (.one (.p (pi y))))], mkH []⟩) rfl rfl imp_au
theorem ok_ratio_Compare (a : api_Ratio) (b : api_Ratio) (r_ : Int) (H0 : ratio_Compare a b = some r_) : CallOK Try.prog 53 [.agg [.p (pi a.Num), .p (pi a.Den)], .agg [.p (pi b.Num), .p (pi b.Den)]] [] [.one (.p (pi r_))] [] := by
  refine callOK (n := 50) (rs := [.tmp 4]) (nb := 0) (V := []) Try.func53 rfl (by kernel_rfl) rfl rfl rfl rfl (Nat.le_of_ble_eq_true rfl) (by decide) ?_
  unfold ratio_Compare at H0
  refine lok_rt E0 (⟨50, mkS [(2, .x (.one (.ptr 102 0))), (3, .x (.one (.ptr 103 0)))], mkH [(102, .var [.p (pi a.Num), .p (pi a.Den)]), (103, .var [.p (pi b.Num), .p (pi b.Den)])]⟩) ?_
  refine lok_seq ?_
  replace H0 := bind_some H0
  obtain ⟨y, h_0, H0⟩ := H0
  replace H0 := req_some H0
  obtain ⟨q_9, H0⟩ := H0
  refine lok_rt (Env.of E0 [⟨some 8, 43, [.agg [.p (pi a.Num), .p (pi a.Den)]], [], [.one (.p (.val (.bool y)))], [], True, fun _ => ok_ratio_Valid a y h_0, []⟩,
      ⟨some 12, 43, [.agg [.p (pi b.Num), .p (pi b.Den)]], [], [.one (.p (.val (.bool ((ratio_Valid b).getD default))))], [], (ratio_Valid b).isSome = true, fun h => ok_ratio_Valid b _ (isSome_get h), []⟩]) (⟨50, mkS [(2, .x (.one (.ptr 102 0))), (3, .x (.one (.ptr 103 0))), (14, .x (.one (.p (.val (.bool ((!y) || (!((ratio_Valid b).getD default))))))))], mkH [(102, .var [.p (pi a.Num), .p (pi a.Den)]), (103, .var [.p (pi b.Num), .p (pi b.Den)])]⟩) ?_
  refine lok_c ((!y) || (!((ratio_Valid b).getD default))) ?_ ?_
  · intro b_8
    replace H0 := cpos H0 b_8
    refine lok_rt E0 (⟨50, mkS [(4, .x (.one (.p (pi (0 : Int)))))], mkH []⟩) ?_
    refine lok_ret ?_
    obtain rfl := Option.some.inj H0
    try simp only [thenL, blockL]
    exact fin_au _ (.inr rfl) [] (⟨50, mkS [(4, .x (.one (.p (pi (0 : Int)))))], mkH []⟩) rfl rfl imp_au
  · intro b_8
    replace H0 := cneg H0 b_8
    refine lok_skip ?_
    try simp only [thenL, blockL, ↓reduceIte, reduceCtorEq]
    replace H0 := bind_some H0
    obtain ⟨y1, h_1, H0⟩ := H0
    replace H0 := bind_some H0
    obtain ⟨y2, h_2, H0⟩ := H0
    refine lok_et (Env.of E0 [⟨some 20, 47, [.one (.p (pi a.Num)), .one (.p (.val (.int .u64 (IntKind.u64.wrap b.Den))))], [], [.agg [.p (.val (.bool y1.neg)), .p (.val (.int .u64 y1.abs.hi)), .p (.val (.int .u64 y1.abs.lo))]], [], True, fun _ => ok_ratio_signedProduct a.Num (IntKind.u64.wrap b.Den) y1 h_1, []⟩,
      ⟨some 26, 47, [.one (.p (pi b.Num)), .one (.p (.val (.int .u64 (IntKind.u64.wrap a.Den))))], [], [.agg [.p (.val (.bool y2.neg)), .p (.val (.int .u64 y2.abs.hi)), .p (.val (.int .u64 y2.abs.lo))]], [], True, fun _ => ok_ratio_signedProduct b.Num (IntKind.u64.wrap a.Den) y2 h_2, []⟩]) 50 [⟨[(2, .x (.one (.ptr 102 0)))], [], [(15, .x (.one (.ptr 102 0)))], [], none⟩,
      ⟨[(15, .x (.one (.ptr 102 0)))], [(102, some (.var [.p (pi a.Num), .p (pi a.Den)]))], [(16, .x (.one (.p (pi a.Num))))], [], none⟩,
      ⟨[(3, .x (.one (.ptr 103 0)))], [], [(17, .x (.one (.ptr 103 1)))], [], none⟩,
      ⟨[(17, .x (.one (.ptr 103 1)))], [(103, some (.var [.p (pi b.Num), .p (pi b.Den)]))], [(18, .x (.one (.p (pi b.Den))))], [], none⟩,
      ⟨[(18, .x (.one (.p (pi b.Den))))], [], [(19, .x (.one (.p (.val (.int .u64 (IntKind.u64.wrap b.Den))))))], [], none⟩,
      ⟨[(16, .x (.one (.p (pi a.Num)))), (19, .x (.one (.p (.val (.int .u64 (IntKind.u64.wrap b.Den))))))], [], [(20, .x (.agg [.p (.val (.bool y1.neg)), .p (.val (.int .u64 y1.abs.hi)), .p (.val (.int .u64 y1.abs.lo))]))], [], none⟩,
      ⟨[(3, .x (.one (.ptr 103 0)))], [], [(21, .x (.one (.ptr 103 0)))], [], none⟩,
      ⟨[(21, .x (.one (.ptr 103 0)))], [(103, some (.var [.p (pi b.Num), .p (pi b.Den)]))], [(22, .x (.one (.p (pi b.Num))))], [], none⟩,
      ⟨[(2, .x (.one (.ptr 102 0)))], [], [(23, .x (.one (.ptr 102 1)))], [], none⟩,
      ⟨[(23, .x (.one (.ptr 102 1)))], [(102, some (.var [.p (pi a.Num), .p (pi a.Den)]))], [(24, .x (.one (.p (pi a.Den))))], [], none⟩,
      ⟨[(24, .x (.one (.p (pi a.Den))))], [], [(25, .x (.one (.p (.val (.int .u64 (IntKind.u64.wrap a.Den))))))], [], none⟩,
      ⟨[(22, .x (.one (.p (pi b.Num)))), (25, .x (.one (.p (.val (.int .u64 (IntKind.u64.wrap a.Den))))))], [], [(26, .x (.agg [.p (.val (.bool y2.neg)), .p (.val (.int .u64 y2.abs.hi)), .p (.val (.int .u64 y2.abs.lo))]))], [], none⟩,
      ⟨[], [(105, none)], [(5, .x (.one (.ptr 105 0)))], [(105, some (.var [.p (.val (.bool false)), .p (.val (.int .u64 (0 : Int))), .p (.val (.int .u64 (0 : Int)))]))], some 105⟩,
      ⟨[], [(106, none)], [(6, .x (.one (.ptr 106 0)))], [(106, some (.var [.p (.val (.bool false)), .p (.val (.int .u64 (0 : Int))), .p (.val (.int .u64 (0 : Int)))]))], some 106⟩] (⟨50, mkS [(5, .x (.one (.ptr 105 0))), (6, .x (.one (.ptr 106 0)))], mkH [(105, .var [.p (.val (.bool y1.neg)), .p (.val (.int .u64 y1.abs.hi)), .p (.val (.int .u64 y1.abs.lo))]), (106, .var [.p (.val (.bool y2.neg)), .p (.val (.int .u64 y2.abs.hi)), .p (.val (.int .u64 y2.abs.lo))])]⟩) (by kernel_rfl) (by kernel_rfl) (by kernel_rfl) rfl rfl rfl ?_
    refine lok_seq ?_
    refine lok_block ?_
    refine lok_rt E0 (⟨50, mkS [(5, .x (.one (.ptr 105 0))), (6, .x (.one (.ptr 106 0))), (27, .x (.one (.p (.val (.bool (y1.neg && y2.neg))))))], mkH [(105, .var [.p (.val (.bool y1.neg)), .p (.val (.int .u64 y1.abs.hi)), .p (.val (.int .u64 y1.abs.lo))]), (106, .var [.p (.val (.bool y2.neg)), .p (.val (.int .u64 y2.abs.hi)), .p (.val (.int .u64 y2.abs.lo))])]⟩) ?_
    refine lok_c (y1.neg && y2.neg) ?_ ?_
    · intro b_7
      replace H0 := cpos H0 b_7
      replace H0 := bind_some H0
      obtain ⟨y3, h_3, H0⟩ := H0
      refine lok_rt (Env.of E0 [⟨some 38, 64, [.agg [.p (.val (.int .u64 y2.abs.hi)), .p (.val (.int .u64 y2.abs.lo))], .agg [.p (.val (.int .u64 y1.abs.hi)), .p (.val (.int .u64 y1.abs.lo))]], [], [.one (.p (pi y3))], [], True, fun _ => ok_ratio_wide_compare y2.abs y1.abs y3 h_3, []⟩]) (⟨50, mkS [(4, .x (.one (.p (pi y3))))], mkH []⟩) ?_
      refine lok_ret ?_
      obtain rfl := Option.some.inj H0
      try simp only [thenL, blockL]
      exact fin_au _ (.inr rfl) [] (⟨50, mkS [(4, .x (.one (.p (pi y3))))], mkH []⟩) rfl rfl imp_au
    · intro b_7
      replace H0 := cneg H0 b_7
      refine lok_rt E0 (⟨50, mkS [(5, .x (.one (.ptr 105 0))), (6, .x (.one (.ptr 106 0))), (39, .x (.one (.p (.val (.bool y1.neg)))))], mkH [(105, .var [.p (.val (.bool y1.neg)), .p (.val (.int .u64 y1.abs.hi)), .p (.val (.int .u64 y1.abs.lo))]), (106, .var [.p (.val (.bool y2.neg)), .p (.val (.int .u64 y2.abs.hi)), .p (.val (.int .u64 y2.abs.lo))])]⟩) ?_
      refine lok_c y1.neg ?_ ?_
      · intro b_6
        replace H0 := cpos H0 b_6
        refine lok_rt E0 (⟨50, mkS [(4, .x (.one (.p (pi (-1 : Int)))))], mkH []⟩) ?_
        refine lok_ret ?_
        obtain rfl := Option.some.inj H0
        try simp only [thenL, blockL]
        exact fin_au _ (.inr rfl) [] (⟨50, mkS [(4, .x (.one (.p (pi (-1 : Int)))))], mkH []⟩) rfl rfl imp_au
      · intro b_6
        replace H0 := cneg H0 b_6
        refine lok_rt E0 (⟨50, mkS [(5, .x (.one (.ptr 105 0))), (6, .x (.one (.ptr 106 0))), (42, .x (.one (.p (.val (.bool y2.neg)))))], mkH [(105, .var [.p (.val (.bool y1.neg)), .p (.val (.int .u64 y1.abs.hi)), .p (.val (.int .u64 y1.abs.lo))]), (106, .var [.p (.val (.bool y2.neg)), .p (.val (.int .u64 y2.abs.hi)), .p (.val (.int .u64 y2.abs.lo))])]⟩) ?_
        refine lok_c y2.neg ?_ ?_
        · intro b_5
          replace H0 := cpos H0 b_5
          refine lok_rt E0 (⟨50, mkS [(4, .x (.one (.p (pi (1 : Int)))))], mkH []⟩) ?_
          refine lok_ret ?_
          obtain rfl := Option.some.inj H0
          try simp only [thenL, blockL]
          exact fin_au _ (.inr rfl) [] (⟨50, mkS [(4, .x (.one (.p (pi (1 : Int)))))], mkH []⟩) rfl rfl imp_au
        · intro b_5
          replace H0 := cneg H0 b_5
          refine lok_skip ?_
          try simp only [thenL, blockL, ↓reduceIte, reduceCtorEq]
          replace H0 := bind_some H0
          obtain ⟨y4, h_4, H0⟩ := H0
          refine lok_rt (Env.of E0 [⟨some 49, 64, [.agg [.p (.val (.int .u64 y1.abs.hi)), .p (.val (.int .u64 y1.abs.lo))], .agg [.p (.val (.int .u64 y2.abs.hi)), .p (.val (.int .u64 y2.abs.lo))]], [], [.one (.p (pi y4))], [], True, fun _ => ok_ratio_wide_compare y1.abs y2.abs y4 h_4, []⟩]) (⟨50, mkS [(4, .x (.one (.p (pi y4))))], mkH []⟩) ?_
          refine lok_ret ?_
          obtain rfl := Option.some.inj H0
          try simp only [thenL, blockL]
          exact fin_au _ (.inr rfl) [] (⟨50, mkS [(4, .x (.one (.p (pi y4))))], mkH []⟩) rfl rfl imp_au
theorem ok_ratio_Less (a : api_Ratio) (b : api_Ratio) (r_ : Bool) (H0 : ratio_Less a b = some r_) : CallOK Try.prog 26 [.agg [.p (pi a.Num), .p (pi a.Den)], .agg [.p (pi b.Num), .p (pi b.Den)]] [] [.one (.p (.val (.bool r_)))] [] := by
  refine callOK (n := 9) (rs := [.tmp 4]) (nb := 0) (V := []) Try.func26 rfl (by kernel_rfl) rfl rfl rfl rfl (Nat.le_of_ble_eq_true rfl) (by decide) ?_
  unfold ratio_Less at H0
  refine lok_rt E0 (⟨9, mkS [(2, .x (.one (.ptr 102 0))), (3, .x (.one (.ptr 103 0)))], mkH [(102, .var [.p (pi a.Num), .p (pi a.Den)]), (103, .var [.p (pi b.Num), .p (pi b.Den)])]⟩) ?_
  replace H0 := bind_some H0
  obtain ⟨y, h_0, H0⟩ := H0
  refine lok_rt (Env.of E0 [⟨some 7, 53, [.agg [.p (pi a.Num), .p (pi a.Den)], .agg [.p (pi b.Num), .p (pi b.Den)]], [], [.one (.p (pi y))], [], True, fun _ => ok_ratio_Compare a b y h_0, []⟩]) (⟨9, mkS [(4, .x (.one (.p (.val (.bool (y == (-1 : Int)))))))], mkH []⟩) ?_
  refine lok_ret ?_
  obtain rfl := Option.some.inj H0
  try simp only [thenL, blockL]
  exact fin_au _ (.inr rfl) [] (⟨9, mkS [(4, .x (.one (.p (.val (.bool (y == (-1 : Int)))))))], mkH []⟩) rfl rfl imp_au
theorem ok_ratio_toCeil (floor : Int) (rest : Int) (den : Int) (r_ : Int) (H0 : ratio_toCeil floor rest den = some r_) : CallOK Try.prog 54 [.one (.p (pi floor)), .one (.p (pi rest)), .one (.p (pi den))] [] [.one (.p (pi r_))] [] := by
  refine callOK (n := 12) (rs := [.tmp 6]) (nb := 0) (V := []) Try.func54 rfl (by kernel_rfl) rfl rfl rfl rfl (Nat.le_of_ble_eq_true rfl) (by decide) ?_
  unfold ratio_toCeil at H0
  refine lok_rt E0 (⟨12, mkS [(0, .x (.one (.p (pi floor)))), (1, .x (.one (.p (pi rest))))], mkH []⟩) ?_
  refine lok_seq ?_
  refine lok_rt E0 (⟨12, mkS [(0, .x (.one (.p (pi floor)))), (8, .x (.one (.p (.val (.bool (decide ((0 : Int) < rest)))))))], mkH []⟩) ?_
  refine lok_c (decide ((0 : Int) < rest)) ?_ ?_
  · intro b_0
    replace H0 := cpos H0 b_0
    refine lok_rt E0 (⟨12, mkS [(6, .x (.one (.p (pi (IntKind.i64.wrap (floor + (1 : Int)))))))], mkH []⟩) ?_
    refine lok_ret ?_
    obtain rfl := Option.some.inj H0
    try simp only [thenL, blockL]
    exact fin_au _ (.inr rfl) [] (⟨12, mkS [(6, .x (.one (.p (pi (IntKind.i64.wrap (floor + (1 : Int)))))))], mkH []⟩) rfl rfl imp_au
  · intro b_0
    replace H0 := cneg H0 b_0
    refine lok_skip ?_
    try simp only [thenL, blockL, ↓reduceIte, reduceCtorEq]
    refine lok_rt E0 (⟨12, mkS [(6, .x (.one (.p (pi floor))))], mkH []⟩) ?_
    refine lok_ret ?_
    obtain rfl := Option.some.inj H0
    try simp only [thenL, blockL]
    exact fin_au _ (.inr rfl) [] (⟨12, mkS [(6, .x (.one (.p (pi floor))))], mkH []⟩) rfl rfl imp_au
theorem ok_ratio_rounded_ratio_toCeil (a : api_Ratio) (r_ : Int) (H0 : ratio_rounded_ratio_toCeil a = some r_) : CallOK Try.prog 51 [.agg [.p (pi a.Num), .p (pi a.Den)], .one (.fn 54 [])] [] [.one (.p (pi r_))] [] := by
  refine callOK (n := 34) (rs := [.tmp 4]) (nb := 0) (V := []) Try.func51 rfl (by kernel_rfl) rfl rfl rfl rfl (Nat.le_of_ble_eq_true rfl) (by decide) ?_
  unfold ratio_rounded_ratio_toCeil at H0
  refine lok_rt E0 (⟨34, mkS [(1, .x (.one (.fn 54 []))), (2, .x (.one (.ptr 102 0)))], mkH [(102, .var [.p (pi a.Num), .p (pi a.Den)])]⟩) ?_
  refine lok_seq ?_
  replace H0 := bind_some H0
  obtain ⟨y, h_0, H0⟩ := H0
  refine lok_rt (Env.of E0 [⟨some 8, 43, [.agg [.p (pi a.Num), .p (pi a.Den)]], [], [.one (.p (.val (.bool y)))], [], True, fun _ => ok_ratio_Valid a y h_0, []⟩]) (⟨34, mkS [(1, .x (.one (.fn 54 []))), (2, .x (.one (.ptr 102 0))), (9, .x (.one (.p (.val (.bool (!y))))))], mkH [(102, .var [.p (pi a.Num), .p (pi a.Den)])]⟩) ?_
  refine lok_c (!y) ?_ ?_
  · intro b_5
    replace H0 := cpos H0 b_5
    refine lok_rt E0 (⟨34, mkS [(4, .x (.one (.p (pi (0 : Int)))))], mkH []⟩) ?_
    refine lok_ret ?_
    obtain rfl := Option.some.inj H0
    try simp only [thenL, blockL]
    exact fin_au _ (.inr rfl) [] (⟨34, mkS [(4, .x (.one (.p (pi (0 : Int)))))], mkH []⟩) rfl rfl imp_au
  · intro b_5
    replace H0 := cneg H0 b_5
    refine lok_skip ?_
    try simp only [thenL, blockL, ↓reduceIte, reduceCtorEq]
    replace H0 := req_some H0
    obtain ⟨q_4, H0⟩ := H0
    refine lok_dt E0 11 (⟨34, mkS [(1, .x (.one (.fn 54 []))), (2, .x (.one (.ptr 102 0))), (5, .x (.one (.p (pi (IntKind.i64.wrap (Int.tdiv a.Num a.Den)))))), (6, .x (.one (.p (pi (Int.tmod a.Num a.Den)))))], mkH [(102, .var [.p (pi a.Num), .p (pi a.Den)])]⟩) (by kernel_rfl) (by kernel_rfl) ?_
    refine lok_join (fun x_ : Int × Int => ratio_rounded_ratio_toCeil_j1 a x_.1 x_.2 = some r_) (fun x_ => ⟨34, mkS [(1, .x (.one (.fn 54 []))), (2, .x (.one (.ptr 102 0))), (5, .x (.one (.p (pi x_.1)))), (6, .x (.one (.p (pi x_.2))))], mkH [(102, .var [.p (pi a.Num), .p (pi a.Den)])]⟩) ?hyratio_rounded_ratio_toCeil_j1 ?hxratio_rounded_ratio_toCeil_j1
    case hyratio_rounded_ratio_toCeil_j1 =>
      rintro ⟨floor, rest⟩ H0
      try dsimp only at H0 ⊢
      unfold ratio_rounded_ratio_toCeil_j1 at H0
      replace H0 := bind_some H0
      obtain ⟨y1, h_1, H0⟩ := H0
      refine lok_rt (Env.of E0 [⟨some 33, 54, [.one (.p (pi floor)), .one (.p (pi rest)), .one (.p (pi a.Den))], [], [.one (.p (pi y1))], [], True, fun _ => ok_ratio_toCeil floor rest a.Den y1 h_1, []⟩]) (⟨34, mkS [(4, .x (.one (.p (pi y1))))], mkH []⟩) ?_
      refine lok_ret ?_
      obtain rfl := Option.some.inj H0
      try simp only [thenL, blockL]
      exact fin_au _ (.inr rfl) [] (⟨34, mkS [(4, .x (.one (.p (pi y1))))], mkH []⟩) rfl rfl imp_au
    case hxratio_rounded_ratio_toCeil_j1 =>
      refine lok_rt E0 (⟨34, mkS [(1, .x (.one (.fn 54 []))), (2, .x (.one (.ptr 102 0))), (5, .x (.one (.p (pi (IntKind.i64.wrap (Int.tdiv a.Num a.Den)))))), (6, .x (.one (.p (pi (Int.tmod a.Num a.Den))))), (21, .x (.one (.p (.val (.bool (decide ((Int.tmod a.Num a.Den) < (0 : Int))))))))], mkH [(102, .var [.p (pi a.Num), .p (pi a.Den)])]⟩) ?_
      refine lok_c (decide ((Int.tmod a.Num a.Den) < (0 : Int))) ?_ ?_
      · intro b_3
        replace H0 := cpos H0 b_3
        replace H0 := bindV_some H0
        obtain ⟨floor1, a_2, H0⟩ := H0
        refine lok_dlg E0 7 a_2 (⟨34, mkS [(1, .x (.one (.fn 54 []))), (2, .x (.one (.ptr 102 0))), (5, .x (.one (.p (pi floor1)))), (6, .x (.one (.p (pi (IntKind.i64.wrap ((Int.tmod a.Num a.Den) + a.Den))))))], mkH [(102, .var [.p (pi a.Num), .p (pi a.Den)])]⟩) (by kernel_rfl) (by kernel_rfl) ?_
        try simp only [thenL, blockL, ↓reduceIte, reduceCtorEq]
        exact ⟨(floor1, (IntKind.i64.wrap ((Int.tmod a.Num a.Den) + a.Den))), H0, imp_au⟩
      · intro b_3
        replace H0 := cneg H0 b_3
        refine lok_skip ?_
        try simp only [thenL, blockL, ↓reduceIte, reduceCtorEq]
        exact ⟨((IntKind.i64.wrap (Int.tdiv a.Num a.Den)), (Int.tmod a.Num a.Den)), H0, imp_au⟩
theorem ok_ratio_Ceil (a : api_Ratio) (r_ : Int) (H0 : ratio_Ceil a = some r_) : CallOK Try.prog 27 [.agg [.p (pi a.Num), .p (pi a.Den)]] [] [.one (.p (pi r_))] [] := by
  refine callOK (n := 5) (rs := [.tmp 2]) (nb := 0) (V := []) Try.func27 rfl (by kernel_rfl) rfl rfl rfl rfl (Nat.le_of_ble_eq_true rfl) (by decide) ?_
  unfold ratio_Ceil at H0
  refine lok_rt E0 (⟨5, mkS [(1, .x (.one (.ptr 101 0)))], mkH [(101, .var [.p (pi a.Num), .p (pi a.Den)])]⟩) ?_
  replace H0 := bind_some H0
  obtain ⟨y, h_0, H0⟩ := H0
  refine lok_rt (Env.of E0 [⟨some 4, 51, [.agg [.p (pi a.Num), .p (pi a.Den)], .one (.fn 54 [])], [], [.one (.p (pi y))], [], True, fun _ => ok_ratio_rounded_ratio_toCeil a y h_0, []⟩]) (⟨5, mkS [(2, .x (.one (.p (pi y))))], mkH []⟩) ?_
  refine lok_ret ?_
  obtain rfl := Option.some.inj H0
  try simp only [thenL, blockL]
  exact fin_au _ (.inr rfl) [] (⟨5, mkS [(2, .x (.one (.p (pi y))))], mkH []⟩) rfl rfl imp_au
theorem ok_ratio_toRound (floor : Int) (rest : Int) (den : Int) (r_ : Int) (H0 : ratio_toRound floor rest den = some r_) : CallOK Try.prog 55 [.one (.p (pi floor)), .one (.p (pi rest)), .one (.p (pi den))] [] [.one (.p (pi r_))] [] := by
  refine callOK (n := 15) (rs := [.tmp 6]) (nb := 0) (V := []) Try.func55 rfl (by kernel_rfl) rfl rfl rfl rfl (Nat.le_of_ble_eq_true rfl) (by decide) ?_
  unfold ratio_toRound at H0
  refine lok_rt E0 (⟨15, mkS [(0, .x (.one (.p (pi floor)))), (1, .x (.one (.p (pi rest)))), (2, .x (.one (.p (pi den))))], mkH []⟩) ?_
  refine lok_seq ?_
  refine lok_rt E0 (⟨15, mkS [(0, .x (.one (.p (pi floor)))), (11, .x (.one (.p (.val (.bool (decide ((IntKind.i64.wrap (den - rest)) ≤ rest)))))))], mkH []⟩) ?_
  refine lok_c (decide ((IntKind.i64.wrap (den - rest)) ≤ rest)) ?_ ?_
  · intro b_0
    replace H0 := cpos H0 b_0
    refine lok_rt E0 (⟨15, mkS [(6, .x (.one (.p (pi (IntKind.i64.wrap (floor + (1 : Int)))))))], mkH []⟩) ?_
    refine lok_ret ?_
    obtain rfl := Option.some.inj H0
    try simp only [thenL, blockL]
    exact fin_au _ (.inr rfl) [] (⟨15, mkS [(6, .x (.one (.p (pi (IntKind.i64.wrap (floor + (1 : Int)))))))], mkH []⟩) rfl rfl imp_au
  · intro b_0
    replace H0 := cneg H0 b_0
    refine lok_skip ?_
    try simp only [thenL, blockL, ↓reduceIte, reduceCtorEq]
    refine lok_rt E0 (⟨15, mkS [(6, .x (.one (.p (pi floor))))], mkH []⟩) ?_
    refine lok_ret ?_
    obtain rfl := Option.some.inj H0
    try simp only [thenL, blockL]
    exact fin_au _ (.inr rfl) [] (⟨15, mkS [(6, .x (.one (.p (pi floor))))], mkH []⟩) rfl rfl imp_au
theorem ok_ratio_rounded_ratio_toRound (a : api_Ratio) (r_ : Int) (H0 : ratio_rounded_ratio_toRound a = some r_) : CallOK Try.prog 51 [.agg [.p (pi a.Num), .p (pi a.Den)], .one (.fn 55 [])] [] [.one (.p (pi r_))] [] := by
  refine callOK (n := 34) (rs := [.tmp 4]) (nb := 0) (V := []) Try.func51 rfl (by kernel_rfl) rfl rfl rfl rfl (Nat.le_of_ble_eq_true rfl) (by decide) ?_
  unfold ratio_rounded_ratio_toRound at H0
  refine lok_rt E0 (⟨34, mkS [(1, .x (.one (.fn 55 []))), (2, .x (.one (.ptr 102 0)))], mkH [(102, .var [.p (pi a.Num), .p (pi a.Den)])]⟩) ?_
  refine lok_seq ?_
  replace H0 := bind_some H0
  obtain ⟨y, h_0, H0⟩ := H0
  refine lok_rt (Env.of E0 [⟨some 8, 43, [.agg [.p (pi a.Num), .p (pi a.Den)]], [], [.one (.p (.val (.bool y)))], [], True, fun _ => ok_ratio_Valid a y h_0, []⟩]) (⟨34, mkS [(1, .x (.one (.fn 55 []))), (2, .x (.one (.ptr 102 0))), (9, .x (.one (.p (.val (.bool (!y))))))], mkH [(102, .var [.p (pi a.Num), .p (pi a.Den)])]⟩) ?_
  refine lok_c (!y) ?_ ?_
  · intro b_5
    replace H0 := cpos H0 b_5
    refine lok_rt E0 (⟨34, mkS [(4, .x (.one (.p (pi (0 : Int)))))], mkH []⟩) ?_
    refine lok_ret ?_
    obtain rfl := Option.some.inj H0
    try simp only [thenL, blockL]
    exact fin_au _ (.inr rfl) [] (⟨34, mkS [(4, .x (.one (.p (pi (0 : Int)))))], mkH []⟩) rfl rfl imp_au
  · intro b_5
    replace H0 := cneg H0 b_5
    refine lok_skip ?_
    try simp only [thenL, blockL, ↓reduceIte, reduceCtorEq]
    replace H0 := req_some H0
    obtain ⟨q_4, H0⟩ := H0
    refine lok_dt E0 11 (⟨34, mkS [(1, .x (.one (.fn 55 []))), (2, .x (.one (.ptr 102 0))), (5, .x (.one (.p (pi (IntKind.i64.wrap (Int.tdiv a.Num a.Den)))))), (6, .x (.one (.p (pi (Int.tmod a.Num a.Den)))))], mkH [(102, .var [.p (pi a.Num), .p (pi a.Den)])]⟩) (by kernel_rfl) (by kernel_rfl) ?_
    refine lok_join (fun x_ : Int × Int => ratio_rounded_ratio_toRound_j1 a x_.1 x_.2 = some r_) (fun x_ => ⟨34, mkS [(1, .x (.one (.fn 55 []))), (2, .x (.one (.ptr 102 0))), (5, .x (.one (.p (pi x_.1)))), (6, .x (.one (.p (pi x_.2))))], mkH [(102, .var [.p (pi a.Num), .p (pi a.Den)])]⟩) ?hyratio_rounded_ratio_toRound_j1 ?hxratio_rounded_ratio_toRound_j1
    case hyratio_rounded_ratio_toRound_j1 =>
      rintro ⟨floor, rest⟩ H0
      try dsimp only at H0 ⊢
      unfold ratio_rounded_ratio_toRound_j1 at H0
      replace H0 := bind_some H0
      obtain ⟨y1, h_1, H0⟩ := H0
      refine lok_rt (Env.of E0 [⟨some 33, 55, [.one (.p (pi floor)), .one (.p (pi rest)), .one (.p (pi a.Den))], [], [.one (.p (pi y1))], [], True, fun _ => ok_ratio_toRound floor rest a.Den y1 h_1, []⟩]) (⟨34, mkS [(4, .x (.one (.p (pi y1))))], mkH []⟩) ?_
      refine lok_ret ?_
      obtain rfl := Option.some.inj H0
      try simp only [thenL, blockL]
      exact fin_au _ (.inr rfl) [] (⟨34, mkS [(4, .x (.one (.p (pi y1))))], mkH []⟩) rfl rfl imp_au
    case hxratio_rounded_ratio_toRound_j1 =>
      refine lok_rt E0 (⟨34, mkS [(1, .x (.one (.fn 55 []))), (2, .x (.one (.ptr 102 0))), (5, .x (.one (.p (pi (IntKind.i64.wrap (Int.tdiv a.Num a.Den)))))), (6, .x (.one (.p (pi (Int.tmod a.Num a.Den))))), (21, .x (.one (.p (.val (.bool (decide ((Int.tmod a.Num a.Den) < (0 : Int))))))))], mkH [(102, .var [.p (pi a.Num), .p (pi a.Den)])]⟩) ?_
      refine lok_c (decide ((Int.tmod a.Num a.Den) < (0 : Int))) ?_ ?_
      · intro b_3
        replace H0 := cpos H0 b_3
        replace H0 := bindV_some H0
        obtain ⟨floor1, a_2, H0⟩ := H0
        refine lok_dlg E0 7 a_2 (⟨34, mkS [(1, .x (.one (.fn 55 []))), (2, .x (.one (.ptr 102 0))), (5, .x (.one (.p (pi floor1)))), (6, .x (.one (.p (pi (IntKind.i64.wrap ((Int.tmod a.Num a.Den) + a.Den))))))], mkH [(102, .var [.p (pi a.Num), .p (pi a.Den)])]⟩) (by kernel_rfl) (by kernel_rfl) ?_
        try simp only [thenL, blockL, ↓reduceIte, reduceCtorEq]
        exact ⟨(floor1, (IntKind.i64.wrap ((Int.tmod a.Num a.Den) + a.Den))), H0, imp_au⟩
      · intro b_3
        replace H0 := cneg H0 b_3
        refine lok_skip ?_
        try simp only [thenL, blockL, ↓reduceIte, reduceCtorEq]
        exact ⟨((IntKind.i64.wrap (Int.tdiv a.Num a.Den)), (Int.tmod a.Num a.Den)), H0, imp_au⟩
theorem ok_ratio_Round (a : api_Ratio) (r_ : Int) (H0 : ratio_Round a = some r_) : CallOK Try.prog 28 [.agg [.p (pi a.Num), .p (pi a.Den)]] [] [.one (.p (pi r_))] [] := by
  refine callOK (n := 5) (rs := [.tmp 2]) (nb := 0) (V := []) Try.func28 rfl (by kernel_rfl) rfl rfl rfl rfl (Nat.le_of_ble_eq_true rfl) (by decide) ?_
  unfold ratio_Round at H0
  refine lok_rt E0 (⟨5, mkS [(1, .x (.one (.ptr 101 0)))], mkH [(101, .var [.p (pi a.Num), .p (pi a.Den)])]⟩) ?_
  replace H0 := bind_some H0
  obtain ⟨y, h_0, H0⟩ := H0
  refine lok_rt (Env.of E0 [⟨some 4, 51, [.agg [.p (pi a.Num), .p (pi a.Den)], .one (.fn 55 [])], [], [.one (.p (pi y))], [], True, fun _ => ok_ratio_rounded_ratio_toRound a y h_0, []⟩]) (⟨5, mkS [(2, .x (.one (.p (pi y))))], mkH []⟩) ?_
  refine lok_ret ?_
  obtain rfl := Option.some.inj H0
  try simp only [thenL, blockL]
  exact fin_au _ (.inr rfl) [] (⟨5, mkS [(2, .x (.one (.p (pi y))))], mkH []⟩) rfl rfl imp_au
theorem ok_ratio_toEven (floor : Int) (rest : Int) (den : Int) (r_ : Int) (H0 : ratio_toEven floor rest den = some r_) : CallOK Try.prog 56 [.one (.p (pi floor)), .one (.p (pi rest)), .one (.p (pi den))] [] [.one (.p (pi r_))] [] := by
  refine callOK (n := 27) (rs := [.tmp 6]) (nb := 0) (V := []) Try.func56 rfl (by kernel_rfl) rfl rfl rfl rfl (Nat.le_of_ble_eq_true rfl) (by decide) ?_
  unfold ratio_toEven at H0
  refine lok_rt E0 (⟨27, mkS [(0, .x (.one (.p (pi floor)))), (1, .x (.one (.p (pi rest)))), (2, .x (.one (.p (pi den))))], mkH []⟩) ?_
  refine lok_seq ?_
  refine lok_rt E0 (⟨27, mkS [(0, .x (.one (.p (pi floor)))), (23, .x (.one (.p (.val (.bool ((decide ((IntKind.i64.wrap (den - rest)) < rest)) || ((rest == (IntKind.i64.wrap (den - rest))) && ((Int.tmod floor (2 : Int)) != (0 : Int)))))))))], mkH []⟩) ?_
  refine lok_c ((decide ((IntKind.i64.wrap (den - rest)) < rest)) || ((rest == (IntKind.i64.wrap (den - rest))) && ((Int.tmod floor (2 : Int)) != (0 : Int)))) ?_ ?_
  · intro b_0
    replace H0 := cpos H0 b_0
    refine lok_rt E0 (⟨27, mkS [(6, .x (.one (.p (pi (IntKind.i64.wrap (floor + (1 : Int)))))))], mkH []⟩) ?_
    refine lok_ret ?_
    obtain rfl := Option.some.inj H0
    try simp only [thenL, blockL]
    exact fin_au _ (.inr rfl) [] (⟨27, mkS [(6, .x (.one (.p (pi (IntKind.i64.wrap (floor + (1 : Int)))))))], mkH []⟩) rfl rfl imp_au
  · intro b_0
    replace H0 := cneg H0 b_0
    refine lok_skip ?_
    try simp only [thenL, blockL, ↓reduceIte, reduceCtorEq]
    refine lok_rt E0 (⟨27, mkS [(6, .x (.one (.p (pi floor))))], mkH []⟩) ?_
    refine lok_ret ?_
    obtain rfl := Option.some.inj H0
    try simp only [thenL, blockL]
    exact fin_au _ (.inr rfl) [] (⟨27, mkS [(6, .x (.one (.p (pi floor))))], mkH []⟩) rfl rfl imp_au
theorem ok_ratio_rounded_ratio_toEven (a : api_Ratio) (r_ : Int) (H0 : ratio_rounded_ratio_toEven a = some r_) : CallOK Try.prog 51 [.agg [.p (pi a.Num), .p (pi a.Den)], .one (.fn 56 [])] [] [.one (.p (pi r_))] [] := by
  refine callOK (n := 34) (rs := [.tmp 4]) (nb := 0) (V := []) Try.func51 rfl (by kernel_rfl) rfl rfl rfl rfl (Nat.le_of_ble_eq_true rfl) (by decide) ?_
  unfold ratio_rounded_ratio_toEven at H0
  refine lok_rt E0 (⟨34, mkS [(1, .x (.one (.fn 56 []))), (2, .x (.one (.ptr 102 0)))], mkH [(102, .var [.p (pi a.Num), .p (pi a.Den)])]⟩) ?_
  refine lok_seq ?_
  replace H0 := bind_some H0
  obtain ⟨y, h_0, H0⟩ := H0
  refine lok_rt (Env.of E0 [⟨some 8, 43, [.agg [.p (pi a.Num), .p (pi a.Den)]], [], [.one (.p (.val (.bool y)))], [], True, fun _ => ok_ratio_Valid a y h_0, []⟩]) (⟨34, mkS [(1, .x (.one (.fn 56 []))), (2, .x (.one (.ptr 102 0))), (9, .x (.one (.p (.val (.bool (!y))))))], mkH [(102, .var [.p (pi a.Num), .p (pi a.Den)])]⟩) ?_
  refine lok_c (!y) ?_ ?_
  · intro b_5
    replace H0 := cpos H0 b_5
    refine lok_rt E0 (⟨34, mkS [(4, .x (.one (.p (pi (0 : Int)))))], mkH []⟩) ?_
    refine lok_ret ?_
    obtain rfl := Option.some.inj H0
    try simp only [thenL, blockL]
    exact fin_au _ (.inr rfl) [] (⟨34, mkS [(4, .x (.one (.p (pi (0 : Int)))))], mkH []⟩) rfl rfl imp_au
  · intro b_5
    replace H0 := cneg H0 b_5
    refine lok_skip ?_
    try simp only [thenL, blockL, ↓reduceIte, reduceCtorEq]
    replace H0 := req_some H0
    obtain ⟨q_4, H0⟩ := H0
    refine lok_dt E0 11 (⟨34, mkS [(1, .x (.one (.fn 56 []))), (2, .x (.one (.ptr 102 0))), (5, .x (.one (.p (pi (IntKind.i64.wrap (Int.tdiv a.Num a.Den)))))), (6, .x (.one (.p (pi (Int.tmod a.Num a.Den)))))], mkH [(102, .var [.p (pi a.Num), .p (pi a.Den)])]⟩) (by kernel_rfl) (by kernel_rfl) ?_
    refine lok_join (fun x_ : Int × Int => ratio_rounded_ratio_toEven_j1 a x_.1 x_.2 = some r_) (fun x_ => ⟨34, mkS [(1, .x (.one (.fn 56 []))), (2, .x (.one (.ptr 102 0))), (5, .x (.one (.p (pi x_.1)))), (6, .x (.one (.p (pi x_.2))))], mkH [(102, .var [.p (pi a.Num), .p (pi a.Den)])]⟩) ?hyratio_rounded_ratio_toEven_j1 ?hxratio_rounded_ratio_toEven_j1
    case hyratio_rounded_ratio_toEven_j1 =>
      rintro ⟨floor, rest⟩ H0
      try dsimp only at H0 ⊢
      unfold ratio_rounded_ratio_toEven_j1 at H0
      replace H0 := bind_some H0
      obtain ⟨y1, h_1, H0⟩ := H0
      refine lok_rt (Env.of E0 [⟨some 33, 56, [.one (.p (pi floor)), .one (.p (pi rest)), .one (.p (pi a.Den))], [], [.one (.p (pi y1))], [], True, fun _ => ok_ratio_toEven floor rest a.Den y1 h_1, []⟩]) (⟨34, mkS [(4, .x (.one (.p (pi y1))))], mkH []⟩) ?_
      refine lok_ret ?_
      obtain rfl := Option.some.inj H0
      try simp only [thenL, blockL]
      exact fin_au _ (.inr rfl) [] (⟨34, mkS [(4, .x (.one (.p (pi y1))))], mkH []⟩) rfl rfl imp_au
    case hxratio_rounded_ratio_toEven_j1 =>
      refine lok_rt E0 (⟨34, mkS [(1, .x (.one (.fn 56 []))), (2, .x (.one (.ptr 102 0))), (5, .x (.one (.p (pi (IntKind.i64.wrap (Int.tdiv a.Num a.Den)))))), (6, .x (.one (.p (pi (Int.tmod a.Num a.Den))))), (21, .x (.one (.p (.val (.bool (decide ((Int.tmod a.Num a.Den) < (0 : Int))))))))], mkH [(102, .var [.p (pi a.Num), .p (pi a.Den)])]⟩) ?_
      refine lok_c (decide ((Int.tmod a.Num a.Den) < (0 : Int))) ?_ ?_
      · intro b_3
        replace H0 := cpos H0 b_3
        replace H0 := bindV_some H0
        obtain ⟨floor1, a_2, H0⟩ := H0
        refine lok_dlg E0 7 a_2 (⟨34, mkS [(1, .x (.one (.fn 56 []))), (2, .x (.one (.ptr 102 0))), (5, .x (.one (.p (pi floor1)))), (6, .x (.one (.p (pi (IntKind.i64.wrap ((Int.tmod a.Num a.Den) + a.Den))))))], mkH [(102, .var [.p (pi a.Num), .p (pi a.Den)])]⟩) (by kernel_rfl) (by kernel_rfl) ?_
        try simp only [thenL, blockL, ↓reduceIte, reduceCtorEq]
        exact ⟨(floor1, (IntKind.i64.wrap ((Int.tmod a.Num a.Den) + a.Den))), H0, imp_au⟩
      · intro b_3
        replace H0 := cneg H0 b_3
        refine lok_skip ?_
        try simp only [thenL, blockL, ↓reduceIte, reduceCtorEq]
        exact ⟨((IntKind.i64.wrap (Int.tdiv a.Num a.Den)), (Int.tmod a.Num a.Den)), H0, imp_au⟩
theorem ok_ratio_Even (a : api_Ratio) (r_ : Int) (H0 : ratio_Even a = some r_) : CallOK Try.prog 29 [.agg [.p (pi a.Num), .p (pi a.Den)]] [] [.one (.p (pi r_))] [] := by
  refine callOK (n := 5) (rs := [.tmp 2]) (nb := 0) (V := []) Try.func29 rfl (by kernel_rfl) rfl rfl rfl rfl (Nat.le_of_ble_eq_true rfl) (by decide) ?_
  unfold ratio_Even at H0
  refine lok_rt E0 (⟨5, mkS [(1, .x (.one (.ptr 101 0)))], mkH [(101, .var [.p (pi a.Num), .p (pi a.Den)])]⟩) ?_
  replace H0 := bind_some H0
  obtain ⟨y, h_0, H0⟩ := H0
  refine lok_rt (Env.of E0 [⟨some 4, 51, [.agg [.p (pi a.Num), .p (pi a.Den)], .one (.fn 56 [])], [], [.one (.p (pi y))], [], True, fun _ => ok_ratio_rounded_ratio_toEven a y h_0, []⟩]) (⟨5, mkS [(2, .x (.one (.p (pi y))))], mkH []⟩) ?_
  refine lok_ret ?_
  obtain rfl := Option.some.inj H0
  try simp only [thenL, blockL]
  exact fin_au _ (.inr rfl) [] (⟨5, mkS [(2, .x (.one (.p (pi y))))], mkH []⟩) rfl rfl imp_au
theorem ok_law01_RatioNear (t : List Int) (r_ : Bool) (H0 : law01_RatioNear t = some r_) : CallOK Try.prog 7 [.one (.p (.sl 1 (List.map encI t)))] [] [.one (.p (.val (.bool r_)))] [] := by
  refine callOK (n := 100) (rs := [.tmp 2]) (nb := 0) (V := []) Try.func7 rfl (by kernel_rfl) rfl rfl rfl rfl (Nat.le_of_ble_eq_true rfl) (by decide) ?_
  unfold law01_RatioNear at H0
  refine lok_rt E0 (⟨100, mkS [(0, .x (.one (.p (.sl 1 (List.map encI t)))))], mkH []⟩) ?_
  replace H0 := bind_some H0
  obtain ⟨y, h_0, H0⟩ := H0
  replace H0 := bind_some H0
  obtain ⟨⟨y1, y2⟩, h_1, H0⟩ := H0
  try dsimp only at H0
  refine lok_rt (Env.of E0 [⟨some 12, 11, [.one (.p (.sl 1 (List.map encI t)))], [], [.one (.ptr 0 0)], [some (.var [.p (.sl 1 (List.map encI y.L)), .p (pi y.At)])], True, fun _ => ok_make_New t y h_0, []⟩,
      ⟨some 13, 21, [.one (.ptr 0 0)], [.var [.p (.sl 1 (List.map encI y.L)), .p (pi y.At)]], [.agg [.p (pi y1.Num), .p (pi y1.Den)]], [some (.var [.p (.sl 1 (List.map encI y2.L)), .p (pi y2.At)])], True, fun _ => ok_make_Tape_Small y (y1, y2) h_1, []⟩]) (⟨100, mkS [(3, .x (.one (.ptr 103 0)))], mkH [(103, .var [.p (pi y1.Num), .p (pi y1.Den)])]⟩) ?_
  replace H0 := bind_some H0
  obtain ⟨y3, h_2, H0⟩ := H0
  replace H0 := bind_some H0
  obtain ⟨⟨y4, y5⟩, h_3, H0⟩ := H0
  try dsimp only at H0
  refine lok_rt (Env.of E0 [⟨some 16, 25, [.agg [.p (pi y1.Num), .p (pi y1.Den)]], [], [.one (.p (pi y3))], [], True, fun _ => ok_ratio_Floor y1 y3 h_2, []⟩,
      ⟨some 17, 18, [.one (.p (pi y3)), .one (.p (pi (1 : Int)))], [], [.agg [.p (pi y4.Num), .p (pi y4.Den)], .one (.p (pi y5))], [], True, fun _ => ok_ratio_New y3 (1 : Int) (y4, y5) h_3, []⟩]) (⟨100, mkS [(3, .x (.one (.ptr 103 0))), (4, .x (.one (.ptr 104 0))), (5, .x (.one (.p (pi y5))))], mkH [(103, .var [.p (pi y1.Num), .p (pi y1.Den)]), (104, .var [.p (pi y4.Num), .p (pi y4.Den)])]⟩) ?_
  replace H0 := bind_some H0
  obtain ⟨⟨y6, y7⟩, h_4, H0⟩ := H0
  try dsimp only at H0
  refine lok_rt (Env.of E0 [⟨some 23, 23, [.agg [.p (pi y1.Num), .p (pi y1.Den)], .agg [.p (pi y4.Num), .p (pi y4.Den)]], [], [.agg [.p (pi y6.Num), .p (pi y6.Den)], .one (.p (pi y7))], [], True, fun _ => ok_ratio_Sub y1 y4 (y6, y7) h_4, []⟩]) (⟨100, mkS [(3, .x (.one (.ptr 103 0))), (5, .x (.one (.p (pi y5)))), (6, .x (.one (.ptr 106 0))), (7, .x (.one (.p (pi y7))))], mkH [(103, .var [.p (pi y1.Num), .p (pi y1.Den)]), (106, .var [.p (pi y6.Num), .p (pi y6.Den)])]⟩) ?_
  refine lok_rt E0 (⟨100, mkS [(3, .x (.one (.ptr 103 0))), (5, .x (.one (.p (pi y5)))), (6, .x (.one (.ptr 106 0))), (7, .x (.one (.p (pi y7)))), (8, .x (.one (.ptr 108 0))), (9, .x (.one (.ptr 109 0)))], mkH [(103, .var [.p (pi y1.Num), .p (pi y1.Den)]), (106, .var [.p (pi y6.Num), .p (pi y6.Den)]), (108, .var [.p (pi (1 : Int)), .p (pi (2 : Int))]), (109, .var [.p (pi (1 : Int)), .p (pi (1 : Int))])]⟩) ?_
  refine lok_seq ?_
  replace H0 := req_some H0
  obtain ⟨⟨q_18, q_19, q_20, q_21⟩, H0⟩ := H0
  refine lok_dt (Env.of E0 [⟨some 37, 26, [.agg [.p (pi y6.Num), .p (pi y6.Den)], .agg [.p (pi (0 : Int)), .p (pi (1 : Int))]], [], [.one (.p (.val (.bool ((ratio_Less y6 (api_Ratio.mk (0 : Int) (1 : Int))).getD default))))], [], (ratio_Less y6 (api_Ratio.mk (0 : Int) (1 : Int))).isSome = true, fun h => ok_ratio_Less y6 (api_Ratio.mk (0 : Int) (1 : Int)) _ (isSome_get h), []⟩,
      ⟨some 42, 26, [.agg [.p (pi y6.Num), .p (pi y6.Den)], .agg [.p (pi (1 : Int)), .p (pi (1 : Int))]], [], [.one (.p (.val (.bool ((ratio_Less y6 (api_Ratio.mk (1 : Int) (1 : Int))).getD default))))], [], (ratio_Less y6 (api_Ratio.mk (1 : Int) (1 : Int))).isSome = true, fun h => ok_ratio_Less y6 (api_Ratio.mk (1 : Int) (1 : Int)) _ (isSome_get h), []⟩,
      ⟨some 47, 27, [.agg [.p (pi y1.Num), .p (pi y1.Den)]], [], [.one (.p (pi ((ratio_Ceil y1).getD default)))], [], (ratio_Ceil y1).isSome = true, fun h => ok_ratio_Ceil y1 _ (isSome_get h), []⟩,
      ⟨some 54, 25, [.agg [.p (pi (IntKind.i64.wrap (0 - y1.Num))), .p (pi y1.Den)]], [], [.one (.p (pi ((ratio_Floor (api_Ratio.mk (IntKind.i64.wrap (0 - y1.Num)) y1.Den)).getD default)))], [], (ratio_Floor (api_Ratio.mk (IntKind.i64.wrap (0 - y1.Num)) y1.Den)).isSome = true, fun h => ok_ratio_Floor (api_Ratio.mk (IntKind.i64.wrap (0 - y1.Num)) y1.Den) _ (isSome_get h), []⟩]) 26 (⟨100, mkS [(3, .x (.one (.ptr 103 0))), (6, .x (.one (.ptr 106 0))), (8, .x (.one (.ptr 108 0))), (57, .x (.one (.p (.val (.bool (((((y5 != (0 : Int)) || (y7 != (0 : Int))) || ((ratio_Less y6 (api_Ratio.mk (0 : Int) (1 : Int))).getD default)) || (!((ratio_Less y6 (api_Ratio.mk (1 : Int) (1 : Int))).getD default))) || (((ratio_Ceil y1).getD default) != (IntKind.i64.wrap (0 - ((ratio_Floor (api_Ratio.mk (IntKind.i64.wrap (0 - y1.Num)) y1.Den)).getD default))))))))))], mkH [(103, .var [.p (pi y1.Num), .p (pi y1.Den)]), (106, .var [.p (pi y6.Num), .p (pi y6.Den)]), (108, .var [.p (pi (1 : Int)), .p (pi (2 : Int))])]⟩) (by kernel_rfl) (by kernel_rfl) ?_
  refine lok_c (((((y5 != (0 : Int)) || (y7 != (0 : Int))) || ((ratio_Less y6 (api_Ratio.mk (0 : Int) (1 : Int))).getD default)) || (!((ratio_Less y6 (api_Ratio.mk (1 : Int) (1 : Int))).getD default))) || (((ratio_Ceil y1).getD default) != (IntKind.i64.wrap (0 - ((ratio_Floor (api_Ratio.mk (IntKind.i64.wrap (0 - y1.Num)) y1.Den)).getD default))))) ?_ ?_
  · intro b_17
    replace H0 := cpos H0 b_17
    refine lok_rt E0 (⟨100, mkS [(2, .x (.one (.p (.val (.bool false)))))], mkH []⟩) ?_
    refine lok_ret ?_
    obtain rfl := Option.some.inj H0
    try simp only [thenL, blockL]
    exact fin_au _ (.inr rfl) [] (⟨100, mkS [(2, .x (.one (.p (.val (.bool false)))))], mkH []⟩) rfl rfl imp_au
  · intro b_17
    replace H0 := cneg H0 b_17
    refine lok_skip ?_
    try simp only [thenL, blockL, ↓reduceIte, reduceCtorEq]
    replace H0 := bind_some H0
    obtain ⟨y8, h_5, H0⟩ := H0
    refine lok_rt (Env.of E0 [⟨some 59, 25, [.agg [.p (pi y1.Num), .p (pi y1.Den)]], [], [.one (.p (pi y8))], [], True, fun _ => ok_ratio_Floor y1 y8 h_5, []⟩]) (⟨100, mkS [(3, .x (.one (.ptr 103 0))), (6, .x (.one (.ptr 106 0))), (8, .x (.one (.ptr 108 0))), (10, .x (.one (.p (pi y8))))], mkH [(103, .var [.p (pi y1.Num), .p (pi y1.Den)]), (106, .var [.p (pi y6.Num), .p (pi y6.Den)]), (108, .var [.p (pi (1 : Int)), .p (pi (2 : Int))])]⟩) ?_
    refine lok_join (fun x_ : Int => law01_RatioNear_j1 y1 y6 x_ = some r_) (fun x_ => ⟨100, mkS [(3, .x (.one (.ptr 103 0))), (6, .x (.one (.ptr 106 0))), (8, .x (.one (.ptr 108 0))), (10, .x (.one (.p (pi x_))))], mkH [(103, .var [.p (pi y1.Num), .p (pi y1.Den)]), (106, .var [.p (pi y6.Num), .p (pi y6.Den)]), (108, .var [.p (pi (1 : Int)), .p (pi (2 : Int))])]⟩) ?hylaw01_RatioNear_j1 ?hxlaw01_RatioNear_j1
    case hylaw01_RatioNear_j1 =>
      rintro up H0
      try dsimp only at H0 ⊢
      unfold law01_RatioNear_j1 at H0
      refine lok_seq ?_
      replace H0 := bind_some H0
      obtain ⟨y9, h_6, H0⟩ := H0
      refine lok_rt (Env.of E0 [⟨some 67, 28, [.agg [.p (pi y1.Num), .p (pi y1.Den)]], [], [.one (.p (pi y9))], [], True, fun _ => ok_ratio_Round y1 y9 h_6, []⟩]) (⟨100, mkS [(3, .x (.one (.ptr 103 0))), (6, .x (.one (.ptr 106 0))), (8, .x (.one (.ptr 108 0))), (10, .x (.one (.p (pi up)))), (69, .x (.one (.p (.val (.bool (y9 != up))))))], mkH [(103, .var [.p (pi y1.Num), .p (pi y1.Den)]), (106, .var [.p (pi y6.Num), .p (pi y6.Den)]), (108, .var [.p (pi (1 : Int)), .p (pi (2 : Int))])]⟩) ?_
      refine lok_c (y9 != up) ?_ ?_
      · intro b_14
        replace H0 := cpos H0 b_14
        refine lok_rt E0 (⟨100, mkS [(2, .x (.one (.p (.val (.bool false)))))], mkH []⟩) ?_
        refine lok_ret ?_
        obtain rfl := Option.some.inj H0
        try simp only [thenL, blockL]
        exact fin_au _ (.inr rfl) [] (⟨100, mkS [(2, .x (.one (.p (.val (.bool false)))))], mkH []⟩) rfl rfl imp_au
      · intro b_14
        replace H0 := cneg H0 b_14
        refine lok_skip ?_
        try simp only [thenL, blockL, ↓reduceIte, reduceCtorEq]
        refine lok_seq ?_
        refine lok_rt E0 (⟨100, mkS [(3, .x (.one (.ptr 103 0))), (10, .x (.one (.p (pi up)))), (72, .x (.one (.p (.val (.bool ((y6.Num == (1 : Int)) && (y6.Den == (2 : Int))))))))], mkH [(103, .var [.p (pi y1.Num), .p (pi y1.Den)])]⟩) ?_
        refine lok_c ((y6.Num == (1 : Int)) && (y6.Den == (2 : Int))) ?_ ?_
        · intro b_13
          replace H0 := cpos H0 b_13
          replace H0 := bind_some H0
          obtain ⟨y10, h_7, H0⟩ := H0
          replace H0 := req_some H0
          obtain ⟨⟨q_8, q_9, q_10⟩, H0⟩ := H0
          refine lok_rt (Env.of E0 [⟨some 74, 29, [.agg [.p (pi y1.Num), .p (pi y1.Den)]], [], [.one (.p (pi y10))], [], True, fun _ => ok_ratio_Even y1 y10 h_7, []⟩,
      ⟨some 79, 29, [.agg [.p (pi y1.Num), .p (pi y1.Den)]], [], [.one (.p (pi ((ratio_Even y1).getD default)))], [], (ratio_Even y1).isSome = true, fun h => ok_ratio_Even y1 _ (isSome_get h), []⟩,
      ⟨some 84, 29, [.agg [.p (pi y1.Num), .p (pi y1.Den)]], [], [.one (.p (pi ((ratio_Even y1).getD default)))], [], (ratio_Even y1).isSome = true, fun h => ok_ratio_Even y1 _ (isSome_get h), []⟩,
      ⟨some 91, 10, [], [], [.one (.p (.val (.bool ((law01_awake).getD default))))], [], (law01_awake).isSome = true, fun h => ok_law01_awake _ (isSome_get h), []⟩]) (⟨100, mkS [(2, .x (.one (.p (.val (.bool ((((Int.tmod y10 (2 : Int)) == (0 : Int)) && ((((ratio_Even y1).getD default) == up) || (((ratio_Even y1).getD default) == (IntKind.i64.wrap (up - (1 : Int)))))) && ((law01_awake).getD default)))))))], mkH []⟩) ?_
          refine lok_ret ?_
          obtain rfl := Option.some.inj H0
          try simp only [thenL, blockL]
          exact fin_au _ (.inr rfl) [] (⟨100, mkS [(2, .x (.one (.p (.val (.bool ((((Int.tmod y10 (2 : Int)) == (0 : Int)) && ((((ratio_Even y1).getD default) == up) || (((ratio_Even y1).getD default) == (IntKind.i64.wrap (up - (1 : Int)))))) && ((law01_awake).getD default)))))))], mkH []⟩) rfl rfl imp_au
        · intro b_13
          replace H0 := cneg H0 b_13
          refine lok_skip ?_
          try simp only [thenL, blockL, ↓reduceIte, reduceCtorEq]
          replace H0 := bind_some H0
          obtain ⟨y11, h_11, H0⟩ := H0
          replace H0 := req_some H0
          obtain ⟨q_12, H0⟩ := H0
          refine lok_rt (Env.of E0 [⟨some 94, 29, [.agg [.p (pi y1.Num), .p (pi y1.Den)]], [], [.one (.p (pi y11))], [], True, fun _ => ok_ratio_Even y1 y11 h_11, []⟩,
      ⟨some 98, 10, [], [], [.one (.p (.val (.bool ((law01_awake).getD default))))], [], (law01_awake).isSome = true, fun h => ok_law01_awake _ (isSome_get h), []⟩]) (⟨100, mkS [(2, .x (.one (.p (.val (.bool ((y11 == up) && ((law01_awake).getD default)))))))], mkH []⟩) ?_
          refine lok_ret ?_
          obtain rfl := Option.some.inj H0
          try simp only [thenL, blockL]
          exact fin_au _ (.inr rfl) [] (⟨100, mkS [(2, .x (.one (.p (.val (.bool ((y11 == up) && ((law01_awake).getD default)))))))], mkH []⟩) rfl rfl imp_au
    case hxlaw01_RatioNear_j1 =>
      replace H0 := bind_some H0
      obtain ⟨y12, h_15, H0⟩ := H0
      refine lok_rt (Env.of E0 [⟨some 62, 26, [.agg [.p (pi y6.Num), .p (pi y6.Den)], .agg [.p (pi (1 : Int)), .p (pi (2 : Int))]], [], [.one (.p (.val (.bool y12)))], [], True, fun _ => ok_ratio_Less y6 (api_Ratio.mk (1 : Int) (2 : Int)) y12 h_15, []⟩]) (⟨100, mkS [(3, .x (.one (.ptr 103 0))), (6, .x (.one (.ptr 106 0))), (8, .x (.one (.ptr 108 0))), (10, .x (.one (.p (pi y8)))), (63, .x (.one (.p (.val (.bool (!y12))))))], mkH [(103, .var [.p (pi y1.Num), .p (pi y1.Den)]), (106, .var [.p (pi y6.Num), .p (pi y6.Den)]), (108, .var [.p (pi (1 : Int)), .p (pi (2 : Int))])]⟩) ?_
      refine lok_c (!y12) ?_ ?_
      · intro b_16
        replace H0 := cpos H0 b_16
        refine lok_rl E0 (⟨100, mkS [(3, .x (.one (.ptr 103 0))), (6, .x (.one (.ptr 106 0))), (8, .x (.one (.ptr 108 0))), (10, .x (.one (.p (pi (IntKind.i64.wrap (y8 + (1 : Int)))))))], mkH [(103, .var [.p (pi y1.Num), .p (pi y1.Den)]), (106, .var [.p (pi y6.Num), .p (pi y6.Den)]), (108, .var [.p (pi (1 : Int)), .p (pi (2 : Int))])]⟩) ?_
        try simp only [thenL, blockL, ↓reduceIte, reduceCtorEq]
        exact ⟨(IntKind.i64.wrap (y8 + (1 : Int))), H0, imp_au⟩
      · intro b_16
        replace H0 := cneg H0 b_16
        refine lok_skip ?_
        try simp only [thenL, blockL, ↓reduceIte, reduceCtorEq]
        exact ⟨y8, H0, imp_au⟩
theorem ok_make_Tape_Pick (t : make_Tape) (l : List Int) (r_ : Int × make_Tape) (H0 : make_Tape_Pick t l = some r_) : CallOK Try.prog 14 [.one (.ptr 0 0), .one (.p (.sl 1 (List.map encI l)))] [.var [.p (.sl 1 (List.map encI t.L)), .p (pi t.At)]] [.one (.p (pi r_.1))] [some (.var [.p (.sl 1 (List.map encI r_.2.L)), .p (pi r_.2.At)])] := by
  refine callOK (n := 12) (rs := [.tmp 4]) (nb := 1) (V := [0]) Try.func14 rfl (by kernel_rfl) rfl rfl rfl rfl (Nat.le_of_ble_eq_true rfl) (by decide) ?_
  unfold make_Tape_Pick at H0
  refine lok_rt E0 (⟨12, mkS [(0, .x (.one (.ptr 0 0))), (1, .x (.one (.p (.sl 1 (List.map encI l)))))], mkH [(0, .var [.p (.sl 1 (List.map encI t.L)), .p (pi t.At)])]⟩) ?_
  replace H0 := bind_some H0
  obtain ⟨⟨y, y1⟩, h_0, H0⟩ := H0
  try dsimp only at H0
  replace H0 := req_some H0
  obtain ⟨q_1, H0⟩ := H0
  refine lok_rt (Env.of E0 [⟨some 9, 12, [.one (.ptr 0 0), .one (.p (pi (l.length : Int)))], [.var [.p (.sl 1 (List.map encI t.L)), .p (pi t.At)]], [.one (.p (pi y))], [some (.var [.p (.sl 1 (List.map encI y1.L)), .p (pi y1.At)])], True, fun _ => ok_make_Tape_Next t (l.length : Int) (y, y1) h_0, []⟩]) (⟨12, mkS [(4, .x (.one (.p (pi (ix l y)))))], mkH [(0, .var [.p (.sl 1 (List.map encI y1.L)), .p (pi y1.At)])]⟩) ?_
  refine lok_ret ?_
  obtain rfl := Option.some.inj H0
  try simp only [thenL, blockL]
  exact fin_au _ (.inr rfl) [0] (⟨12, mkS [(4, .x (.one (.p (pi (ix l y)))))], mkH [(0, .var [.p (.sl 1 (List.map encI y1.L)), .p (pi y1.At)])]⟩) rfl rfl imp_au
theorem ok_make_Tape_More (t : make_Tape) (r_ : Bool × make_Tape) (H0 : make_Tape_More t = some r_) : CallOK Try.prog 15 [.one (.ptr 0 0)] [.var [.p (.sl 1 (List.map encI t.L)), .p (pi t.At)]] [.one (.p (.val (.bool r_.1)))] [some (.var [.p (.sl 1 (List.map encI r_.2.L)), .p (pi r_.2.At)])] := by
  refine callOK (n := 13) (rs := [.tmp 2]) (nb := 1) (V := [0]) Try.func15 rfl (by kernel_rfl) rfl rfl rfl rfl (Nat.le_of_ble_eq_true rfl) (by decide) ?_
  unfold make_Tape_More at H0
  refine lok_rt E0 (⟨13, mkS [(0, .x (.one (.ptr 0 0)))], mkH [(0, .var [.p (.sl 1 (List.map encI t.L)), .p (pi t.At)])]⟩) ?_
  refine lok_dt E0 9 (⟨13, mkS [(2, .x (.one (.p (.val (.bool (decide (t.At < (t.L.length : Int))))))))], mkH [(0, .var [.p (.sl 1 (List.map encI t.L)), .p (pi t.At)])]⟩) (by kernel_rfl) (by kernel_rfl) ?_
  refine lok_ret ?_
  obtain rfl := Option.some.inj H0
  try simp only [thenL, blockL]
  exact fin_au _ (.inr rfl) [0] (⟨13, mkS [(2, .x (.one (.p (.val (.bool (decide (t.At < (t.L.length : Int))))))))], mkH [(0, .var [.p (.sl 1 (List.map encI t.L)), .p (pi t.At)])]⟩) rfl rfl imp_au
theorem ok_make_Tape_One (t : make_Tape) (n : Int) (r_ : Bool × make_Tape) (H0 : make_Tape_One t n = some r_) : CallOK Try.prog 16 [.one (.ptr 0 0), .one (.p (pi n))] [.var [.p (.sl 1 (List.map encI t.L)), .p (pi t.At)]] [.one (.p (.val (.bool r_.1)))] [some (.var [.p (.sl 1 (List.map encI r_.2.L)), .p (pi r_.2.At)])] := by
  refine callOK (n := 11) (rs := [.tmp 4]) (nb := 1) (V := [0]) Try.func16 rfl (by kernel_rfl) rfl rfl rfl rfl (Nat.le_of_ble_eq_true rfl) (by decide) ?_
  unfold make_Tape_One at H0
  refine lok_rt E0 (⟨11, mkS [(0, .x (.one (.ptr 0 0))), (1, .x (.one (.p (pi n))))], mkH [(0, .var [.p (.sl 1 (List.map encI t.L)), .p (pi t.At)])]⟩) ?_
  replace H0 := bind_some H0
  obtain ⟨⟨y, y1⟩, h_0, H0⟩ := H0
  try dsimp only at H0
  refine lok_rt (Env.of E0 [⟨some 7, 12, [.one (.ptr 0 0), .one (.p (pi n))], [.var [.p (.sl 1 (List.map encI t.L)), .p (pi t.At)]], [.one (.p (pi y))], [some (.var [.p (.sl 1 (List.map encI y1.L)), .p (pi y1.At)])], True, fun _ => ok_make_Tape_Next t n (y, y1) h_0, []⟩]) (⟨11, mkS [(4, .x (.one (.p (.val (.bool (y == (IntKind.i64.wrap (n - (1 : Int)))))))))], mkH [(0, .var [.p (.sl 1 (List.map encI y1.L)), .p (pi y1.At)])]⟩) ?_
  refine lok_ret ?_
  obtain rfl := Option.some.inj H0
  try simp only [thenL, blockL]
  exact fin_au _ (.inr rfl) [0] (⟨11, mkS [(4, .x (.one (.p (.val (.bool (y == (IntKind.i64.wrap (n - (1 : Int)))))))))], mkH [(0, .var [.p (.sl 1 (List.map encI y1.L)), .p (pi y1.At)])]⟩) rfl rfl imp_au
end Go.LS
