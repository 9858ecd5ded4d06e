/-
  The walks: the functions compute what the plain ones say. Condition: the plain function has a value.
-/
import Derived.Test.YtncjhljkjgejlaaK2
import Derived.Test.YtncjhljkjgejlaaD3
namespace Go.LS
open Go.Proofs
set_option linter.all false
set_option linter.unusedSimpArgs false
set_option linter.unusedVariables false
set_option maxRecDepth 20000

theorem ok_ref01_floor (n : Int) (d : Int) (r_ : Int) (H0 : ref01_floor n d = some r_) : CallOK Try.prog 66 [.one (.p (pi n)), .one (.p (pi d))] [] [.one (.p (pi r_))] [] := by
  refine callOK (n := 16) (rs := [.tmp 4]) (nb := 0) (V := []) Try.func66 rfl (by kernel_rfl) rfl rfl rfl rfl (Nat.le_of_ble_eq_true rfl) (by decide) ?_
  unfold ref01_floor at H0
  refine lok_rt E0 (⟨16, mkS [(0, .x (.one (.p (pi n)))), (1, .x (.one (.p (pi d))))], mkH []⟩) ?_
  replace H0 := req_some H0
  obtain ⟨q_2, H0⟩ := H0
  refine lok_rt E0 (⟨16, mkS [(0, .x (.one (.p (pi n)))), (1, .x (.one (.p (pi d)))), (5, .x (.one (.p (pi (IntKind.i64.wrap (Int.tdiv n d))))))], mkH []⟩) ?_
  refine lok_join (fun x_ : Int => ref01_floor_j1 x_ = some r_) (fun x_ => ⟨16, mkS [(5, .x (.one (.p (pi x_))))], mkH []⟩) ?hyref01_floor_j1 ?hxref01_floor_j1
  case hyref01_floor_j1 =>
    rintro q H0
    try dsimp only at H0 ⊢
    unfold ref01_floor_j1 at H0
    refine lok_rt E0 (⟨16, mkS [(4, .x (.one (.p (pi q))))], mkH []⟩) ?_
    refine lok_ret ?_
    obtain rfl := Option.some.inj H0
    try simp only [thenL, blockL]
    exact fin_au _ (.inr rfl) [] (⟨16, mkS [(4, .x (.one (.p (pi q))))], mkH []⟩) rfl rfl imp_au
  case hxref01_floor_j1 =>
    replace H0 := req_some H0
    obtain ⟨q_1, H0⟩ := H0
    refine lok_rt E0 (⟨16, mkS [(5, .x (.one (.p (pi (IntKind.i64.wrap (Int.tdiv n d)))))), (12, .x (.one (.p (.val (.bool (decide ((Int.tmod n d) < (0 : Int))))))))], mkH []⟩) ?_
    refine lok_c (decide ((Int.tmod n d) < (0 : Int))) ?_ ?_
    · intro b_0
      replace H0 := cpos H0 b_0
      refine lok_rl E0 (⟨16, mkS [(5, .x (.one (.p (pi (IntKind.i64.wrap ((IntKind.i64.wrap (Int.tdiv n d)) - (1 : Int)))))))], mkH []⟩) ?_
      try simp only [thenL, blockL, ↓reduceIte, reduceCtorEq]
      exact ⟨(IntKind.i64.wrap ((IntKind.i64.wrap (Int.tdiv n d)) - (1 : Int))), H0, imp_au⟩
    · intro b_0
      replace H0 := cneg H0 b_0
      refine lok_skip ?_
      try simp only [thenL, blockL, ↓reduceIte, reduceCtorEq]
      exact ⟨(IntKind.i64.wrap (Int.tdiv n d)), H0, imp_au⟩
theorem ok_ref01_Floor (a : api_Ratio) (r_ : Int) (H0 : ref01_Floor a = some r_) : CallOK Try.prog 27 [.agg [.p (pi a.Num), .p (pi a.Den)]] [] [.one (.p (pi r_))] [] := by
  refine callOK (n := 11) (rs := [.tmp 2]) (nb := 0) (V := []) Try.func27 rfl (by kernel_rfl) rfl rfl rfl rfl (Nat.le_of_ble_eq_true rfl) (by decide) ?_
  unfold ref01_Floor at H0
  refine lok_rt E0 (⟨11, mkS [(1, .x (.one (.ptr 101 0)))], mkH [(101, .var [.p (pi a.Num), .p (pi a.Den)])]⟩) ?_
  refine lok_seq ?_
  replace H0 := bind_some H0
  obtain ⟨y, h_0, H0⟩ := H0
  refine lok_rt (Env.of E0 [⟨some 4, 24, [.agg [.p (pi a.Num), .p (pi a.Den)]], [], [.one (.p (.val (.bool y)))], [], True, fun _ => ok_ref01_Valid a y h_0, []⟩]) (⟨11, mkS [(1, .x (.one (.ptr 101 0))), (5, .x (.one (.p (.val (.bool (!y))))))], mkH [(101, .var [.p (pi a.Num), .p (pi a.Den)])]⟩) ?_
  refine lok_c (!y) ?_ ?_
  · intro b_2
    replace H0 := cpos H0 b_2
    refine lok_rt E0 (⟨11, mkS [(2, .x (.one (.p (pi (0 : Int)))))], mkH []⟩) ?_
    refine lok_ret ?_
    obtain rfl := Option.some.inj H0
    try simp only [thenL, blockL]
    exact fin_au _ (.inr rfl) [] (⟨11, mkS [(2, .x (.one (.p (pi (0 : Int)))))], mkH []⟩) rfl rfl imp_au
  · intro b_2
    replace H0 := cneg H0 b_2
    refine lok_skip ?_
    try simp only [thenL, blockL, ↓reduceIte, reduceCtorEq]
    replace H0 := bind_some H0
    obtain ⟨y1, h_1, H0⟩ := H0
    refine lok_rt (Env.of E0 [⟨some 10, 66, [.one (.p (pi a.Num)), .one (.p (pi a.Den))], [], [.one (.p (pi y1))], [], True, fun _ => ok_ref01_floor a.Num a.Den y1 h_1, []⟩]) (⟨11, mkS [(2, .x (.one (.p (pi y1))))], mkH []⟩) ?_
    refine lok_ret ?_
    obtain rfl := Option.some.inj H0
    try simp only [thenL, blockL]
    exact fin_au _ (.inr rfl) [] (⟨11, mkS [(2, .x (.one (.p (pi y1))))], mkH []⟩) rfl rfl imp_au
theorem ok_ratio_toCeil (floor : Int) (rest : Int) (den : Int) (r_ : Int) (H0 : ratio_toCeil floor rest den = some r_) : CallOK Try.prog 67 [.one (.p (pi floor)), .one (.p (pi rest)), .one (.p (pi den))] [] [.one (.p (pi r_))] [] := by
  refine callOK (n := 12) (rs := [.tmp 6]) (nb := 0) (V := []) Try.func67 rfl (by kernel_rfl) rfl rfl rfl rfl (Nat.le_of_ble_eq_true rfl) (by decide) ?_
  unfold ratio_toCeil at H0
  refine lok_rt E0 (⟨12, mkS [(0, .x (.one (.p (pi floor)))), (1, .x (.one (.p (pi rest))))], mkH []⟩) ?_
  refine lok_seq ?_
  refine lok_rt E0 (⟨12, mkS [(0, .x (.one (.p (pi floor)))), (8, .x (.one (.p (.val (.bool (decide ((0 : Int) < rest)))))))], mkH []⟩) ?_
  refine lok_c (decide ((0 : Int) < rest)) ?_ ?_
  · intro b_0
    replace H0 := cpos H0 b_0
    refine lok_rt E0 (⟨12, mkS [(6, .x (.one (.p (pi (IntKind.i64.wrap (floor + (1 : Int)))))))], mkH []⟩) ?_
    refine lok_ret ?_
    obtain rfl := Option.some.inj H0
    try simp only [thenL, blockL]
    exact fin_au _ (.inr rfl) [] (⟨12, mkS [(6, .x (.one (.p (pi (IntKind.i64.wrap (floor + (1 : Int)))))))], mkH []⟩) rfl rfl imp_au
  · intro b_0
    replace H0 := cneg H0 b_0
    refine lok_skip ?_
    try simp only [thenL, blockL, ↓reduceIte, reduceCtorEq]
    refine lok_rt E0 (⟨12, mkS [(6, .x (.one (.p (pi floor))))], mkH []⟩) ?_
    refine lok_ret ?_
    obtain rfl := Option.some.inj H0
    try simp only [thenL, blockL]
    exact fin_au _ (.inr rfl) [] (⟨12, mkS [(6, .x (.one (.p (pi floor))))], mkH []⟩) rfl rfl imp_au
theorem ok_ratio_rounded_ratio_toCeil (a : api_Ratio) (r_ : Int) (H0 : ratio_rounded_ratio_toCeil a = some r_) : CallOK Try.prog 64 [.agg [.p (pi a.Num), .p (pi a.Den)], .one (.fn 67 [])] [] [.one (.p (pi r_))] [] := by
  refine callOK (n := 34) (rs := [.tmp 4]) (nb := 0) (V := []) Try.func64 rfl (by kernel_rfl) rfl rfl rfl rfl (Nat.le_of_ble_eq_true rfl) (by decide) ?_
  unfold ratio_rounded_ratio_toCeil at H0
  refine lok_rt E0 (⟨34, mkS [(1, .x (.one (.fn 67 []))), (2, .x (.one (.ptr 102 0)))], mkH [(102, .var [.p (pi a.Num), .p (pi a.Den)])]⟩) ?_
  refine lok_seq ?_
  replace H0 := bind_some H0
  obtain ⟨y, h_0, H0⟩ := H0
  refine lok_rt (Env.of E0 [⟨some 8, 23, [.agg [.p (pi a.Num), .p (pi a.Den)]], [], [.one (.p (.val (.bool y)))], [], True, fun _ => ok_ratio_Valid a y h_0, []⟩]) (⟨34, mkS [(1, .x (.one (.fn 67 []))), (2, .x (.one (.ptr 102 0))), (9, .x (.one (.p (.val (.bool (!y))))))], mkH [(102, .var [.p (pi a.Num), .p (pi a.Den)])]⟩) ?_
  refine lok_c (!y) ?_ ?_
  · intro b_5
    replace H0 := cpos H0 b_5
    refine lok_rt E0 (⟨34, mkS [(4, .x (.one (.p (pi (0 : Int)))))], mkH []⟩) ?_
    refine lok_ret ?_
    obtain rfl := Option.some.inj H0
    try simp only [thenL, blockL]
    exact fin_au _ (.inr rfl) [] (⟨34, mkS [(4, .x (.one (.p (pi (0 : Int)))))], mkH []⟩) rfl rfl imp_au
  · intro b_5
    replace H0 := cneg H0 b_5
    refine lok_skip ?_
    try simp only [thenL, blockL, ↓reduceIte, reduceCtorEq]
    replace H0 := req_some H0
    obtain ⟨q_4, H0⟩ := H0
    refine lok_dt E0 11 (⟨34, mkS [(1, .x (.one (.fn 67 []))), (2, .x (.one (.ptr 102 0))), (5, .x (.one (.p (pi (IntKind.i64.wrap (Int.tdiv a.Num a.Den)))))), (6, .x (.one (.p (pi (Int.tmod a.Num a.Den)))))], mkH [(102, .var [.p (pi a.Num), .p (pi a.Den)])]⟩) (by kernel_rfl) (by kernel_rfl) ?_
    refine lok_join (fun x_ : Int × Int => ratio_rounded_ratio_toCeil_j1 a x_.1 x_.2 = some r_) (fun x_ => ⟨34, mkS [(1, .x (.one (.fn 67 []))), (2, .x (.one (.ptr 102 0))), (5, .x (.one (.p (pi x_.1)))), (6, .x (.one (.p (pi x_.2))))], mkH [(102, .var [.p (pi a.Num), .p (pi a.Den)])]⟩) ?hyratio_rounded_ratio_toCeil_j1 ?hxratio_rounded_ratio_toCeil_j1
    case hyratio_rounded_ratio_toCeil_j1 =>
      rintro ⟨floor, rest⟩ H0
      try dsimp only at H0 ⊢
      unfold ratio_rounded_ratio_toCeil_j1 at H0
      replace H0 := bind_some H0
      obtain ⟨y1, h_1, H0⟩ := H0
      refine lok_rt (Env.of E0 [⟨some 33, 67, [.one (.p (pi floor)), .one (.p (pi rest)), .one (.p (pi a.Den))], [], [.one (.p (pi y1))], [], True, fun _ => ok_ratio_toCeil floor rest a.Den y1 h_1, []⟩]) (⟨34, mkS [(4, .x (.one (.p (pi y1))))], mkH []⟩) ?_
      refine lok_ret ?_
      obtain rfl := Option.some.inj H0
      try simp only [thenL, blockL]
      exact fin_au _ (.inr rfl) [] (⟨34, mkS [(4, .x (.one (.p (pi y1))))], mkH []⟩) rfl rfl imp_au
    case hxratio_rounded_ratio_toCeil_j1 =>
      refine lok_rt E0 (⟨34, mkS [(1, .x (.one (.fn 67 []))), (2, .x (.one (.ptr 102 0))), (5, .x (.one (.p (pi (IntKind.i64.wrap (Int.tdiv a.Num a.Den)))))), (6, .x (.one (.p (pi (Int.tmod a.Num a.Den))))), (21, .x (.one (.p (.val (.bool (decide ((Int.tmod a.Num a.Den) < (0 : Int))))))))], mkH [(102, .var [.p (pi a.Num), .p (pi a.Den)])]⟩) ?_
      refine lok_c (decide ((Int.tmod a.Num a.Den) < (0 : Int))) ?_ ?_
      · intro b_3
        replace H0 := cpos H0 b_3
        replace H0 := bindV_some H0
        obtain ⟨floor1, a_2, H0⟩ := H0
        refine lok_dlg E0 7 a_2 (⟨34, mkS [(1, .x (.one (.fn 67 []))), (2, .x (.one (.ptr 102 0))), (5, .x (.one (.p (pi floor1)))), (6, .x (.one (.p (pi (IntKind.i64.wrap ((Int.tmod a.Num a.Den) + a.Den))))))], mkH [(102, .var [.p (pi a.Num), .p (pi a.Den)])]⟩) (by kernel_rfl) (by kernel_rfl) ?_
        try simp only [thenL, blockL, ↓reduceIte, reduceCtorEq]
        exact ⟨(floor1, (IntKind.i64.wrap ((Int.tmod a.Num a.Den) + a.Den))), H0, imp_au⟩
      · intro b_3
        replace H0 := cneg H0 b_3
        refine lok_skip ?_
        try simp only [thenL, blockL, ↓reduceIte, reduceCtorEq]
        exact ⟨((IntKind.i64.wrap (Int.tdiv a.Num a.Den)), (Int.tmod a.Num a.Den)), H0, imp_au⟩
theorem ok_ratio_Ceil (a : api_Ratio) (r_ : Int) (H0 : ratio_Ceil a = some r_) : CallOK Try.prog 28 [.agg [.p (pi a.Num), .p (pi a.Den)]] [] [.one (.p (pi r_))] [] := by
  refine callOK (n := 5) (rs := [.tmp 2]) (nb := 0) (V := []) Try.func28 rfl (by kernel_rfl) rfl rfl rfl rfl (Nat.le_of_ble_eq_true rfl) (by decide) ?_
  unfold ratio_Ceil at H0
  refine lok_rt E0 (⟨5, mkS [(1, .x (.one (.ptr 101 0)))], mkH [(101, .var [.p (pi a.Num), .p (pi a.Den)])]⟩) ?_
  replace H0 := bind_some H0
  obtain ⟨y, h_0, H0⟩ := H0
  refine lok_rt (Env.of E0 [⟨some 4, 64, [.agg [.p (pi a.Num), .p (pi a.Den)], .one (.fn 67 [])], [], [.one (.p (pi y))], [], True, fun _ => ok_ratio_rounded_ratio_toCeil a y h_0, []⟩]) (⟨5, mkS [(2, .x (.one (.p (pi y))))], mkH []⟩) ?_
  refine lok_ret ?_
  obtain rfl := Option.some.inj H0
  try simp only [thenL, blockL]
  exact fin_au _ (.inr rfl) [] (⟨5, mkS [(2, .x (.one (.p (pi y))))], mkH []⟩) rfl rfl imp_au
theorem ok_ref01_Ceil (a : api_Ratio) (r_ : Int) (H0 : ref01_Ceil a = some r_) : CallOK Try.prog 29 [.agg [.p (pi a.Num), .p (pi a.Den)]] [] [.one (.p (pi r_))] [] := by
  refine callOK (n := 13) (rs := [.tmp 2]) (nb := 0) (V := []) Try.func29 rfl (by kernel_rfl) rfl rfl rfl rfl (Nat.le_of_ble_eq_true rfl) (by decide) ?_
  unfold ref01_Ceil at H0
  refine lok_rt E0 (⟨13, mkS [(1, .x (.one (.ptr 101 0)))], mkH [(101, .var [.p (pi a.Num), .p (pi a.Den)])]⟩) ?_
  refine lok_seq ?_
  replace H0 := bind_some H0
  obtain ⟨y, h_0, H0⟩ := H0
  refine lok_rt (Env.of E0 [⟨some 4, 24, [.agg [.p (pi a.Num), .p (pi a.Den)]], [], [.one (.p (.val (.bool y)))], [], True, fun _ => ok_ref01_Valid a y h_0, []⟩]) (⟨13, mkS [(1, .x (.one (.ptr 101 0))), (5, .x (.one (.p (.val (.bool (!y))))))], mkH [(101, .var [.p (pi a.Num), .p (pi a.Den)])]⟩) ?_
  refine lok_c (!y) ?_ ?_
  · intro b_2
    replace H0 := cpos H0 b_2
    refine lok_rt E0 (⟨13, mkS [(2, .x (.one (.p (pi (0 : Int)))))], mkH []⟩) ?_
    refine lok_ret ?_
    obtain rfl := Option.some.inj H0
    try simp only [thenL, blockL]
    exact fin_au _ (.inr rfl) [] (⟨13, mkS [(2, .x (.one (.p (pi (0 : Int)))))], mkH []⟩) rfl rfl imp_au
  · intro b_2
    replace H0 := cneg H0 b_2
    refine lok_skip ?_
    try simp only [thenL, blockL, ↓reduceIte, reduceCtorEq]
    replace H0 := bind_some H0
    obtain ⟨y1, h_1, H0⟩ := H0
    refine lok_rt (Env.of E0 [⟨some 11, 66, [.one (.p (pi (IntKind.i64.wrap (0 - a.Num)))), .one (.p (pi a.Den))], [], [.one (.p (pi y1))], [], True, fun _ => ok_ref01_floor (IntKind.i64.wrap (0 - a.Num)) a.Den y1 h_1, []⟩]) (⟨13, mkS [(2, .x (.one (.p (pi (IntKind.i64.wrap (0 - y1))))))], mkH []⟩) ?_
    refine lok_ret ?_
    obtain rfl := Option.some.inj H0
    try simp only [thenL, blockL]
    exact fin_au _ (.inr rfl) [] (⟨13, mkS [(2, .x (.one (.p (pi (IntKind.i64.wrap (0 - y1))))))], mkH []⟩) rfl rfl imp_au
theorem ok_ratio_toRound (floor : Int) (rest : Int) (den : Int) (r_ : Int) (H0 : ratio_toRound floor rest den = some r_) : CallOK Try.prog 68 [.one (.p (pi floor)), .one (.p (pi rest)), .one (.p (pi den))] [] [.one (.p (pi r_))] [] := by
  refine callOK (n := 15) (rs := [.tmp 6]) (nb := 0) (V := []) Try.func68 rfl (by kernel_rfl) rfl rfl rfl rfl (Nat.le_of_ble_eq_true rfl) (by decide) ?_
  unfold ratio_toRound at H0
  refine lok_rt E0 (⟨15, mkS [(0, .x (.one (.p (pi floor)))), (1, .x (.one (.p (pi rest)))), (2, .x (.one (.p (pi den))))], mkH []⟩) ?_
  refine lok_seq ?_
  refine lok_rt E0 (⟨15, mkS [(0, .x (.one (.p (pi floor)))), (11, .x (.one (.p (.val (.bool (decide ((IntKind.i64.wrap (den - rest)) ≤ rest)))))))], mkH []⟩) ?_
  refine lok_c (decide ((IntKind.i64.wrap (den - rest)) ≤ rest)) ?_ ?_
  · intro b_0
    replace H0 := cpos H0 b_0
    refine lok_rt E0 (⟨15, mkS [(6, .x (.one (.p (pi (IntKind.i64.wrap (floor + (1 : Int)))))))], mkH []⟩) ?_
    refine lok_ret ?_
    obtain rfl := Option.some.inj H0
    try simp only [thenL, blockL]
    exact fin_au _ (.inr rfl) [] (⟨15, mkS [(6, .x (.one (.p (pi (IntKind.i64.wrap (floor + (1 : Int)))))))], mkH []⟩) rfl rfl imp_au
  · intro b_0
    replace H0 := cneg H0 b_0
    refine lok_skip ?_
    try simp only [thenL, blockL, ↓reduceIte, reduceCtorEq]
    refine lok_rt E0 (⟨15, mkS [(6, .x (.one (.p (pi floor))))], mkH []⟩) ?_
    refine lok_ret ?_
    obtain rfl := Option.some.inj H0
    try simp only [thenL, blockL]
    exact fin_au _ (.inr rfl) [] (⟨15, mkS [(6, .x (.one (.p (pi floor))))], mkH []⟩) rfl rfl imp_au
theorem ok_ratio_rounded_ratio_toRound (a : api_Ratio) (r_ : Int) (H0 : ratio_rounded_ratio_toRound a = some r_) : CallOK Try.prog 64 [.agg [.p (pi a.Num), .p (pi a.Den)], .one (.fn 68 [])] [] [.one (.p (pi r_))] [] := by
  refine callOK (n := 34) (rs := [.tmp 4]) (nb := 0) (V := []) Try.func64 rfl (by kernel_rfl) rfl rfl rfl rfl (Nat.le_of_ble_eq_true rfl) (by decide) ?_
  unfold ratio_rounded_ratio_toRound at H0
  refine lok_rt E0 (⟨34, mkS [(1, .x (.one (.fn 68 []))), (2, .x (.one (.ptr 102 0)))], mkH [(102, .var [.p (pi a.Num), .p (pi a.Den)])]⟩) ?_
  refine lok_seq ?_
  replace H0 := bind_some H0
  obtain ⟨y, h_0, H0⟩ := H0
  refine lok_rt (Env.of E0 [⟨some 8, 23, [.agg [.p (pi a.Num), .p (pi a.Den)]], [], [.one (.p (.val (.bool y)))], [], True, fun _ => ok_ratio_Valid a y h_0, []⟩]) (⟨34, mkS [(1, .x (.one (.fn 68 []))), (2, .x (.one (.ptr 102 0))), (9, .x (.one (.p (.val (.bool (!y))))))], mkH [(102, .var [.p (pi a.Num), .p (pi a.Den)])]⟩) ?_
  refine lok_c (!y) ?_ ?_
  · intro b_5
    replace H0 := cpos H0 b_5
    refine lok_rt E0 (⟨34, mkS [(4, .x (.one (.p (pi (0 : Int)))))], mkH []⟩) ?_
    refine lok_ret ?_
    obtain rfl := Option.some.inj H0
    try simp only [thenL, blockL]
    exact fin_au _ (.inr rfl) [] (⟨34, mkS [(4, .x (.one (.p (pi (0 : Int)))))], mkH []⟩) rfl rfl imp_au
  · intro b_5
    replace H0 := cneg H0 b_5
    refine lok_skip ?_
    try simp only [thenL, blockL, ↓reduceIte, reduceCtorEq]
    replace H0 := req_some H0
    obtain ⟨q_4, H0⟩ := H0
    refine lok_dt E0 11 (⟨34, mkS [(1, .x (.one (.fn 68 []))), (2, .x (.one (.ptr 102 0))), (5, .x (.one (.p (pi (IntKind.i64.wrap (Int.tdiv a.Num a.Den)))))), (6, .x (.one (.p (pi (Int.tmod a.Num a.Den)))))], mkH [(102, .var [.p (pi a.Num), .p (pi a.Den)])]⟩) (by kernel_rfl) (by kernel_rfl) ?_
    refine lok_join (fun x_ : Int × Int => ratio_rounded_ratio_toRound_j1 a x_.1 x_.2 = some r_) (fun x_ => ⟨34, mkS [(1, .x (.one (.fn 68 []))), (2, .x (.one (.ptr 102 0))), (5, .x (.one (.p (pi x_.1)))), (6, .x (.one (.p (pi x_.2))))], mkH [(102, .var [.p (pi a.Num), .p (pi a.Den)])]⟩) ?hyratio_rounded_ratio_toRound_j1 ?hxratio_rounded_ratio_toRound_j1
    case hyratio_rounded_ratio_toRound_j1 =>
      rintro ⟨floor, rest⟩ H0
      try dsimp only at H0 ⊢
      unfold ratio_rounded_ratio_toRound_j1 at H0
      replace H0 := bind_some H0
      obtain ⟨y1, h_1, H0⟩ := H0
      refine lok_rt (Env.of E0 [⟨some 33, 68, [.one (.p (pi floor)), .one (.p (pi rest)), .one (.p (pi a.Den))], [], [.one (.p (pi y1))], [], True, fun _ => ok_ratio_toRound floor rest a.Den y1 h_1, []⟩]) (⟨34, mkS [(4, .x (.one (.p (pi y1))))], mkH []⟩) ?_
      refine lok_ret ?_
      obtain rfl := Option.some.inj H0
      try simp only [thenL, blockL]
      exact fin_au _ (.inr rfl) [] (⟨34, mkS [(4, .x (.one (.p (pi y1))))], mkH []⟩) rfl rfl imp_au
    case hxratio_rounded_ratio_toRound_j1 =>
      refine lok_rt E0 (⟨34, mkS [(1, .x (.one (.fn 68 []))), (2, .x (.one (.ptr 102 0))), (5, .x (.one (.p (pi (IntKind.i64.wrap (Int.tdiv a.Num a.Den)))))), (6, .x (.one (.p (pi (Int.tmod a.Num a.Den))))), (21, .x (.one (.p (.val (.bool (decide ((Int.tmod a.Num a.Den) < (0 : Int))))))))], mkH [(102, .var [.p (pi a.Num), .p (pi a.Den)])]⟩) ?_
      refine lok_c (decide ((Int.tmod a.Num a.Den) < (0 : Int))) ?_ ?_
      · intro b_3
        replace H0 := cpos H0 b_3
        replace H0 := bindV_some H0
        obtain ⟨floor1, a_2, H0⟩ := H0
        refine lok_dlg E0 7 a_2 (⟨34, mkS [(1, .x (.one (.fn 68 []))), (2, .x (.one (.ptr 102 0))), (5, .x (.one (.p (pi floor1)))), (6, .x (.one (.p (pi (IntKind.i64.wrap ((Int.tmod a.Num a.Den) + a.Den))))))], mkH [(102, .var [.p (pi a.Num), .p (pi a.Den)])]⟩) (by kernel_rfl) (by kernel_rfl) ?_
        try simp only [thenL, blockL, ↓reduceIte, reduceCtorEq]
        exact ⟨(floor1, (IntKind.i64.wrap ((Int.tmod a.Num a.Den) + a.Den))), H0, imp_au⟩
      · intro b_3
        replace H0 := cneg H0 b_3
        refine lok_skip ?_
        try simp only [thenL, blockL, ↓reduceIte, reduceCtorEq]
        exact ⟨((IntKind.i64.wrap (Int.tdiv a.Num a.Den)), (Int.tmod a.Num a.Den)), H0, imp_au⟩
theorem ok_ratio_Round (a : api_Ratio) (r_ : Int) (H0 : ratio_Round a = some r_) : CallOK Try.prog 30 [.agg [.p (pi a.Num), .p (pi a.Den)]] [] [.one (.p (pi r_))] [] := by
  refine callOK (n := 5) (rs := [.tmp 2]) (nb := 0) (V := []) Try.func30 rfl (by kernel_rfl) rfl rfl rfl rfl (Nat.le_of_ble_eq_true rfl) (by decide) ?_
  unfold ratio_Round at H0
  refine lok_rt E0 (⟨5, mkS [(1, .x (.one (.ptr 101 0)))], mkH [(101, .var [.p (pi a.Num), .p (pi a.Den)])]⟩) ?_
  replace H0 := bind_some H0
  obtain ⟨y, h_0, H0⟩ := H0
  refine lok_rt (Env.of E0 [⟨some 4, 64, [.agg [.p (pi a.Num), .p (pi a.Den)], .one (.fn 68 [])], [], [.one (.p (pi y))], [], True, fun _ => ok_ratio_rounded_ratio_toRound a y h_0, []⟩]) (⟨5, mkS [(2, .x (.one (.p (pi y))))], mkH []⟩) ?_
  refine lok_ret ?_
  obtain rfl := Option.some.inj H0
  try simp only [thenL, blockL]
  exact fin_au _ (.inr rfl) [] (⟨5, mkS [(2, .x (.one (.p (pi y))))], mkH []⟩) rfl rfl imp_au
theorem ok_ref01_Round (a : api_Ratio) (r_ : Int) (H0 : ref01_Round a = some r_) : CallOK Try.prog 31 [.agg [.p (pi a.Num), .p (pi a.Den)]] [] [.one (.p (pi r_))] [] := by
  refine callOK (n := 16) (rs := [.tmp 2]) (nb := 0) (V := []) Try.func31 rfl (by kernel_rfl) rfl rfl rfl rfl (Nat.le_of_ble_eq_true rfl) (by decide) ?_
  unfold ref01_Round at H0
  refine lok_rt E0 (⟨16, mkS [(1, .x (.one (.ptr 101 0)))], mkH [(101, .var [.p (pi a.Num), .p (pi a.Den)])]⟩) ?_
  refine lok_seq ?_
  replace H0 := bind_some H0
  obtain ⟨y, h_0, H0⟩ := H0
  refine lok_rt (Env.of E0 [⟨some 4, 24, [.agg [.p (pi a.Num), .p (pi a.Den)]], [], [.one (.p (.val (.bool y)))], [], True, fun _ => ok_ref01_Valid a y h_0, []⟩]) (⟨16, mkS [(1, .x (.one (.ptr 101 0))), (5, .x (.one (.p (.val (.bool (!y))))))], mkH [(101, .var [.p (pi a.Num), .p (pi a.Den)])]⟩) ?_
  refine lok_c (!y) ?_ ?_
  · intro b_2
    replace H0 := cpos H0 b_2
    refine lok_rt E0 (⟨16, mkS [(2, .x (.one (.p (pi (0 : Int)))))], mkH []⟩) ?_
    refine lok_ret ?_
    obtain rfl := Option.some.inj H0
    try simp only [thenL, blockL]
    exact fin_au _ (.inr rfl) [] (⟨16, mkS [(2, .x (.one (.p (pi (0 : Int)))))], mkH []⟩) rfl rfl imp_au
  · intro b_2
    replace H0 := cneg H0 b_2
    refine lok_skip ?_
    try simp only [thenL, blockL, ↓reduceIte, reduceCtorEq]
    replace H0 := bind_some H0
    obtain ⟨y1, h_1, H0⟩ := H0
    refine lok_rt (Env.of E0 [⟨some 15, 66, [.one (.p (pi (IntKind.i64.wrap ((IntKind.i64.wrap ((2 : Int) * a.Num)) + a.Den)))), .one (.p (pi (IntKind.i64.wrap ((2 : Int) * a.Den))))], [], [.one (.p (pi y1))], [], True, fun _ => ok_ref01_floor (IntKind.i64.wrap ((IntKind.i64.wrap ((2 : Int) * a.Num)) + a.Den)) (IntKind.i64.wrap ((2 : Int) * a.Den)) y1 h_1, []⟩]) (⟨16, mkS [(2, .x (.one (.p (pi y1))))], mkH []⟩) ?_
    refine lok_ret ?_
    obtain rfl := Option.some.inj H0
    try simp only [thenL, blockL]
    exact fin_au _ (.inr rfl) [] (⟨16, mkS [(2, .x (.one (.p (pi y1))))], mkH []⟩) rfl rfl imp_au
theorem ok_ratio_toEven (floor : Int) (rest : Int) (den : Int) (r_ : Int) (H0 : ratio_toEven floor rest den = some r_) : CallOK Try.prog 69 [.one (.p (pi floor)), .one (.p (pi rest)), .one (.p (pi den))] [] [.one (.p (pi r_))] [] := by
  refine callOK (n := 27) (rs := [.tmp 6]) (nb := 0) (V := []) Try.func69 rfl (by kernel_rfl) rfl rfl rfl rfl (Nat.le_of_ble_eq_true rfl) (by decide) ?_
  unfold ratio_toEven at H0
  refine lok_rt E0 (⟨27, mkS [(0, .x (.one (.p (pi floor)))), (1, .x (.one (.p (pi rest)))), (2, .x (.one (.p (pi den))))], mkH []⟩) ?_
  refine lok_seq ?_
  refine lok_rt E0 (⟨27, mkS [(0, .x (.one (.p (pi floor)))), (23, .x (.one (.p (.val (.bool ((decide ((IntKind.i64.wrap (den - rest)) < rest)) || ((rest == (IntKind.i64.wrap (den - rest))) && ((Int.tmod floor (2 : Int)) != (0 : Int)))))))))], mkH []⟩) ?_
  refine lok_c ((decide ((IntKind.i64.wrap (den - rest)) < rest)) || ((rest == (IntKind.i64.wrap (den - rest))) && ((Int.tmod floor (2 : Int)) != (0 : Int)))) ?_ ?_
  · intro b_0
    replace H0 := cpos H0 b_0
    refine lok_rt E0 (⟨27, mkS [(6, .x (.one (.p (pi (IntKind.i64.wrap (floor + (1 : Int)))))))], mkH []⟩) ?_
    refine lok_ret ?_
    obtain rfl := Option.some.inj H0
    try simp only [thenL, blockL]
    exact fin_au _ (.inr rfl) [] (⟨27, mkS [(6, .x (.one (.p (pi (IntKind.i64.wrap (floor + (1 : Int)))))))], mkH []⟩) rfl rfl imp_au
  · intro b_0
    replace H0 := cneg H0 b_0
    refine lok_skip ?_
    try simp only [thenL, blockL, ↓reduceIte, reduceCtorEq]
    refine lok_rt E0 (⟨27, mkS [(6, .x (.one (.p (pi floor))))], mkH []⟩) ?_
    refine lok_ret ?_
    obtain rfl := Option.some.inj H0
    try simp only [thenL, blockL]
    exact fin_au _ (.inr rfl) [] (⟨27, mkS [(6, .x (.one (.p (pi floor))))], mkH []⟩) rfl rfl imp_au
theorem ok_ratio_rounded_ratio_toEven (a : api_Ratio) (r_ : Int) (H0 : ratio_rounded_ratio_toEven a = some r_) : CallOK Try.prog 64 [.agg [.p (pi a.Num), .p (pi a.Den)], .one (.fn 69 [])] [] [.one (.p (pi r_))] [] := by
  refine callOK (n := 34) (rs := [.tmp 4]) (nb := 0) (V := []) Try.func64 rfl (by kernel_rfl) rfl rfl rfl rfl (Nat.le_of_ble_eq_true rfl) (by decide) ?_
  unfold ratio_rounded_ratio_toEven at H0
  refine lok_rt E0 (⟨34, mkS [(1, .x (.one (.fn 69 []))), (2, .x (.one (.ptr 102 0)))], mkH [(102, .var [.p (pi a.Num), .p (pi a.Den)])]⟩) ?_
  refine lok_seq ?_
  replace H0 := bind_some H0
  obtain ⟨y, h_0, H0⟩ := H0
  refine lok_rt (Env.of E0 [⟨some 8, 23, [.agg [.p (pi a.Num), .p (pi a.Den)]], [], [.one (.p (.val (.bool y)))], [], True, fun _ => ok_ratio_Valid a y h_0, []⟩]) (⟨34, mkS [(1, .x (.one (.fn 69 []))), (2, .x (.one (.ptr 102 0))), (9, .x (.one (.p (.val (.bool (!y))))))], mkH [(102, .var [.p (pi a.Num), .p (pi a.Den)])]⟩) ?_
  refine lok_c (!y) ?_ ?_
  · intro b_5
    replace H0 := cpos H0 b_5
    refine lok_rt E0 (⟨34, mkS [(4, .x (.one (.p (pi (0 : Int)))))], mkH []⟩) ?_
    refine lok_ret ?_
    obtain rfl := Option.some.inj H0
    try simp only [thenL, blockL]
    exact fin_au _ (.inr rfl) [] (⟨34, mkS [(4, .x (.one (.p (pi (0 : Int)))))], mkH []⟩) rfl rfl imp_au
  · intro b_5
    replace H0 := cneg H0 b_5
    refine lok_skip ?_
    try simp only [thenL, blockL, ↓reduceIte, reduceCtorEq]
    replace H0 := req_some H0
    obtain ⟨q_4, H0⟩ := H0
    refine lok_dt E0 11 (⟨34, mkS [(1, .x (.one (.fn 69 []))), (2, .x (.one (.ptr 102 0))), (5, .x (.one (.p (pi (IntKind.i64.wrap (Int.tdiv a.Num a.Den)))))), (6, .x (.one (.p (pi (Int.tmod a.Num a.Den)))))], mkH [(102, .var [.p (pi a.Num), .p (pi a.Den)])]⟩) (by kernel_rfl) (by kernel_rfl) ?_
    refine lok_join (fun x_ : Int × Int => ratio_rounded_ratio_toEven_j1 a x_.1 x_.2 = some r_) (fun x_ => ⟨34, mkS [(1, .x (.one (.fn 69 []))), (2, .x (.one (.ptr 102 0))), (5, .x (.one (.p (pi x_.1)))), (6, .x (.one (.p (pi x_.2))))], mkH [(102, .var [.p (pi a.Num), .p (pi a.Den)])]⟩) ?hyratio_rounded_ratio_toEven_j1 ?hxratio_rounded_ratio_toEven_j1
    case hyratio_rounded_ratio_toEven_j1 =>
      rintro ⟨floor, rest⟩ H0
      try dsimp only at H0 ⊢
      unfold ratio_rounded_ratio_toEven_j1 at H0
      replace H0 := bind_some H0
      obtain ⟨y1, h_1, H0⟩ := H0
      refine lok_rt (Env.of E0 [⟨some 33, 69, [.one (.p (pi floor)), .one (.p (pi rest)), .one (.p (pi a.Den))], [], [.one (.p (pi y1))], [], True, fun _ => ok_ratio_toEven floor rest a.Den y1 h_1, []⟩]) (⟨34, mkS [(4, .x (.one (.p (pi y1))))], mkH []⟩) ?_
      refine lok_ret ?_
      obtain rfl := Option.some.inj H0
      try simp only [thenL, blockL]
      exact fin_au _ (.inr rfl) [] (⟨34, mkS [(4, .x (.one (.p (pi y1))))], mkH []⟩) rfl rfl imp_au
    case hxratio_rounded_ratio_toEven_j1 =>
      refine lok_rt E0 (⟨34, mkS [(1, .x (.one (.fn 69 []))), (2, .x (.one (.ptr 102 0))), (5, .x (.one (.p (pi (IntKind.i64.wrap (Int.tdiv a.Num a.Den)))))), (6, .x (.one (.p (pi (Int.tmod a.Num a.Den))))), (21, .x (.one (.p (.val (.bool (decide ((Int.tmod a.Num a.Den) < (0 : Int))))))))], mkH [(102, .var [.p (pi a.Num), .p (pi a.Den)])]⟩) ?_
      refine lok_c (decide ((Int.tmod a.Num a.Den) < (0 : Int))) ?_ ?_
      · intro b_3
        replace H0 := cpos H0 b_3
        replace H0 := bindV_some H0
        obtain ⟨floor1, a_2, H0⟩ := H0
        refine lok_dlg E0 7 a_2 (⟨34, mkS [(1, .x (.one (.fn 69 []))), (2, .x (.one (.ptr 102 0))), (5, .x (.one (.p (pi floor1)))), (6, .x (.one (.p (pi (IntKind.i64.wrap ((Int.tmod a.Num a.Den) + a.Den))))))], mkH [(102, .var [.p (pi a.Num), .p (pi a.Den)])]⟩) (by kernel_rfl) (by kernel_rfl) ?_
        try simp only [thenL, blockL, ↓reduceIte, reduceCtorEq]
        exact ⟨(floor1, (IntKind.i64.wrap ((Int.tmod a.Num a.Den) + a.Den))), H0, imp_au⟩
      · intro b_3
        replace H0 := cneg H0 b_3
        refine lok_skip ?_
        try simp only [thenL, blockL, ↓reduceIte, reduceCtorEq]
        exact ⟨((IntKind.i64.wrap (Int.tdiv a.Num a.Den)), (Int.tmod a.Num a.Den)), H0, imp_au⟩
theorem ok_ratio_Even (a : api_Ratio) (r_ : Int) (H0 : ratio_Even a = some r_) : CallOK Try.prog 32 [.agg [.p (pi a.Num), .p (pi a.Den)]] [] [.one (.p (pi r_))] [] := by
  refine callOK (n := 5) (rs := [.tmp 2]) (nb := 0) (V := []) Try.func32 rfl (by kernel_rfl) rfl rfl rfl rfl (Nat.le_of_ble_eq_true rfl) (by decide) ?_
  unfold ratio_Even at H0
  refine lok_rt E0 (⟨5, mkS [(1, .x (.one (.ptr 101 0)))], mkH [(101, .var [.p (pi a.Num), .p (pi a.Den)])]⟩) ?_
  replace H0 := bind_some H0
  obtain ⟨y, h_0, H0⟩ := H0
  refine lok_rt (Env.of E0 [⟨some 4, 64, [.agg [.p (pi a.Num), .p (pi a.Den)], .one (.fn 69 [])], [], [.one (.p (pi y))], [], True, fun _ => ok_ratio_rounded_ratio_toEven a y h_0, []⟩]) (⟨5, mkS [(2, .x (.one (.p (pi y))))], mkH []⟩) ?_
  refine lok_ret ?_
  obtain rfl := Option.some.inj H0
  try simp only [thenL, blockL]
  exact fin_au _ (.inr rfl) [] (⟨5, mkS [(2, .x (.one (.p (pi y))))], mkH []⟩) rfl rfl imp_au
theorem ok_ref01_Even (a : api_Ratio) (r_ : Int) (H0 : ref01_Even a = some r_) : CallOK Try.prog 33 [.agg [.p (pi a.Num), .p (pi a.Den)]] [] [.one (.p (pi r_))] [] := by
  refine callOK (n := 40) (rs := [.tmp 2]) (nb := 0) (V := []) Try.func33 rfl (by kernel_rfl) rfl rfl rfl rfl (Nat.le_of_ble_eq_true rfl) (by decide) ?_
  unfold ref01_Even at H0
  refine lok_rt E0 (⟨40, mkS [(1, .x (.one (.ptr 101 0)))], mkH [(101, .var [.p (pi a.Num), .p (pi a.Den)])]⟩) ?_
  refine lok_seq ?_
  replace H0 := bind_some H0
  obtain ⟨y, h_0, H0⟩ := H0
  refine lok_rt (Env.of E0 [⟨some 6, 24, [.agg [.p (pi a.Num), .p (pi a.Den)]], [], [.one (.p (.val (.bool y)))], [], True, fun _ => ok_ref01_Valid a y h_0, []⟩]) (⟨40, mkS [(1, .x (.one (.ptr 101 0))), (7, .x (.one (.p (.val (.bool (!y))))))], mkH [(101, .var [.p (pi a.Num), .p (pi a.Den)])]⟩) ?_
  refine lok_c (!y) ?_ ?_
  · intro b_3
    replace H0 := cpos H0 b_3
    refine lok_rt E0 (⟨40, mkS [(2, .x (.one (.p (pi (0 : Int)))))], mkH []⟩) ?_
    refine lok_ret ?_
    obtain rfl := Option.some.inj H0
    try simp only [thenL, blockL]
    exact fin_au _ (.inr rfl) [] (⟨40, mkS [(2, .x (.one (.p (pi (0 : Int)))))], mkH []⟩) rfl rfl imp_au
  · intro b_3
    replace H0 := cneg H0 b_3
    refine lok_skip ?_
    try simp only [thenL, blockL, ↓reduceIte, reduceCtorEq]
    replace H0 := bind_some H0
    obtain ⟨y1, h_1, H0⟩ := H0
    refine lok_rt (Env.of E0 [⟨some 12, 66, [.one (.p (pi a.Num)), .one (.p (pi a.Den))], [], [.one (.p (pi y1))], [], True, fun _ => ok_ref01_floor a.Num a.Den y1 h_1, []⟩]) (⟨40, mkS [(1, .x (.one (.ptr 101 0))), (3, .x (.one (.p (pi y1))))], mkH [(101, .var [.p (pi a.Num), .p (pi a.Den)])]⟩) ?_
    refine lok_rt E0 (⟨40, mkS [(1, .x (.one (.ptr 101 0))), (3, .x (.one (.p (pi y1)))), (4, .x (.one (.p (pi (IntKind.i64.wrap (a.Num - (IntKind.i64.wrap (y1 * a.Den))))))))], mkH [(101, .var [.p (pi a.Num), .p (pi a.Den)])]⟩) ?_
    refine lok_seq ?_
    refine lok_rt E0 (⟨40, mkS [(3, .x (.one (.p (pi y1)))), (36, .x (.one (.p (.val (.bool ((decide (a.Den < (IntKind.i64.wrap ((2 : Int) * (IntKind.i64.wrap (a.Num - (IntKind.i64.wrap (y1 * a.Den)))))))) || (((IntKind.i64.wrap ((2 : Int) * (IntKind.i64.wrap (a.Num - (IntKind.i64.wrap (y1 * a.Den)))))) == a.Den) && ((Int.tmod y1 (2 : Int)) != (0 : Int)))))))))], mkH []⟩) ?_
    refine lok_c ((decide (a.Den < (IntKind.i64.wrap ((2 : Int) * (IntKind.i64.wrap (a.Num - (IntKind.i64.wrap (y1 * a.Den)))))))) || (((IntKind.i64.wrap ((2 : Int) * (IntKind.i64.wrap (a.Num - (IntKind.i64.wrap (y1 * a.Den)))))) == a.Den) && ((Int.tmod y1 (2 : Int)) != (0 : Int)))) ?_ ?_
    · intro b_2
      replace H0 := cpos H0 b_2
      refine lok_rt E0 (⟨40, mkS [(2, .x (.one (.p (pi (IntKind.i64.wrap (y1 + (1 : Int)))))))], mkH []⟩) ?_
      refine lok_ret ?_
      obtain rfl := Option.some.inj H0
      try simp only [thenL, blockL]
      exact fin_au _ (.inr rfl) [] (⟨40, mkS [(2, .x (.one (.p (pi (IntKind.i64.wrap (y1 + (1 : Int)))))))], mkH []⟩) rfl rfl imp_au
    · intro b_2
      replace H0 := cneg H0 b_2
      refine lok_skip ?_
      try simp only [thenL, blockL, ↓reduceIte, reduceCtorEq]
      refine lok_rt E0 (⟨40, mkS [(2, .x (.one (.p (pi y1))))], mkH []⟩) ?_
      refine lok_ret ?_
      obtain rfl := Option.some.inj H0
      try simp only [thenL, blockL]
      exact fin_au _ (.inr rfl) [] (⟨40, mkS [(2, .x (.one (.p (pi y1))))], mkH []⟩) rfl rfl imp_au
theorem ok_law01_RatioRounds (t : List Int) (r_ : Bool) (H0 : law01_RatioRounds t = some r_) : CallOK Try.prog 7 [.one (.p (.sl 1 (List.map encI t)))] [] [.one (.p (.val (.bool r_)))] [] := by
  refine callOK (n := 36) (rs := [.tmp 2]) (nb := 0) (V := []) Try.func7 rfl (by kernel_rfl) rfl rfl rfl rfl (Nat.le_of_ble_eq_true rfl) (by decide) ?_
  unfold law01_RatioRounds at H0
  refine lok_rt E0 (⟨36, mkS [(0, .x (.one (.p (.sl 1 (List.map encI t)))))], mkH []⟩) ?_
  replace H0 := bind_some H0
  obtain ⟨y, h_0, H0⟩ := H0
  replace H0 := bind_some H0
  obtain ⟨⟨y1, y2⟩, h_1, H0⟩ := H0
  try dsimp only at H0
  refine lok_rt (Env.of E0 [⟨some 5, 18, [.one (.p (.sl 1 (List.map encI t)))], [], [.one (.ptr 0 0)], [some (.var [.p (.sl 1 (List.map encI y.L)), .p (pi y.At)])], True, fun _ => ok_make_New t y h_0, []⟩,
      ⟨some 6, 25, [.one (.ptr 0 0)], [.var [.p (.sl 1 (List.map encI y.L)), .p (pi y.At)]], [.agg [.p (pi y1.Num), .p (pi y1.Den)]], [some (.var [.p (.sl 1 (List.map encI y2.L)), .p (pi y2.At)])], True, fun _ => ok_make_Tape_Loose y (y1, y2) h_1, []⟩]) (⟨36, mkS [(3, .x (.one (.ptr 103 0)))], mkH [(103, .var [.p (pi y1.Num), .p (pi y1.Den)])]⟩) ?_
  replace H0 := bind_some H0
  obtain ⟨y3, h_2, H0⟩ := H0
  replace H0 := bind_some H0
  obtain ⟨y4, h_3, H0⟩ := H0
  replace H0 := req_some H0
  obtain ⟨⟨q_4, q_5, q_6, q_7, q_8, q_9, q_10⟩, H0⟩ := H0
  refine lok_dt (Env.of E0 [⟨some 8, 26, [.agg [.p (pi y1.Num), .p (pi y1.Den)]], [], [.one (.p (pi y3))], [], True, fun _ => ok_ratio_Floor y1 y3 h_2, []⟩,
      ⟨some 10, 27, [.agg [.p (pi y1.Num), .p (pi y1.Den)]], [], [.one (.p (pi y4))], [], True, fun _ => ok_ref01_Floor y1 y4 h_3, []⟩,
      ⟨some 14, 28, [.agg [.p (pi y1.Num), .p (pi y1.Den)]], [], [.one (.p (pi ((ratio_Ceil y1).getD default)))], [], (ratio_Ceil y1).isSome = true, fun h => ok_ratio_Ceil y1 _ (isSome_get h), []⟩,
      ⟨some 16, 29, [.agg [.p (pi y1.Num), .p (pi y1.Den)]], [], [.one (.p (pi ((ref01_Ceil y1).getD default)))], [], (ref01_Ceil y1).isSome = true, fun h => ok_ref01_Ceil y1 _ (isSome_get h), []⟩,
      ⟨some 21, 30, [.agg [.p (pi y1.Num), .p (pi y1.Den)]], [], [.one (.p (pi ((ratio_Round y1).getD default)))], [], (ratio_Round y1).isSome = true, fun h => ok_ratio_Round y1 _ (isSome_get h), []⟩,
      ⟨some 23, 31, [.agg [.p (pi y1.Num), .p (pi y1.Den)]], [], [.one (.p (pi ((ref01_Round y1).getD default)))], [], (ref01_Round y1).isSome = true, fun h => ok_ref01_Round y1 _ (isSome_get h), []⟩,
      ⟨some 28, 32, [.agg [.p (pi y1.Num), .p (pi y1.Den)]], [], [.one (.p (pi ((ratio_Even y1).getD default)))], [], (ratio_Even y1).isSome = true, fun h => ok_ratio_Even y1 _ (isSome_get h), []⟩,
      ⟨some 30, 33, [.agg [.p (pi y1.Num), .p (pi y1.Den)]], [], [.one (.p (pi ((ref01_Even y1).getD default)))], [], (ref01_Even y1).isSome = true, fun h => ok_ref01_Even y1 _ (isSome_get h), []⟩,
      ⟨some 34, 17, [], [], [.one (.p (.val (.bool ((law01_awake).getD default))))], [], (law01_awake).isSome = true, fun h => ok_law01_awake _ (isSome_get h), []⟩]) 23 (⟨36, mkS [(2, .x (.one (.p (.val (.bool (((((y3 == y4) && (((ratio_Ceil y1).getD default) == ((ref01_Ceil y1).getD default))) && (((ratio_Round y1).getD default) == ((ref01_Round y1).getD default))) && (((ratio_Even y1).getD default) == ((ref01_Even y1).getD default))) && ((law01_awake).getD default)))))))], mkH []⟩) (by kernel_rfl) (by kernel_rfl) ?_
  refine lok_ret ?_
  obtain rfl := Option.some.inj H0
  try simp only [thenL, blockL]
  exact fin_au _ (.inr rfl) [] (⟨36, mkS [(2, .x (.one (.p (.val (.bool (((((y3 == y4) && (((ratio_Ceil y1).getD default) == ((ref01_Ceil y1).getD default))) && (((ratio_Round y1).getD default) == ((ref01_Round y1).getD default))) && (((ratio_Even y1).getD default) == ((ref01_Even y1).getD default))) && ((law01_awake).getD default)))))))], mkH []⟩) rfl rfl imp_au
theorem ok_bits_Mul64 (x : Int) (y : Int) (r_ : Int × Int) (H0 : bits_Mul64 x y = some r_) : CallOK Try.prog 85 [.one (.p (.val (.int .u64 x))), .one (.p (.val (.int .u64 y)))] [] [.one (.p (.val (.int .u64 r_.1))), .one (.p (.val (.int .u64 r_.2)))] [] := by
  refine callOK (n := 51) (rs := [.tmp 4, .tmp 5]) (nb := 0) (V := []) Try.func85 rfl (by kernel_rfl) rfl rfl rfl rfl (Nat.le_of_ble_eq_true rfl) (by decide) ?_
  unfold bits_Mul64 at H0
  refine lok_rt E0 (⟨51, mkS [(0, .x (.one (.p (.val (.int .u64 x))))), (1, .x (.one (.p (.val (.int .u64 y)))))], mkH []⟩) ?_
  refine lok_rt E0 (⟨51, mkS [(0, .x (.one (.p (.val (.int .u64 x))))), (1, .x (.one (.p (.val (.int .u64 y))))), (6, .x (.one (.p (.val (.int .u64 (bAnd .u64 x (4294967295 : Int)))))))], mkH []⟩) ?_
  refine lok_rt E0 (⟨51, mkS [(0, .x (.one (.p (.val (.int .u64 x))))), (1, .x (.one (.p (.val (.int .u64 y))))), (6, .x (.one (.p (.val (.int .u64 (bAnd .u64 x (4294967295 : Int))))))), (7, .x (.one (.p (.val (.int .u64 (bShr .u64 x (32 : Int)))))))], mkH []⟩) ?_
  refine lok_rt E0 (⟨51, mkS [(0, .x (.one (.p (.val (.int .u64 x))))), (1, .x (.one (.p (.val (.int .u64 y))))), (6, .x (.one (.p (.val (.int .u64 (bAnd .u64 x (4294967295 : Int))))))), (7, .x (.one (.p (.val (.int .u64 (bShr .u64 x (32 : Int))))))), (8, .x (.one (.p (.val (.int .u64 (bAnd .u64 y (4294967295 : Int)))))))], mkH []⟩) ?_
  refine lok_rt E0 (⟨51, mkS [(0, .x (.one (.p (.val (.int .u64 x))))), (1, .x (.one (.p (.val (.int .u64 y))))), (6, .x (.one (.p (.val (.int .u64 (bAnd .u64 x (4294967295 : Int))))))), (7, .x (.one (.p (.val (.int .u64 (bShr .u64 x (32 : Int))))))), (8, .x (.one (.p (.val (.int .u64 (bAnd .u64 y (4294967295 : Int))))))), (9, .x (.one (.p (.val (.int .u64 (bShr .u64 y (32 : Int)))))))], mkH []⟩) ?_
  replace H0 := bindV_some H0
  obtain ⟨w0, a_0, H0⟩ := H0
  refine lok_rtg E0 a_0 (⟨51, mkS [(0, .x (.one (.p (.val (.int .u64 x))))), (1, .x (.one (.p (.val (.int .u64 y))))), (6, .x (.one (.p (.val (.int .u64 (bAnd .u64 x (4294967295 : Int))))))), (7, .x (.one (.p (.val (.int .u64 (bShr .u64 x (32 : Int))))))), (8, .x (.one (.p (.val (.int .u64 (bAnd .u64 y (4294967295 : Int))))))), (9, .x (.one (.p (.val (.int .u64 (bShr .u64 y (32 : Int))))))), (10, .x (.one (.p (.val (.int .u64 w0)))))], mkH []⟩) ?_
  replace H0 := bindV_some H0
  obtain ⟨t, a_1, H0⟩ := H0
  refine lok_rtg E0 a_1 (⟨51, mkS [(0, .x (.one (.p (.val (.int .u64 x))))), (1, .x (.one (.p (.val (.int .u64 y))))), (6, .x (.one (.p (.val (.int .u64 (bAnd .u64 x (4294967295 : Int))))))), (7, .x (.one (.p (.val (.int .u64 (bShr .u64 x (32 : Int))))))), (9, .x (.one (.p (.val (.int .u64 (bShr .u64 y (32 : Int))))))), (11, .x (.one (.p (.val (.int .u64 t)))))], mkH []⟩) ?_
  refine lok_rt E0 (⟨51, mkS [(0, .x (.one (.p (.val (.int .u64 x))))), (1, .x (.one (.p (.val (.int .u64 y))))), (6, .x (.one (.p (.val (.int .u64 (bAnd .u64 x (4294967295 : Int))))))), (7, .x (.one (.p (.val (.int .u64 (bShr .u64 x (32 : Int))))))), (9, .x (.one (.p (.val (.int .u64 (bShr .u64 y (32 : Int))))))), (11, .x (.one (.p (.val (.int .u64 t))))), (12, .x (.one (.p (.val (.int .u64 (bAnd .u64 t (4294967295 : Int)))))))], mkH []⟩) ?_
  refine lok_rt E0 (⟨51, mkS [(0, .x (.one (.p (.val (.int .u64 x))))), (1, .x (.one (.p (.val (.int .u64 y))))), (6, .x (.one (.p (.val (.int .u64 (bAnd .u64 x (4294967295 : Int))))))), (7, .x (.one (.p (.val (.int .u64 (bShr .u64 x (32 : Int))))))), (9, .x (.one (.p (.val (.int .u64 (bShr .u64 y (32 : Int))))))), (12, .x (.one (.p (.val (.int .u64 (bAnd .u64 t (4294967295 : Int))))))), (13, .x (.one (.p (.val (.int .u64 (bShr .u64 t (32 : Int)))))))], mkH []⟩) ?_
  replace H0 := bindV_some H0
  obtain ⟨w1, a_2, H0⟩ := H0
  refine lok_rtg E0 a_2 (⟨51, mkS [(0, .x (.one (.p (.val (.int .u64 x))))), (1, .x (.one (.p (.val (.int .u64 y))))), (7, .x (.one (.p (.val (.int .u64 (bShr .u64 x (32 : Int))))))), (9, .x (.one (.p (.val (.int .u64 (bShr .u64 y (32 : Int))))))), (12, .x (.one (.p (.val (.int .u64 w1))))), (13, .x (.one (.p (.val (.int .u64 (bShr .u64 t (32 : Int)))))))], mkH []⟩) ?_
  replace H0 := bindV_some H0
  obtain ⟨hi, a_3, H0⟩ := H0
  refine lok_rtg E0 a_3 (⟨51, mkS [(0, .x (.one (.p (.val (.int .u64 x))))), (1, .x (.one (.p (.val (.int .u64 y))))), (4, .x (.one (.p (.val (.int .u64 hi)))))], mkH []⟩) ?_
  refine lok_rt E0 (⟨51, mkS [(4, .x (.one (.p (.val (.int .u64 hi))))), (5, .x (.one (.p (.val (.int .u64 (IntKind.u64.wrap (x * y)))))))], mkH []⟩) ?_
  refine lok_ret ?_
  obtain rfl := Option.some.inj H0
  try simp only [thenL, blockL]
  exact fin_au _ (.inr rfl) [] (⟨51, mkS [(4, .x (.one (.p (.val (.int .u64 hi))))), (5, .x (.one (.p (.val (.int .u64 (IntKind.u64.wrap (x * y)))))))], mkH []⟩) rfl rfl imp_au
theorem ok_ratio_product (a : Int) (b : Int) (r_ : ratio_wide) (H0 : ratio_product a b = some r_) : CallOK Try.prog 71 [.one (.p (.val (.int .u64 a))), .one (.p (.val (.int .u64 b)))] [] [.agg [.p (.val (.int .u64 r_.hi)), .p (.val (.int .u64 r_.lo))]] [] := by
  refine callOK (n := 16) (rs := [.cell 4 58]) (nb := 0) (V := []) Try.func71 rfl (by kernel_rfl) rfl rfl rfl rfl (Nat.le_of_ble_eq_true rfl) (by decide) ?_
  unfold ratio_product at H0
  refine lok_rt E0 (⟨16, mkS [(0, .x (.one (.p (.val (.int .u64 a))))), (1, .x (.one (.p (.val (.int .u64 b))))), (4, .x (.one (.ptr 104 0)))], mkH [(104, .var [.p (.val (.int .u64 (0 : Int))), .p (.val (.int .u64 (0 : Int)))])]⟩) ?_
  replace H0 := bind_some H0
  obtain ⟨⟨y, y1⟩, h_0, H0⟩ := H0
  try dsimp only at H0
  refine lok_rt (Env.of E0 [⟨some 10, 85, [.one (.p (.val (.int .u64 a))), .one (.p (.val (.int .u64 b)))], [], [.one (.p (.val (.int .u64 y))), .one (.p (.val (.int .u64 y1)))], [], True, fun _ => ok_bits_Mul64 a b (y, y1) h_0, []⟩]) (⟨16, mkS [(4, .x (.one (.ptr 104 0))), (5, .x (.one (.p (.val (.int .u64 y))))), (6, .x (.one (.p (.val (.int .u64 y1)))))], mkH [(104, .var [.p (.val (.int .u64 (0 : Int))), .p (.val (.int .u64 (0 : Int)))])]⟩) ?_
  refine lok_rt E0 (⟨16, mkS [(4, .x (.one (.ptr 104 0)))], mkH [(104, .var [.p (.val (.int .u64 y)), .p (.val (.int .u64 y1))])]⟩) ?_
  refine lok_ret ?_
  obtain rfl := Option.some.inj H0
  try simp only [thenL, blockL]
  exact fin_au _ (.inr rfl) [] (⟨16, mkS [(4, .x (.one (.ptr 104 0)))], mkH [(104, .var [.p (.val (.int .u64 y)), .p (.val (.int .u64 y1))])]⟩) rfl rfl imp_au
theorem ok_ratio_Mul (a : api_Ratio) (b : api_Ratio) (r_ : api_Ratio × Int) (H0 : ratio_Mul a b = some r_) : CallOK Try.prog 34 [.agg [.p (pi a.Num), .p (pi a.Den)], .agg [.p (pi b.Num), .p (pi b.Den)]] [] [.agg [.p (pi r_.1.Num), .p (pi r_.1.Den)], .one (.p (pi r_.2))] [] := by
  refine callOK (n := 65) (rs := [.cell 4 35, .tmp 5]) (nb := 0) (V := []) Try.func34 rfl (by kernel_rfl) rfl rfl rfl rfl (Nat.le_of_ble_eq_true rfl) (by decide) ?_
  unfold ratio_Mul at H0
  refine lok_rt E0 (⟨65, mkS [(2, .x (.one (.ptr 102 0))), (3, .x (.one (.ptr 103 0))), (4, .x (.one (.ptr 104 0)))], mkH [(102, .var [.p (pi a.Num), .p (pi a.Den)]), (103, .var [.p (pi b.Num), .p (pi b.Den)]), (104, .var [.p (pi (0 : Int)), .p (pi (0 : Int))])]⟩) ?_
  refine lok_seq ?_
  replace H0 := bind_some H0
  obtain ⟨y, h_0, H0⟩ := H0
  replace H0 := req_some H0
  obtain ⟨q_13, H0⟩ := H0
  refine lok_rt (Env.of E0 [⟨some 14, 23, [.agg [.p (pi a.Num), .p (pi a.Den)]], [], [.one (.p (.val (.bool y)))], [], True, fun _ => ok_ratio_Valid a y h_0, []⟩,
      ⟨some 18, 23, [.agg [.p (pi b.Num), .p (pi b.Den)]], [], [.one (.p (.val (.bool ((ratio_Valid b).getD default))))], [], (ratio_Valid b).isSome = true, fun h => ok_ratio_Valid b _ (isSome_get h), []⟩]) (⟨65, mkS [(2, .x (.one (.ptr 102 0))), (3, .x (.one (.ptr 103 0))), (4, .x (.one (.ptr 104 0))), (20, .x (.one (.p (.val (.bool ((!y) || (!((ratio_Valid b).getD default))))))))], mkH [(102, .var [.p (pi a.Num), .p (pi a.Den)]), (103, .var [.p (pi b.Num), .p (pi b.Den)]), (104, .var [.p (pi (0 : Int)), .p (pi (0 : Int))])]⟩) ?_
  refine lok_c ((!y) || (!((ratio_Valid b).getD default))) ?_ ?_
  · intro b_12
    replace H0 := cpos H0 b_12
    refine lok_rt E0 (⟨65, mkS [(4, .x (.one (.ptr 104 0))), (5, .x (.one (.p (pi (1 : Int)))))], mkH [(104, .var [.p (pi (0 : Int)), .p (pi (0 : Int))])]⟩) ?_
    refine lok_ret ?_
    obtain rfl := Option.some.inj H0
    try simp only [thenL, blockL]
    exact fin_au _ (.inr rfl) [] (⟨65, mkS [(4, .x (.one (.ptr 104 0))), (5, .x (.one (.p (pi (1 : Int)))))], mkH [(104, .var [.p (pi (0 : Int)), .p (pi (0 : Int))])]⟩) rfl rfl imp_au
  · intro b_12
    replace H0 := cneg H0 b_12
    refine lok_skip ?_
    try simp only [thenL, blockL, ↓reduceIte, reduceCtorEq]
    replace H0 := bind_some H0
    obtain ⟨y1, h_1, H0⟩ := H0
    replace H0 := bind_some H0
    obtain ⟨y2, h_2, H0⟩ := H0
    refine lok_dt (Env.of E0 [⟨some 24, 57, [.one (.p (pi a.Num))], [], [.one (.p (.val (.int .u64 y1)))], [], True, fun _ => ok_ratio_magnitude a.Num y1 h_1, []⟩,
      ⟨some 27, 57, [.one (.p (pi b.Num))], [], [.one (.p (.val (.int .u64 y2)))], [], True, fun _ => ok_ratio_magnitude b.Num y2 h_2, []⟩]) 5 (⟨65, mkS [(2, .x (.one (.ptr 102 0))), (3, .x (.one (.ptr 103 0))), (4, .x (.one (.ptr 104 0))), (6, .x (.one (.p (.val (.int .u64 y1))))), (7, .x (.one (.p (.val (.int .u64 y2)))))], mkH [(102, .var [.p (pi a.Num), .p (pi a.Den)]), (103, .var [.p (pi b.Num), .p (pi b.Den)]), (104, .var [.p (pi (0 : Int)), .p (pi (0 : Int))])]⟩) (by kernel_rfl) (by kernel_rfl) ?_
    refine lok_dt E0 7 (⟨65, mkS [(2, .x (.one (.ptr 102 0))), (3, .x (.one (.ptr 103 0))), (4, .x (.one (.ptr 104 0))), (6, .x (.one (.p (.val (.int .u64 y1))))), (7, .x (.one (.p (.val (.int .u64 y2))))), (8, .x (.one (.p (.val (.int .u64 (IntKind.u64.wrap a.Den)))))), (9, .x (.one (.p (.val (.int .u64 (IntKind.u64.wrap b.Den))))))], mkH [(102, .var [.p (pi a.Num), .p (pi a.Den)]), (103, .var [.p (pi b.Num), .p (pi b.Den)]), (104, .var [.p (pi (0 : Int)), .p (pi (0 : Int))])]⟩) (by kernel_rfl) (by kernel_rfl) ?_
    replace H0 := bind_some H0
    obtain ⟨y3, h_3, H0⟩ := H0
    replace H0 := bind_some H0
    obtain ⟨y4, h_4, H0⟩ := H0
    refine lok_rt (Env.of E0 [⟨some 36, 60, [.one (.p (.val (.int .u64 y1))), .one (.p (.val (.int .u64 (IntKind.u64.wrap b.Den))))], [], [.one (.p (.val (.int .u64 y3)))], [], True, fun _ => ok_ratio_gcd y1 (IntKind.u64.wrap b.Den) y3 h_3, []⟩,
      ⟨some 39, 60, [.one (.p (.val (.int .u64 y2))), .one (.p (.val (.int .u64 (IntKind.u64.wrap a.Den))))], [], [.one (.p (.val (.int .u64 y4)))], [], True, fun _ => ok_ratio_gcd y2 (IntKind.u64.wrap a.Den) y4 h_4, []⟩]) (⟨65, mkS [(2, .x (.one (.ptr 102 0))), (3, .x (.one (.ptr 103 0))), (4, .x (.one (.ptr 104 0))), (6, .x (.one (.p (.val (.int .u64 y1))))), (7, .x (.one (.p (.val (.int .u64 y2))))), (8, .x (.one (.p (.val (.int .u64 (IntKind.u64.wrap a.Den)))))), (9, .x (.one (.p (.val (.int .u64 (IntKind.u64.wrap b.Den)))))), (10, .x (.one (.p (.val (.int .u64 y3))))), (11, .x (.one (.p (.val (.int .u64 y4)))))], mkH [(102, .var [.p (pi a.Num), .p (pi a.Den)]), (103, .var [.p (pi b.Num), .p (pi b.Den)]), (104, .var [.p (pi (0 : Int)), .p (pi (0 : Int))])]⟩) ?_
    refine lok_rt E0 (⟨65, mkS [(4, .x (.one (.ptr 104 0))), (6, .x (.one (.p (.val (.int .u64 y1))))), (7, .x (.one (.p (.val (.int .u64 y2))))), (8, .x (.one (.p (.val (.int .u64 (IntKind.u64.wrap a.Den)))))), (9, .x (.one (.p (.val (.int .u64 (IntKind.u64.wrap b.Den)))))), (10, .x (.one (.p (.val (.int .u64 y3))))), (11, .x (.one (.p (.val (.int .u64 y4))))), (12, .x (.one (.p (.val (.bool (!((decide (a.Num < (0 : Int))) == (decide (b.Num < (0 : Int))))))))))], mkH [(104, .var [.p (pi (0 : Int)), .p (pi (0 : Int))])]⟩) ?_
    replace H0 := req_some H0
    obtain ⟨⟨q_8, q_9⟩, H0⟩ := H0
    replace H0 := bind_some H0
    obtain ⟨y5, h_5, H0⟩ := H0
    replace H0 := req_some H0
    obtain ⟨⟨q_10, q_11⟩, H0⟩ := H0
    replace H0 := bind_some H0
    obtain ⟨y6, h_6, H0⟩ := H0
    replace H0 := bind_some H0
    obtain ⟨⟨y7, y8⟩, h_7, H0⟩ := H0
    try dsimp only at H0
    refine lok_dt (Env.of E0 [⟨some 54, 71, [.one (.p (.val (.int .u64 (IntKind.u64.wrap (Int.tdiv y1 y3))))), .one (.p (.val (.int .u64 (IntKind.u64.wrap (Int.tdiv y2 y4)))))], [], [.agg [.p (.val (.int .u64 y5.hi)), .p (.val (.int .u64 y5.lo))]], [], True, fun _ => ok_ratio_product (IntKind.u64.wrap (Int.tdiv y1 y3)) (IntKind.u64.wrap (Int.tdiv y2 y4)) y5 h_5, []⟩,
      ⟨some 61, 71, [.one (.p (.val (.int .u64 (IntKind.u64.wrap (Int.tdiv (IntKind.u64.wrap a.Den) y4))))), .one (.p (.val (.int .u64 (IntKind.u64.wrap (Int.tdiv (IntKind.u64.wrap b.Den) y3)))))], [], [.agg [.p (.val (.int .u64 y6.hi)), .p (.val (.int .u64 y6.lo))]], [], True, fun _ => ok_ratio_product (IntKind.u64.wrap (Int.tdiv (IntKind.u64.wrap a.Den) y4)) (IntKind.u64.wrap (Int.tdiv (IntKind.u64.wrap b.Den) y3)) y6 h_6, []⟩,
      ⟨some 62, 70, [.one (.p (.val (.bool (!((decide (a.Num < (0 : Int))) == (decide (b.Num < (0 : Int)))))))), .agg [.p (.val (.int .u64 y5.hi)), .p (.val (.int .u64 y5.lo))], .agg [.p (.val (.int .u64 y6.hi)), .p (.val (.int .u64 y6.lo))]], [], [.agg [.p (pi y7.Num), .p (pi y7.Den)], .one (.p (pi y8))], [], True, fun _ => ok_ratio_fitted (!((decide (a.Num < (0 : Int))) == (decide (b.Num < (0 : Int))))) y5 y6 (y7, y8) h_7, []⟩]) 18 (⟨65, mkS [(4, .x (.one (.ptr 104 0))), (5, .x (.one (.p (pi y8))))], mkH [(104, .var [.p (pi y7.Num), .p (pi y7.Den)])]⟩) (by kernel_rfl) (by kernel_rfl) ?_
    refine lok_ret ?_
    obtain rfl := Option.some.inj H0
    try simp only [thenL, blockL]
    exact fin_au _ (.inr rfl) [] (⟨65, mkS [(4, .x (.one (.ptr 104 0))), (5, .x (.one (.p (pi y8))))], mkH [(104, .var [.p (pi y7.Num), .p (pi y7.Den)])]⟩) rfl rfl imp_au
theorem ok_ref01_Product (a : Int) (b : Int) (r_ : ref01_Wide) (H0 : ref01_Product a b = some r_) : CallOK Try.prog 72 [.one (.p (.val (.int .u64 a))), .one (.p (.val (.int .u64 b)))] [] [.agg [.p (.val (.int .u64 r_.Hi)), .p (.val (.int .u64 r_.Lo))]] [] := by
  refine callOK (n := 16) (rs := [.cell 4 63]) (nb := 0) (V := []) Try.func72 rfl (by kernel_rfl) rfl rfl rfl rfl (Nat.le_of_ble_eq_true rfl) (by decide) ?_
  unfold ref01_Product at H0
  refine lok_rt E0 (⟨16, mkS [(0, .x (.one (.p (.val (.int .u64 a))))), (1, .x (.one (.p (.val (.int .u64 b))))), (4, .x (.one (.ptr 104 0)))], mkH [(104, .var [.p (.val (.int .u64 (0 : Int))), .p (.val (.int .u64 (0 : Int)))])]⟩) ?_
  replace H0 := bind_some H0
  obtain ⟨⟨y, y1⟩, h_0, H0⟩ := H0
  try dsimp only at H0
  refine lok_rt (Env.of E0 [⟨some 10, 85, [.one (.p (.val (.int .u64 a))), .one (.p (.val (.int .u64 b)))], [], [.one (.p (.val (.int .u64 y))), .one (.p (.val (.int .u64 y1)))], [], True, fun _ => ok_bits_Mul64 a b (y, y1) h_0, []⟩]) (⟨16, mkS [(4, .x (.one (.ptr 104 0))), (5, .x (.one (.p (.val (.int .u64 y))))), (6, .x (.one (.p (.val (.int .u64 y1)))))], mkH [(104, .var [.p (.val (.int .u64 (0 : Int))), .p (.val (.int .u64 (0 : Int)))])]⟩) ?_
  refine lok_rt E0 (⟨16, mkS [(4, .x (.one (.ptr 104 0)))], mkH [(104, .var [.p (.val (.int .u64 y)), .p (.val (.int .u64 y1))])]⟩) ?_
  refine lok_ret ?_
  obtain rfl := Option.some.inj H0
  try simp only [thenL, blockL]
  exact fin_au _ (.inr rfl) [] (⟨16, mkS [(4, .x (.one (.ptr 104 0)))], mkH [(104, .var [.p (.val (.int .u64 y)), .p (.val (.int .u64 y1))])]⟩) rfl rfl imp_au
theorem ok_ref01_Mul (a : api_Ratio) (b : api_Ratio) (r_ : api_Ratio × Int) (H0 : ref01_Mul a b = some r_) : CallOK Try.prog 35 [.agg [.p (pi a.Num), .p (pi a.Den)], .agg [.p (pi b.Num), .p (pi b.Den)]] [] [.agg [.p (pi r_.1.Num), .p (pi r_.1.Den)], .one (.p (pi r_.2))] [] := by
  refine callOK (n := 39) (rs := [.cell 4 35, .tmp 5]) (nb := 0) (V := []) Try.func35 rfl (by kernel_rfl) rfl rfl rfl rfl (Nat.le_of_ble_eq_true rfl) (by decide) ?_
  unfold ref01_Mul at H0
  refine lok_rt E0 (⟨39, mkS [(2, .x (.one (.ptr 102 0))), (3, .x (.one (.ptr 103 0))), (4, .x (.one (.ptr 104 0)))], mkH [(102, .var [.p (pi a.Num), .p (pi a.Den)]), (103, .var [.p (pi b.Num), .p (pi b.Den)]), (104, .var [.p (pi (0 : Int)), .p (pi (0 : Int))])]⟩) ?_
  refine lok_seq ?_
  replace H0 := bind_some H0
  obtain ⟨y, h_0, H0⟩ := H0
  replace H0 := req_some H0
  obtain ⟨q_9, H0⟩ := H0
  refine lok_rt (Env.of E0 [⟨some 7, 24, [.agg [.p (pi a.Num), .p (pi a.Den)]], [], [.one (.p (.val (.bool y)))], [], True, fun _ => ok_ref01_Valid a y h_0, []⟩,
      ⟨some 11, 24, [.agg [.p (pi b.Num), .p (pi b.Den)]], [], [.one (.p (.val (.bool ((ref01_Valid b).getD default))))], [], (ref01_Valid b).isSome = true, fun h => ok_ref01_Valid b _ (isSome_get h), []⟩]) (⟨39, mkS [(2, .x (.one (.ptr 102 0))), (3, .x (.one (.ptr 103 0))), (4, .x (.one (.ptr 104 0))), (13, .x (.one (.p (.val (.bool ((!y) || (!((ref01_Valid b).getD default))))))))], mkH [(102, .var [.p (pi a.Num), .p (pi a.Den)]), (103, .var [.p (pi b.Num), .p (pi b.Den)]), (104, .var [.p (pi (0 : Int)), .p (pi (0 : Int))])]⟩) ?_
  refine lok_c ((!y) || (!((ref01_Valid b).getD default))) ?_ ?_
  · intro b_8
    replace H0 := cpos H0 b_8
    refine lok_rt E0 (⟨39, mkS [(4, .x (.one (.ptr 104 0))), (5, .x (.one (.p (pi (1 : Int)))))], mkH [(104, .var [.p (pi (0 : Int)), .p (pi (0 : Int))])]⟩) ?_
    refine lok_ret ?_
    obtain rfl := Option.some.inj H0
    try simp only [thenL, blockL]
    exact fin_au _ (.inr rfl) [] (⟨39, mkS [(4, .x (.one (.ptr 104 0))), (5, .x (.one (.p (pi (1 : Int)))))], mkH [(104, .var [.p (pi (0 : Int)), .p (pi (0 : Int))])]⟩) rfl rfl imp_au
  · intro b_8
    replace H0 := cneg H0 b_8
    refine lok_skip ?_
    try simp only [thenL, blockL, ↓reduceIte, reduceCtorEq]
    replace H0 := bind_some H0
    obtain ⟨y1, h_1, H0⟩ := H0
    replace H0 := bind_some H0
    obtain ⟨y2, h_2, H0⟩ := H0
    replace H0 := bind_some H0
    obtain ⟨y3, h_3, H0⟩ := H0
    replace H0 := bind_some H0
    obtain ⟨y4, h_4, H0⟩ := H0
    replace H0 := bind_some H0
    obtain ⟨y5, h_5, H0⟩ := H0
    replace H0 := bind_some H0
    obtain ⟨y6, h_6, H0⟩ := H0
    replace H0 := bind_some H0
    obtain ⟨⟨y7, y8⟩, h_7, H0⟩ := H0
    try dsimp only at H0
    refine lok_dt (Env.of E0 [⟨some 24, 59, [.one (.p (pi a.Num))], [], [.one (.p (.val (.int .u64 y1)))], [], True, fun _ => ok_ref01_Size a.Num y1 h_1, []⟩,
      ⟨some 27, 59, [.one (.p (pi b.Num))], [], [.one (.p (.val (.int .u64 y2)))], [], True, fun _ => ok_ref01_Size b.Num y2 h_2, []⟩,
      ⟨some 28, 72, [.one (.p (.val (.int .u64 y1))), .one (.p (.val (.int .u64 y2)))], [], [.agg [.p (.val (.int .u64 y3.Hi)), .p (.val (.int .u64 y3.Lo))]], [], True, fun _ => ok_ref01_Product y1 y2 y3 h_3, []⟩,
      ⟨some 31, 59, [.one (.p (pi a.Den))], [], [.one (.p (.val (.int .u64 y4)))], [], True, fun _ => ok_ref01_Size a.Den y4 h_4, []⟩,
      ⟨some 34, 59, [.one (.p (pi b.Den))], [], [.one (.p (.val (.int .u64 y5)))], [], True, fun _ => ok_ref01_Size b.Den y5 h_5, []⟩,
      ⟨some 35, 72, [.one (.p (.val (.int .u64 y4))), .one (.p (.val (.int .u64 y5)))], [], [.agg [.p (.val (.int .u64 y6.Hi)), .p (.val (.int .u64 y6.Lo))]], [], True, fun _ => ok_ref01_Product y4 y5 y6 h_6, []⟩,
      ⟨some 36, 58, [.one (.p (.val (.bool (!((decide (a.Num < (0 : Int))) == (decide (b.Num < (0 : Int)))))))), .agg [.p (.val (.int .u64 y3.Hi)), .p (.val (.int .u64 y3.Lo))], .agg [.p (.val (.int .u64 y6.Hi)), .p (.val (.int .u64 y6.Lo))]], [], [.agg [.p (pi y7.Num), .p (pi y7.Den)], .one (.p (pi y8))], [], True, fun _ => ok_ref01_Reduce (!((decide (a.Num < (0 : Int))) == (decide (b.Num < (0 : Int))))) y3 y6 (y7, y8) h_7, []⟩]) 24 (⟨39, mkS [(4, .x (.one (.ptr 104 0))), (5, .x (.one (.p (pi y8))))], mkH [(104, .var [.p (pi y7.Num), .p (pi y7.Den)])]⟩) (by kernel_rfl) (by kernel_rfl) ?_
    refine lok_ret ?_
    obtain rfl := Option.some.inj H0
    try simp only [thenL, blockL]
    exact fin_au _ (.inr rfl) [] (⟨39, mkS [(4, .x (.one (.ptr 104 0))), (5, .x (.one (.p (pi y8))))], mkH [(104, .var [.p (pi y7.Num), .p (pi y7.Den)])]⟩) rfl rfl imp_au
theorem ok_ratio_Div (a : api_Ratio) (b : api_Ratio) (r_ : api_Ratio × Int) (H0 : ratio_Div a b = some r_) : CallOK Try.prog 36 [.agg [.p (pi a.Num), .p (pi a.Den)], .agg [.p (pi b.Num), .p (pi b.Den)]] [] [.agg [.p (pi r_.1.Num), .p (pi r_.1.Den)], .one (.p (pi r_.2))] [] := by
  refine callOK (n := 40) (rs := [.cell 4 35, .tmp 5]) (nb := 0) (V := []) Try.func36 rfl (by kernel_rfl) rfl rfl rfl rfl (Nat.le_of_ble_eq_true rfl) (by decide) ?_
  unfold ratio_Div at H0
  refine lok_rt E0 (⟨40, mkS [(2, .x (.one (.ptr 102 0))), (3, .x (.one (.ptr 103 0))), (4, .x (.one (.ptr 104 0)))], mkH [(102, .var [.p (pi a.Num), .p (pi a.Den)]), (103, .var [.p (pi b.Num), .p (pi b.Den)]), (104, .var [.p (pi (0 : Int)), .p (pi (0 : Int))])]⟩) ?_
  refine lok_seq ?_
  replace H0 := bind_some H0
  obtain ⟨y, h_0, H0⟩ := H0
  replace H0 := req_some H0
  obtain ⟨q_5, H0⟩ := H0
  refine lok_rt (Env.of E0 [⟨some 8, 23, [.agg [.p (pi a.Num), .p (pi a.Den)]], [], [.one (.p (.val (.bool y)))], [], True, fun _ => ok_ratio_Valid a y h_0, []⟩,
      ⟨some 12, 23, [.agg [.p (pi b.Num), .p (pi b.Den)]], [], [.one (.p (.val (.bool ((ratio_Valid b).getD default))))], [], (ratio_Valid b).isSome = true, fun h => ok_ratio_Valid b _ (isSome_get h), []⟩]) (⟨40, mkS [(2, .x (.one (.ptr 102 0))), (3, .x (.one (.ptr 103 0))), (4, .x (.one (.ptr 104 0))), (14, .x (.one (.p (.val (.bool ((!y) || (!((ratio_Valid b).getD default))))))))], mkH [(102, .var [.p (pi a.Num), .p (pi a.Den)]), (103, .var [.p (pi b.Num), .p (pi b.Den)]), (104, .var [.p (pi (0 : Int)), .p (pi (0 : Int))])]⟩) ?_
  refine lok_c ((!y) || (!((ratio_Valid b).getD default))) ?_ ?_
  · intro b_4
    replace H0 := cpos H0 b_4
    refine lok_rt E0 (⟨40, mkS [(4, .x (.one (.ptr 104 0))), (5, .x (.one (.p (pi (1 : Int)))))], mkH [(104, .var [.p (pi (0 : Int)), .p (pi (0 : Int))])]⟩) ?_
    refine lok_ret ?_
    obtain rfl := Option.some.inj H0
    try simp only [thenL, blockL]
    exact fin_au _ (.inr rfl) [] (⟨40, mkS [(4, .x (.one (.ptr 104 0))), (5, .x (.one (.p (pi (1 : Int)))))], mkH [(104, .var [.p (pi (0 : Int)), .p (pi (0 : Int))])]⟩) rfl rfl imp_au
  · intro b_4
    replace H0 := cneg H0 b_4
    refine lok_skip ?_
    try simp only [thenL, blockL, ↓reduceIte, reduceCtorEq]
    refine lok_seq ?_
    refine lok_rt E0 (⟨40, mkS [(2, .x (.one (.ptr 102 0))), (3, .x (.one (.ptr 103 0))), (4, .x (.one (.ptr 104 0))), (18, .x (.one (.p (.val (.bool (b.Num == (0 : Int)))))))], mkH [(102, .var [.p (pi a.Num), .p (pi a.Den)]), (103, .var [.p (pi b.Num), .p (pi b.Den)]), (104, .var [.p (pi (0 : Int)), .p (pi (0 : Int))])]⟩) ?_
    refine lok_c (b.Num == (0 : Int)) ?_ ?_
    · intro b_3
      replace H0 := cpos H0 b_3
      refine lok_rt E0 (⟨40, mkS [(4, .x (.one (.ptr 104 0))), (5, .x (.one (.p (pi (2 : Int)))))], mkH [(104, .var [.p (pi (0 : Int)), .p (pi (0 : Int))])]⟩) ?_
      refine lok_ret ?_
      obtain rfl := Option.some.inj H0
      try simp only [thenL, blockL]
      exact fin_au _ (.inr rfl) [] (⟨40, mkS [(4, .x (.one (.ptr 104 0))), (5, .x (.one (.p (pi (2 : Int)))))], mkH [(104, .var [.p (pi (0 : Int)), .p (pi (0 : Int))])]⟩) rfl rfl imp_au
    · intro b_3
      replace H0 := cneg H0 b_3
      refine lok_skip ?_
      try simp only [thenL, blockL, ↓reduceIte, reduceCtorEq]
      refine lok_rt E0 (⟨40, mkS [(2, .x (.one (.ptr 102 0))), (3, .x (.one (.ptr 103 0))), (4, .x (.one (.ptr 104 0))), (6, .x (.one (.ptr 106 0)))], mkH [(102, .var [.p (pi a.Num), .p (pi a.Den)]), (103, .var [.p (pi b.Num), .p (pi b.Den)]), (104, .var [.p (pi (0 : Int)), .p (pi (0 : Int))]), (106, .var [.p (pi b.Den), .p (pi b.Num)])]⟩) ?_
      refine lok_join (fun x_ : Int × Int => ratio_Div_j1 a x_.1 x_.2 = some r_) (fun x_ => ⟨40, mkS [(2, .x (.one (.ptr 102 0))), (4, .x (.one (.ptr 104 0))), (6, .x (.one (.ptr 106 0)))], mkH [(102, .var [.p (pi a.Num), .p (pi a.Den)]), (104, .var [.p (pi (0 : Int)), .p (pi (0 : Int))]), (106, .var [.p (pi x_.1), .p (pi x_.2)])]⟩) ?hyratio_Div_j1 ?hxratio_Div_j1
      case hyratio_Div_j1 =>
        rintro ⟨inverse, inverse1⟩ H0
        try dsimp only at H0 ⊢
        unfold ratio_Div_j1 at H0
        replace H0 := bind_some H0
        obtain ⟨⟨y1, y2⟩, h_1, H0⟩ := H0
        try dsimp only at H0
        refine lok_rt (Env.of E0 [⟨some 37, 34, [.agg [.p (pi a.Num), .p (pi a.Den)], .agg [.p (pi inverse), .p (pi inverse1)]], [], [.agg [.p (pi y1.Num), .p (pi y1.Den)], .one (.p (pi y2))], [], True, fun _ => ok_ratio_Mul a (api_Ratio.mk inverse inverse1) (y1, y2) h_1, []⟩]) (⟨40, mkS [(4, .x (.one (.ptr 104 0))), (5, .x (.one (.p (pi y2))))], mkH [(104, .var [.p (pi y1.Num), .p (pi y1.Den)])]⟩) ?_
        refine lok_ret ?_
        obtain rfl := Option.some.inj H0
        try simp only [thenL, blockL]
        exact fin_au _ (.inr rfl) [] (⟨40, mkS [(4, .x (.one (.ptr 104 0))), (5, .x (.one (.p (pi y2))))], mkH [(104, .var [.p (pi y1.Num), .p (pi y1.Den)])]⟩) rfl rfl imp_au
      case hxratio_Div_j1 =>
        refine lok_rt E0 (⟨40, mkS [(2, .x (.one (.ptr 102 0))), (3, .x (.one (.ptr 103 0))), (4, .x (.one (.ptr 104 0))), (6, .x (.one (.ptr 106 0))), (27, .x (.one (.p (.val (.bool (decide (b.Num < (0 : Int))))))))], mkH [(102, .var [.p (pi a.Num), .p (pi a.Den)]), (103, .var [.p (pi b.Num), .p (pi b.Den)]), (104, .var [.p (pi (0 : Int)), .p (pi (0 : Int))]), (106, .var [.p (pi b.Den), .p (pi b.Num)])]⟩) ?_
        refine lok_c (decide (b.Num < (0 : Int))) ?_ ?_
        · intro b_2
          replace H0 := cpos H0 b_2
          refine lok_rl E0 (⟨40, mkS [(2, .x (.one (.ptr 102 0))), (4, .x (.one (.ptr 104 0))), (6, .x (.one (.ptr 106 0)))], mkH [(102, .var [.p (pi a.Num), .p (pi a.Den)]), (104, .var [.p (pi (0 : Int)), .p (pi (0 : Int))]), (106, .var [.p (pi (IntKind.i64.wrap (0 - b.Den))), .p (pi (IntKind.i64.wrap (0 - b.Num)))])]⟩) ?_
          try simp only [thenL, blockL, ↓reduceIte, reduceCtorEq]
          exact ⟨((IntKind.i64.wrap (0 - b.Den)), (IntKind.i64.wrap (0 - b.Num))), H0, imp_au⟩
        · intro b_2
          replace H0 := cneg H0 b_2
          refine lok_skip ?_
          try simp only [thenL, blockL, ↓reduceIte, reduceCtorEq]
          exact ⟨(b.Den, b.Num), H0, imp_au⟩
theorem ok_ref01_Div (a : api_Ratio) (b : api_Ratio) (r_ : api_Ratio × Int) (H0 : ref01_Div a b = some r_) : CallOK Try.prog 37 [.agg [.p (pi a.Num), .p (pi a.Den)], .agg [.p (pi b.Num), .p (pi b.Den)]] [] [.agg [.p (pi r_.1.Num), .p (pi r_.1.Den)], .one (.p (pi r_.2))] [] := by
  refine callOK (n := 43) (rs := [.cell 4 35, .tmp 5]) (nb := 0) (V := []) Try.func37 rfl (by kernel_rfl) rfl rfl rfl rfl (Nat.le_of_ble_eq_true rfl) (by decide) ?_
  unfold ref01_Div at H0
  refine lok_rt E0 (⟨43, mkS [(2, .x (.one (.ptr 102 0))), (3, .x (.one (.ptr 103 0))), (4, .x (.one (.ptr 104 0)))], mkH [(102, .var [.p (pi a.Num), .p (pi a.Den)]), (103, .var [.p (pi b.Num), .p (pi b.Den)]), (104, .var [.p (pi (0 : Int)), .p (pi (0 : Int))])]⟩) ?_
  refine lok_seq ?_
  replace H0 := bind_some H0
  obtain ⟨y, h_0, H0⟩ := H0
  replace H0 := req_some H0
  obtain ⟨q_10, H0⟩ := H0
  refine lok_rt (Env.of E0 [⟨some 7, 24, [.agg [.p (pi a.Num), .p (pi a.Den)]], [], [.one (.p (.val (.bool y)))], [], True, fun _ => ok_ref01_Valid a y h_0, []⟩,
      ⟨some 11, 24, [.agg [.p (pi b.Num), .p (pi b.Den)]], [], [.one (.p (.val (.bool ((ref01_Valid b).getD default))))], [], (ref01_Valid b).isSome = true, fun h => ok_ref01_Valid b _ (isSome_get h), []⟩]) (⟨43, mkS [(2, .x (.one (.ptr 102 0))), (3, .x (.one (.ptr 103 0))), (4, .x (.one (.ptr 104 0))), (13, .x (.one (.p (.val (.bool ((!y) || (!((ref01_Valid b).getD default))))))))], mkH [(102, .var [.p (pi a.Num), .p (pi a.Den)]), (103, .var [.p (pi b.Num), .p (pi b.Den)]), (104, .var [.p (pi (0 : Int)), .p (pi (0 : Int))])]⟩) ?_
  refine lok_c ((!y) || (!((ref01_Valid b).getD default))) ?_ ?_
  · intro b_9
    replace H0 := cpos H0 b_9
    refine lok_rt E0 (⟨43, mkS [(4, .x (.one (.ptr 104 0))), (5, .x (.one (.p (pi (1 : Int)))))], mkH [(104, .var [.p (pi (0 : Int)), .p (pi (0 : Int))])]⟩) ?_
    refine lok_ret ?_
    obtain rfl := Option.some.inj H0
    try simp only [thenL, blockL]
    exact fin_au _ (.inr rfl) [] (⟨43, mkS [(4, .x (.one (.ptr 104 0))), (5, .x (.one (.p (pi (1 : Int)))))], mkH [(104, .var [.p (pi (0 : Int)), .p (pi (0 : Int))])]⟩) rfl rfl imp_au
  · intro b_9
    replace H0 := cneg H0 b_9
    refine lok_skip ?_
    try simp only [thenL, blockL, ↓reduceIte, reduceCtorEq]
    refine lok_seq ?_
    refine lok_rt E0 (⟨43, mkS [(2, .x (.one (.ptr 102 0))), (3, .x (.one (.ptr 103 0))), (4, .x (.one (.ptr 104 0))), (17, .x (.one (.p (.val (.bool (b.Num == (0 : Int)))))))], mkH [(102, .var [.p (pi a.Num), .p (pi a.Den)]), (103, .var [.p (pi b.Num), .p (pi b.Den)]), (104, .var [.p (pi (0 : Int)), .p (pi (0 : Int))])]⟩) ?_
    refine lok_c (b.Num == (0 : Int)) ?_ ?_
    · intro b_8
      replace H0 := cpos H0 b_8
      refine lok_rt E0 (⟨43, mkS [(4, .x (.one (.ptr 104 0))), (5, .x (.one (.p (pi (2 : Int)))))], mkH [(104, .var [.p (pi (0 : Int)), .p (pi (0 : Int))])]⟩) ?_
      refine lok_ret ?_
      obtain rfl := Option.some.inj H0
      try simp only [thenL, blockL]
      exact fin_au _ (.inr rfl) [] (⟨43, mkS [(4, .x (.one (.ptr 104 0))), (5, .x (.one (.p (pi (2 : Int)))))], mkH [(104, .var [.p (pi (0 : Int)), .p (pi (0 : Int))])]⟩) rfl rfl imp_au
    · intro b_8
      replace H0 := cneg H0 b_8
      refine lok_skip ?_
      try simp only [thenL, blockL, ↓reduceIte, reduceCtorEq]
      replace H0 := bind_some H0
      obtain ⟨y1, h_1, H0⟩ := H0
      replace H0 := bind_some H0
      obtain ⟨y2, h_2, H0⟩ := H0
      replace H0 := bind_some H0
      obtain ⟨y3, h_3, H0⟩ := H0
      replace H0 := bind_some H0
      obtain ⟨y4, h_4, H0⟩ := H0
      replace H0 := bind_some H0
      obtain ⟨y5, h_5, H0⟩ := H0
      replace H0 := bind_some H0
      obtain ⟨y6, h_6, H0⟩ := H0
      replace H0 := bind_some H0
      obtain ⟨⟨y7, y8⟩, h_7, H0⟩ := H0
      try dsimp only at H0
      refine lok_dt (Env.of E0 [⟨some 28, 59, [.one (.p (pi a.Num))], [], [.one (.p (.val (.int .u64 y1)))], [], True, fun _ => ok_ref01_Size a.Num y1 h_1, []⟩,
      ⟨some 31, 59, [.one (.p (pi b.Den))], [], [.one (.p (.val (.int .u64 y2)))], [], True, fun _ => ok_ref01_Size b.Den y2 h_2, []⟩,
      ⟨some 32, 72, [.one (.p (.val (.int .u64 y1))), .one (.p (.val (.int .u64 y2)))], [], [.agg [.p (.val (.int .u64 y3.Hi)), .p (.val (.int .u64 y3.Lo))]], [], True, fun _ => ok_ref01_Product y1 y2 y3 h_3, []⟩,
      ⟨some 35, 59, [.one (.p (pi a.Den))], [], [.one (.p (.val (.int .u64 y4)))], [], True, fun _ => ok_ref01_Size a.Den y4 h_4, []⟩,
      ⟨some 38, 59, [.one (.p (pi b.Num))], [], [.one (.p (.val (.int .u64 y5)))], [], True, fun _ => ok_ref01_Size b.Num y5 h_5, []⟩,
      ⟨some 39, 72, [.one (.p (.val (.int .u64 y4))), .one (.p (.val (.int .u64 y5)))], [], [.agg [.p (.val (.int .u64 y6.Hi)), .p (.val (.int .u64 y6.Lo))]], [], True, fun _ => ok_ref01_Product y4 y5 y6 h_6, []⟩,
      ⟨some 40, 58, [.one (.p (.val (.bool (!((decide (a.Num < (0 : Int))) == (decide (b.Num < (0 : Int)))))))), .agg [.p (.val (.int .u64 y3.Hi)), .p (.val (.int .u64 y3.Lo))], .agg [.p (.val (.int .u64 y6.Hi)), .p (.val (.int .u64 y6.Lo))]], [], [.agg [.p (pi y7.Num), .p (pi y7.Den)], .one (.p (pi y8))], [], True, fun _ => ok_ref01_Reduce (!((decide (a.Num < (0 : Int))) == (decide (b.Num < (0 : Int))))) y3 y6 (y7, y8) h_7, []⟩]) 24 (⟨43, mkS [(4, .x (.one (.ptr 104 0))), (5, .x (.one (.p (pi y8))))], mkH [(104, .var [.p (pi y7.Num), .p (pi y7.Den)])]⟩) (by kernel_rfl) (by kernel_rfl) ?_
      refine lok_ret ?_
      obtain rfl := Option.some.inj H0
      try simp only [thenL, blockL]
      exact fin_au _ (.inr rfl) [] (⟨43, mkS [(4, .x (.one (.ptr 104 0))), (5, .x (.one (.p (pi y8))))], mkH [(104, .var [.p (pi y7.Num), .p (pi y7.Den)])]⟩) rfl rfl imp_au
theorem ok_law01_RatioMultiplies (t : List Int) (r_ : Bool) (H0 : law01_RatioMultiplies t = some r_) : CallOK Try.prog 8 [.one (.p (.sl 1 (List.map encI t)))] [] [.one (.p (.val (.bool r_)))] [] := by
  refine callOK (n := 65) (rs := [.tmp 2]) (nb := 0) (V := []) Try.func8 rfl (by kernel_rfl) rfl rfl rfl rfl (Nat.le_of_ble_eq_true rfl) (by decide) ?_
  unfold law01_RatioMultiplies at H0
  refine lok_rt E0 (⟨65, mkS [(0, .x (.one (.p (.sl 1 (List.map encI t)))))], mkH []⟩) ?_
  replace H0 := bind_some H0
  obtain ⟨y, h_0, H0⟩ := H0
  refine lok_rt (Env.of E0 [⟨some 15, 18, [.one (.p (.sl 1 (List.map encI t)))], [], [.one (.ptr 0 0)], [some (.var [.p (.sl 1 (List.map encI y.L)), .p (pi y.At)])], True, fun _ => ok_make_New t y h_0, []⟩]) (⟨65, mkS [(3, .x (.one (.ptr 1015 0)))], mkH [(1015, .var [.p (.sl 1 (List.map encI y.L)), .p (pi y.At)])]⟩) ?_
  replace H0 := bind_some H0
  obtain ⟨⟨y1, y2⟩, h_1, H0⟩ := H0
  try dsimp only at H0
  replace H0 := bind_some H0
  obtain ⟨⟨y3, y4⟩, h_2, H0⟩ := H0
  try dsimp only at H0
  refine lok_rt (Env.of E0 [⟨some 17, 25, [.one (.ptr 0 0)], [.var [.p (.sl 1 (List.map encI y.L)), .p (pi y.At)]], [.agg [.p (pi y1.Num), .p (pi y1.Den)]], [some (.var [.p (.sl 1 (List.map encI y2.L)), .p (pi y2.At)])], True, fun _ => ok_make_Tape_Loose y (y1, y2) h_1, []⟩,
      ⟨some 19, 25, [.one (.ptr 0 0)], [.var [.p (.sl 1 (List.map encI y2.L)), .p (pi y2.At)]], [.agg [.p (pi y3.Num), .p (pi y3.Den)]], [some (.var [.p (.sl 1 (List.map encI y4.L)), .p (pi y4.At)])], True, fun _ => ok_make_Tape_Loose y2 (y3, y4) h_2, []⟩]) (⟨65, mkS [(4, .x (.one (.ptr 104 0))), (5, .x (.one (.ptr 105 0)))], mkH [(104, .var [.p (pi y1.Num), .p (pi y1.Den)]), (105, .var [.p (pi y3.Num), .p (pi y3.Den)])]⟩) ?_
  replace H0 := bind_some H0
  obtain ⟨⟨y5, y6⟩, h_3, H0⟩ := H0
  try dsimp only at H0
  refine lok_rt (Env.of E0 [⟨some 23, 34, [.agg [.p (pi y1.Num), .p (pi y1.Den)], .agg [.p (pi y3.Num), .p (pi y3.Den)]], [], [.agg [.p (pi y5.Num), .p (pi y5.Den)], .one (.p (pi y6))], [], True, fun _ => ok_ratio_Mul y1 y3 (y5, y6) h_3, []⟩]) (⟨65, mkS [(4, .x (.one (.ptr 104 0))), (5, .x (.one (.ptr 105 0))), (6, .x (.one (.ptr 106 0))), (7, .x (.one (.p (pi y6))))], mkH [(104, .var [.p (pi y1.Num), .p (pi y1.Den)]), (105, .var [.p (pi y3.Num), .p (pi y3.Den)]), (106, .var [.p (pi y5.Num), .p (pi y5.Den)])]⟩) ?_
  replace H0 := bind_some H0
  obtain ⟨⟨y7, y8⟩, h_4, H0⟩ := H0
  try dsimp only at H0
  refine lok_rt (Env.of E0 [⟨some 29, 35, [.agg [.p (pi y1.Num), .p (pi y1.Den)], .agg [.p (pi y3.Num), .p (pi y3.Den)]], [], [.agg [.p (pi y7.Num), .p (pi y7.Den)], .one (.p (pi y8))], [], True, fun _ => ok_ref01_Mul y1 y3 (y7, y8) h_4, []⟩]) (⟨65, mkS [(4, .x (.one (.ptr 104 0))), (5, .x (.one (.ptr 105 0))), (6, .x (.one (.ptr 106 0))), (7, .x (.one (.p (pi y6)))), (8, .x (.one (.ptr 108 0))), (9, .x (.one (.p (pi y8))))], mkH [(104, .var [.p (pi y1.Num), .p (pi y1.Den)]), (105, .var [.p (pi y3.Num), .p (pi y3.Den)]), (106, .var [.p (pi y5.Num), .p (pi y5.Den)]), (108, .var [.p (pi y7.Num), .p (pi y7.Den)])]⟩) ?_
  replace H0 := bind_some H0
  obtain ⟨⟨y9, y10⟩, h_5, H0⟩ := H0
  try dsimp only at H0
  refine lok_rt (Env.of E0 [⟨some 35, 36, [.agg [.p (pi y1.Num), .p (pi y1.Den)], .agg [.p (pi y3.Num), .p (pi y3.Den)]], [], [.agg [.p (pi y9.Num), .p (pi y9.Den)], .one (.p (pi y10))], [], True, fun _ => ok_ratio_Div y1 y3 (y9, y10) h_5, []⟩]) (⟨65, mkS [(4, .x (.one (.ptr 104 0))), (5, .x (.one (.ptr 105 0))), (6, .x (.one (.ptr 106 0))), (7, .x (.one (.p (pi y6)))), (8, .x (.one (.ptr 108 0))), (9, .x (.one (.p (pi y8)))), (10, .x (.one (.ptr 110 0))), (11, .x (.one (.p (pi y10))))], mkH [(104, .var [.p (pi y1.Num), .p (pi y1.Den)]), (105, .var [.p (pi y3.Num), .p (pi y3.Den)]), (106, .var [.p (pi y5.Num), .p (pi y5.Den)]), (108, .var [.p (pi y7.Num), .p (pi y7.Den)]), (110, .var [.p (pi y9.Num), .p (pi y9.Den)])]⟩) ?_
  replace H0 := bind_some H0
  obtain ⟨⟨y11, y12⟩, h_6, H0⟩ := H0
  try dsimp only at H0
  refine lok_rt (Env.of E0 [⟨some 41, 37, [.agg [.p (pi y1.Num), .p (pi y1.Den)], .agg [.p (pi y3.Num), .p (pi y3.Den)]], [], [.agg [.p (pi y11.Num), .p (pi y11.Den)], .one (.p (pi y12))], [], True, fun _ => ok_ref01_Div y1 y3 (y11, y12) h_6, []⟩]) (⟨65, mkS [(6, .x (.one (.ptr 106 0))), (7, .x (.one (.p (pi y6)))), (8, .x (.one (.ptr 108 0))), (9, .x (.one (.p (pi y8)))), (10, .x (.one (.ptr 110 0))), (11, .x (.one (.p (pi y10)))), (12, .x (.one (.ptr 112 0))), (13, .x (.one (.p (pi y12))))], mkH [(106, .var [.p (pi y5.Num), .p (pi y5.Den)]), (108, .var [.p (pi y7.Num), .p (pi y7.Den)]), (110, .var [.p (pi y9.Num), .p (pi y9.Den)]), (112, .var [.p (pi y11.Num), .p (pi y11.Den)])]⟩) ?_
  replace H0 := req_some H0
  obtain ⟨q_7, H0⟩ := H0
  refine lok_rt (Env.of E0 [⟨some 63, 17, [], [], [.one (.p (.val (.bool ((law01_awake).getD default))))], [], (law01_awake).isSome = true, fun h => ok_law01_awake _ (isSome_get h), []⟩]) (⟨65, mkS [(2, .x (.one (.p (.val (.bool ((((((y5.Num == y7.Num) && (y5.Den == y7.Den)) && (y6 == y8)) && ((y9.Num == y11.Num) && (y9.Den == y11.Den))) && (y10 == y12)) && ((law01_awake).getD default)))))))], mkH []⟩) ?_
  refine lok_ret ?_
  obtain rfl := Option.some.inj H0
  try simp only [thenL, blockL]
  exact fin_au _ (.inr rfl) [] (⟨65, mkS [(2, .x (.one (.p (.val (.bool ((((((y5.Num == y7.Num) && (y5.Den == y7.Den)) && (y6 == y8)) && ((y9.Num == y11.Num) && (y9.Den == y11.Den))) && (y10 == y12)) && ((law01_awake).getD default)))))))], mkH []⟩) rfl rfl imp_au
theorem ok_ratio_signedProduct (num : Int) (factor : Int) (r_ : ratio_signed) (H0 : ratio_signedProduct num factor = some r_) : CallOK Try.prog 73 [.one (.p (pi num)), .one (.p (.val (.int .u64 factor)))] [] [.agg [.p (.val (.bool r_.neg)), .p (.val (.int .u64 r_.abs.hi)), .p (.val (.int .u64 r_.abs.lo))]] [] := by
  refine callOK (n := 12) (rs := [.cell 4 60]) (nb := 0) (V := []) Try.func73 rfl (by kernel_rfl) rfl rfl rfl rfl (Nat.le_of_ble_eq_true rfl) (by decide) ?_
  unfold ratio_signedProduct at H0
  refine lok_rt E0 (⟨12, mkS [(0, .x (.one (.p (pi num)))), (1, .x (.one (.p (.val (.int .u64 factor))))), (4, .x (.one (.ptr 104 0)))], mkH [(104, .var [.p (.val (.bool false)), .p (.val (.int .u64 (0 : Int))), .p (.val (.int .u64 (0 : Int)))])]⟩) ?_
  replace H0 := bind_some H0
  obtain ⟨y, h_0, H0⟩ := H0
  replace H0 := bind_some H0
  obtain ⟨y1, h_1, H0⟩ := H0
  refine lok_rt (Env.of E0 [⟨some 8, 57, [.one (.p (pi num))], [], [.one (.p (.val (.int .u64 y)))], [], True, fun _ => ok_ratio_magnitude num y h_0, []⟩,
      ⟨some 10, 71, [.one (.p (.val (.int .u64 y))), .one (.p (.val (.int .u64 factor)))], [], [.agg [.p (.val (.int .u64 y1.hi)), .p (.val (.int .u64 y1.lo))]], [], True, fun _ => ok_ratio_product y factor y1 h_1, []⟩]) (⟨12, mkS [(4, .x (.one (.ptr 104 0)))], mkH [(104, .var [.p (.val (.bool (decide (num < (0 : Int))))), .p (.val (.int .u64 y1.hi)), .p (.val (.int .u64 y1.lo))])]⟩) ?_
  refine lok_ret ?_
  obtain rfl := Option.some.inj H0
  try simp only [thenL, blockL]
  exact fin_au _ (.inr rfl) [] (⟨12, mkS [(4, .x (.one (.ptr 104 0)))], mkH [(104, .var [.p (.val (.bool (decide (num < (0 : Int))))), .p (.val (.int .u64 y1.hi)), .p (.val (.int .u64 y1.lo))])]⟩) rfl rfl imp_au
theorem ok_cmp_isNaN_uint64 (x : Int) (r_ : Bool) (H0 : cmp_isNaN_uint64 x = some r_) : CallOK Try.prog 98 [.one (.p (.val (.int .u64 x)))] [] [.one (.p (.val (.bool r_)))] [] := by
  refine callOK (n := 6) (rs := [.tmp 2]) (nb := 0) (V := []) Try.func98 rfl (by kernel_rfl) rfl rfl rfl rfl (Nat.le_of_ble_eq_true rfl) (by decide) ?_
  unfold cmp_isNaN_uint64 at H0
  refine lok_rt E0 (⟨6, mkS [(0, .x (.one (.p (.val (.int .u64 x)))))], mkH []⟩) ?_
  refine lok_rt E0 (⟨6, mkS [(2, .x (.one (.p (.val (.bool (x != x))))))], mkH []⟩) ?_
  refine lok_ret ?_
  obtain rfl := Option.some.inj H0
  try simp only [thenL, blockL]
  exact fin_au _ (.inr rfl) [] (⟨6, mkS [(2, .x (.one (.p (.val (.bool (x != x))))))], mkH []⟩) rfl rfl imp_au
theorem ok_cmp_Compare_uint64 (x : Int) (y : Int) (r_ : Int) (H0 : cmp_Compare_uint64 x y = some r_) : CallOK Try.prog 86 [.one (.p (.val (.int .u64 x))), .one (.p (.val (.int .u64 y)))] [] [.one (.p (pi r_))] [] := by
  refine callOK (n := 20) (rs := [.tmp 4]) (nb := 0) (V := []) Try.func86 rfl (by kernel_rfl) rfl rfl rfl rfl (Nat.le_of_ble_eq_true rfl) (by decide) ?_
  unfold cmp_Compare_uint64 at H0
  refine lok_rt E0 (⟨20, mkS [(0, .x (.one (.p (.val (.int .u64 x))))), (1, .x (.one (.p (.val (.int .u64 y)))))], mkH []⟩) ?_
  replace H0 := bind_some H0
  obtain ⟨y1, h_0, H0⟩ := H0
  refine lok_rt (Env.of E0 [⟨some 8, 98, [.one (.p (.val (.int .u64 x)))], [], [.one (.p (.val (.bool y1)))], [], True, fun _ => ok_cmp_isNaN_uint64 x y1 h_0, []⟩]) (⟨20, mkS [(0, .x (.one (.p (.val (.int .u64 x))))), (1, .x (.one (.p (.val (.int .u64 y))))), (5, .x (.one (.p (.val (.bool y1)))))], mkH []⟩) ?_
  replace H0 := bind_some H0
  obtain ⟨y2, h_1, H0⟩ := H0
  refine lok_rt (Env.of E0 [⟨some 10, 98, [.one (.p (.val (.int .u64 y)))], [], [.one (.p (.val (.bool y2)))], [], True, fun _ => ok_cmp_isNaN_uint64 y y2 h_1, []⟩]) (⟨20, mkS [(0, .x (.one (.p (.val (.int .u64 x))))), (1, .x (.one (.p (.val (.int .u64 y))))), (5, .x (.one (.p (.val (.bool y1))))), (6, .x (.one (.p (.val (.bool y2)))))], mkH []⟩) ?_
  refine lok_seq ?_
  refine lok_rt E0 (⟨20, mkS [(0, .x (.one (.p (.val (.int .u64 x))))), (1, .x (.one (.p (.val (.int .u64 y))))), (6, .x (.one (.p (.val (.bool y2))))), (11, .x (.one (.p (.val (.bool y1)))))], mkH []⟩) ?_
  refine lok_c y1 ?_ ?_
  · intro b_6
    replace H0 := cpos H0 b_6
    refine lok_seq ?_
    refine lok_rt E0 (⟨20, mkS [(12, .x (.one (.p (.val (.bool y2)))))], mkH []⟩) ?_
    refine lok_c y2 ?_ ?_
    · intro b_2
      replace H0 := cpos H0 b_2
      refine lok_rt E0 (⟨20, mkS [(4, .x (.one (.p (pi (0 : Int)))))], mkH []⟩) ?_
      refine lok_ret ?_
      obtain rfl := Option.some.inj H0
      try simp only [thenL, blockL]
      exact fin_au _ (.inr rfl) [] (⟨20, mkS [(4, .x (.one (.p (pi (0 : Int)))))], mkH []⟩) rfl rfl imp_au
    · intro b_2
      replace H0 := cneg H0 b_2
      refine lok_skip ?_
      try simp only [thenL, blockL, ↓reduceIte, reduceCtorEq]
      refine lok_rt E0 (⟨20, mkS [(4, .x (.one (.p (pi (-1 : Int)))))], mkH []⟩) ?_
      refine lok_ret ?_
      obtain rfl := Option.some.inj H0
      try simp only [thenL, blockL]
      exact fin_au _ (.inr rfl) [] (⟨20, mkS [(4, .x (.one (.p (pi (-1 : Int)))))], mkH []⟩) rfl rfl imp_au
  · intro b_6
    replace H0 := cneg H0 b_6
    refine lok_skip ?_
    try simp only [thenL, blockL, ↓reduceIte, reduceCtorEq]
    refine lok_seq ?_
    refine lok_rt E0 (⟨20, mkS [(0, .x (.one (.p (.val (.int .u64 x))))), (1, .x (.one (.p (.val (.int .u64 y))))), (13, .x (.one (.p (.val (.bool y2)))))], mkH []⟩) ?_
    refine lok_c y2 ?_ ?_
    · intro b_5
      replace H0 := cpos H0 b_5
      refine lok_rt E0 (⟨20, mkS [(4, .x (.one (.p (pi (1 : Int)))))], mkH []⟩) ?_
      refine lok_ret ?_
      obtain rfl := Option.some.inj H0
      try simp only [thenL, blockL]
      exact fin_au _ (.inr rfl) [] (⟨20, mkS [(4, .x (.one (.p (pi (1 : Int)))))], mkH []⟩) rfl rfl imp_au
    · intro b_5
      replace H0 := cneg H0 b_5
      refine lok_skip ?_
      try simp only [thenL, blockL, ↓reduceIte, reduceCtorEq]
      refine lok_seq ?_
      refine lok_rt E0 (⟨20, mkS [(0, .x (.one (.p (.val (.int .u64 x))))), (1, .x (.one (.p (.val (.int .u64 y))))), (16, .x (.one (.p (.val (.bool (decide (x < y)))))))], mkH []⟩) ?_
      refine lok_c (decide (x < y)) ?_ ?_
      · intro b_4
        replace H0 := cpos H0 b_4
        refine lok_rt E0 (⟨20, mkS [(4, .x (.one (.p (pi (-1 : Int)))))], mkH []⟩) ?_
        refine lok_ret ?_
        obtain rfl := Option.some.inj H0
        try simp only [thenL, blockL]
        exact fin_au _ (.inr rfl) [] (⟨20, mkS [(4, .x (.one (.p (pi (-1 : Int)))))], mkH []⟩) rfl rfl imp_au
      · intro b_4
        replace H0 := cneg H0 b_4
        refine lok_skip ?_
        try simp only [thenL, blockL, ↓reduceIte, reduceCtorEq]
        refine lok_seq ?_
        refine lok_rt E0 (⟨20, mkS [(19, .x (.one (.p (.val (.bool (decide (y < x)))))))], mkH []⟩) ?_
        refine lok_c (decide (y < x)) ?_ ?_
        · intro b_3
          replace H0 := cpos H0 b_3
          refine lok_rt E0 (⟨20, mkS [(4, .x (.one (.p (pi (1 : Int)))))], mkH []⟩) ?_
          refine lok_ret ?_
          obtain rfl := Option.some.inj H0
          try simp only [thenL, blockL]
          exact fin_au _ (.inr rfl) [] (⟨20, mkS [(4, .x (.one (.p (pi (1 : Int)))))], mkH []⟩) rfl rfl imp_au
        · intro b_3
          replace H0 := cneg H0 b_3
          refine lok_skip ?_
          try simp only [thenL, blockL, ↓reduceIte, reduceCtorEq]
          refine lok_rt E0 (⟨20, mkS [(4, .x (.one (.p (pi (0 : Int)))))], mkH []⟩) ?_
          refine lok_ret ?_
          obtain rfl := Option.some.inj H0
          try simp only [thenL, blockL]
          exact fin_au _ (.inr rfl) [] (⟨20, mkS [(4, .x (.one (.p (pi (0 : Int)))))], mkH []⟩) rfl rfl imp_au
theorem ok_ratio_wide_compare (a : ratio_wide) (b : ratio_wide) (r_ : Int) (H0 : ratio_wide_compare a b = some r_) : CallOK Try.prog 74 [.agg [.p (.val (.int .u64 a.hi)), .p (.val (.int .u64 a.lo))], .agg [.p (.val (.int .u64 b.hi)), .p (.val (.int .u64 b.lo))]] [] [.one (.p (pi r_))] [] := by
  refine callOK (n := 19) (rs := [.tmp 4]) (nb := 0) (V := []) Try.func74 rfl (by kernel_rfl) rfl rfl rfl rfl (Nat.le_of_ble_eq_true rfl) (by decide) ?_
  unfold ratio_wide_compare at H0
  refine lok_rt E0 (⟨19, mkS [(2, .x (.one (.ptr 102 0))), (3, .x (.one (.ptr 103 0)))], mkH [(102, .var [.p (.val (.int .u64 a.hi)), .p (.val (.int .u64 a.lo))]), (103, .var [.p (.val (.int .u64 b.hi)), .p (.val (.int .u64 b.lo))])]⟩) ?_
  refine lok_seq ?_
  replace H0 := bind_some H0
  obtain ⟨y, h_0, H0⟩ := H0
  refine lok_rt (Env.of E0 [⟨some 10, 86, [.one (.p (.val (.int .u64 a.hi))), .one (.p (.val (.int .u64 b.hi)))], [], [.one (.p (pi y))], [], True, fun _ => ok_cmp_Compare_uint64 a.hi b.hi y h_0, []⟩]) (⟨19, mkS [(2, .x (.one (.ptr 102 0))), (3, .x (.one (.ptr 103 0))), (5, .x (.one (.p (pi y))))], mkH [(102, .var [.p (.val (.int .u64 a.hi)), .p (.val (.int .u64 a.lo))]), (103, .var [.p (.val (.int .u64 b.hi)), .p (.val (.int .u64 b.lo))])]⟩) ?_
  refine lok_rt E0 (⟨19, mkS [(2, .x (.one (.ptr 102 0))), (3, .x (.one (.ptr 103 0))), (5, .x (.one (.p (pi y)))), (12, .x (.one (.p (.val (.bool (y != (0 : Int)))))))], mkH [(102, .var [.p (.val (.int .u64 a.hi)), .p (.val (.int .u64 a.lo))]), (103, .var [.p (.val (.int .u64 b.hi)), .p (.val (.int .u64 b.lo))])]⟩) ?_
  refine lok_c (y != (0 : Int)) ?_ ?_
  · intro b_2
    replace H0 := cpos H0 b_2
    refine lok_rt E0 (⟨19, mkS [(4, .x (.one (.p (pi y))))], mkH []⟩) ?_
    refine lok_ret ?_
    obtain rfl := Option.some.inj H0
    try simp only [thenL, blockL]
    exact fin_au _ (.inr rfl) [] (⟨19, mkS [(4, .x (.one (.p (pi y))))], mkH []⟩) rfl rfl imp_au
  · intro b_2
    replace H0 := cneg H0 b_2
    refine lok_skip ?_
    try simp only [thenL, blockL, ↓reduceIte, reduceCtorEq]
    replace H0 := bind_some H0
    obtain ⟨y1, h_1, H0⟩ := H0
    refine lok_rt (Env.of E0 [⟨some 18, 86, [.one (.p (.val (.int .u64 a.lo))), .one (.p (.val (.int .u64 b.lo)))], [], [.one (.p (pi y1))], [], True, fun _ => ok_cmp_Compare_uint64 a.lo b.lo y1 h_1, []⟩]) (⟨19, mkS [(4, .x (.one (.p (pi y1))))], mkH []⟩) ?_
    refine lok_ret ?_
    obtain rfl := Option.some.inj H0
    try simp only [thenL, blockL]
    exact fin_au _ (.inr rfl) [] (⟨19, mkS [(4, .x (.one (.p (pi y1))))], mkH []⟩) rfl rfl imp_au
end Go.LS
