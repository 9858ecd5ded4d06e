/-
  The walks: the functions compute what the plain ones say. Condition: the plain function has a value.
-/
import Derived.Test.YtdhhopobephbnaaK0
import Derived.Test.YtdhhopobephbnaaD1
namespace Go.LS
open Go.Proofs
set_option linter.all false
set_option linter.unusedSimpArgs false
set_option linter.unusedVariables false
set_option maxRecDepth 20000

theorem ok_make_New (l : List Int) (r_ : make_Tape) (H0 : make_New l = some r_) : CallOK Try.prog 12 [.one (.p (.sl 1 (List.map encI l)))] [] [.one (.ptr 0 0)] [some (.var [.p (.sl 1 (List.map encI r_.L)), .p (pi r_.At)])] := by
  refine callOK (n := 11) (rs := [.tmp 2]) (nb := 0) (V := []) Try.func12 rfl (by kernel_rfl) rfl rfl rfl rfl (Nat.le_of_ble_eq_true rfl) rfl (by decide) ?_
  unfold make_New at H0
  refine lok_rt E0 (⟨11, mkS [(0, .x (.one (.p (.sl 1 (List.map encI l)))))], mkH []⟩) ?_
  refine lok_join (fun x_ : (List Int) => make_New_j1 x_ = some r_) (fun x_ => ⟨11, mkS [(0, .x (.one (.p (.sl 1 (List.map encI x_)))))], mkH []⟩) ?hymake_New_j1 ?hxmake_New_j1
  case hymake_New_j1 =>
    rintro l1 H0
    try dsimp only at H0 ⊢
    unfold make_New_j1 at H0
    refine lok_rt E0 (⟨11, mkS [(2, .x (.one (.ptr 110 0)))], mkH [(110, .var [.p (.sl 1 (List.map encI l1)), .p (pi (0 : Int))])]⟩) ?_
    refine lok_ret ?_
    obtain rfl := Option.some.inj H0
    try simp only [thenL, blockL]
    exact fin_nu [110] _ (.inr rfl) [110] (⟨11, mkS [(2, .x (.one (.ptr 110 0)))], mkH [(110, .var [.p (.sl 1 (List.map encI l1)), .p (pi (0 : Int))])]⟩) rfl rfl imp_au
  case hxmake_New_j1 =>
    refine lok_rt E0 (⟨11, mkS [(0, .x (.one (.p (.sl 1 (List.map encI l))))), (5, .x (.one (.p (.val (.bool (decide ((600 : Int) < (l.length : Int))))))))], mkH []⟩) ?_
    refine lok_c (decide ((600 : Int) < (l.length : Int))) ?_ ?_
    · intro b_1
      replace H0 := cpos H0 b_1
      replace H0 := req_some H0
      obtain ⟨q_0, H0⟩ := H0
      refine lok_rl E0 (⟨11, mkS [(0, .x (.one (.p (.sl 1 (List.map encI (List.take (600 : Int).toNat l))))))], mkH []⟩) ?_
      try simp only [thenL, blockL, ↓reduceIte, reduceCtorEq]
      exact ⟨(List.take (600 : Int).toNat l), H0, imp_au⟩
    · intro b_1
      replace H0 := cneg H0 b_1
      refine lok_skip ?_
      try simp only [thenL, blockL, ↓reduceIte, reduceCtorEq]
      exact ⟨l, H0, imp_au⟩
theorem ok_make_Cut (x : Int) (n : Int) (r_ : Int) (H0 : make_Cut x n = some r_) : CallOK Try.prog 17 [.one (.p (pi x)), .one (.p (pi n))] [] [.one (.p (pi r_))] [] := by
  refine callOK (n := 16) (rs := [.tmp 4]) (nb := 0) (V := []) Try.func17 rfl (by kernel_rfl) rfl rfl rfl rfl (Nat.le_of_ble_eq_true rfl) rfl (by decide) ?_
  unfold make_Cut at H0
  refine lok_rt E0 (⟨16, mkS [(0, .x (.one (.p (pi x)))), (1, .x (.one (.p (pi n))))], mkH []⟩) ?_
  refine lok_seq ?_
  refine lok_rt E0 (⟨16, mkS [(0, .x (.one (.p (pi x)))), (1, .x (.one (.p (pi n)))), (6, .x (.one (.p (.val (.bool (decide (n < (1 : Int))))))))], mkH []⟩) ?_
  refine lok_c (decide (n < (1 : Int))) ?_ ?_
  · intro b_2
    replace H0 := cpos H0 b_2
    refine lok_rt E0 (⟨16, mkS [(4, .x (.one (.p (pi (0 : Int)))))], mkH []⟩) ?_
    refine lok_ret ?_
    obtain rfl := Option.some.inj H0
    try simp only [thenL, blockL]
    exact fin_au _ (.inr rfl) [] (⟨16, mkS [(4, .x (.one (.p (pi (0 : Int)))))], mkH []⟩) rfl rfl imp_au
  · intro b_2
    replace H0 := cneg H0 b_2
    refine lok_skip ?_
    try simp only [thenL, blockL, ↓reduceIte, reduceCtorEq]
    replace H0 := req_some H0
    obtain ⟨q_1, H0⟩ := H0
    refine lok_rt E0 (⟨16, mkS [(0, .x (.one (.p (pi (Int.tmod x n))))), (1, .x (.one (.p (pi n))))], mkH []⟩) ?_
    refine lok_join (fun x_ : Int => make_Cut_j1 x_ = some r_) (fun x_ => ⟨16, mkS [(0, .x (.one (.p (pi x_))))], mkH []⟩) ?hymake_Cut_j1 ?hxmake_Cut_j1
    case hymake_Cut_j1 =>
      rintro x1 H0
      try dsimp only at H0 ⊢
      unfold make_Cut_j1 at H0
      refine lok_rt E0 (⟨16, mkS [(4, .x (.one (.p (pi x1))))], mkH []⟩) ?_
      refine lok_ret ?_
      obtain rfl := Option.some.inj H0
      try simp only [thenL, blockL]
      exact fin_au _ (.inr rfl) [] (⟨16, mkS [(4, .x (.one (.p (pi x1))))], mkH []⟩) rfl rfl imp_au
    case hxmake_Cut_j1 =>
      refine lok_rt E0 (⟨16, mkS [(0, .x (.one (.p (pi (Int.tmod x n))))), (1, .x (.one (.p (pi n)))), (11, .x (.one (.p (.val (.bool (decide ((Int.tmod x n) < (0 : Int))))))))], mkH []⟩) ?_
      refine lok_c (decide ((Int.tmod x n) < (0 : Int))) ?_ ?_
      · intro b_0
        replace H0 := cpos H0 b_0
        refine lok_rl E0 (⟨16, mkS [(0, .x (.one (.p (pi (IntKind.i64.wrap ((Int.tmod x n) + n))))))], mkH []⟩) ?_
        try simp only [thenL, blockL, ↓reduceIte, reduceCtorEq]
        exact ⟨(IntKind.i64.wrap ((Int.tmod x n) + n)), H0, imp_au⟩
      · intro b_0
        replace H0 := cneg H0 b_0
        refine lok_skip ?_
        try simp only [thenL, blockL, ↓reduceIte, reduceCtorEq]
        exact ⟨(Int.tmod x n), H0, imp_au⟩
theorem ok_make_Tape_Raw (t : make_Tape) (r_ : Int × make_Tape) (H0 : make_Tape_Raw t = some r_) : CallOK Try.prog 46 [.one (.ptr 0 0)] [.var [.p (.sl 1 (List.map encI t.L)), .p (pi t.At)]] [.one (.p (pi r_.1))] [some (.var [.p (.sl 1 (List.map encI r_.2.L)), .p (pi r_.2.At)])] := by
  refine callOK (n := 31) (rs := [.tmp 2]) (nb := 1) (V := [0]) Try.func46 rfl (by kernel_rfl) rfl rfl rfl rfl (Nat.le_of_ble_eq_true rfl) rfl (by decide) ?_
  unfold make_Tape_Raw at H0
  refine lok_rt E0 (⟨31, mkS [(0, .x (.one (.ptr 0 0)))], mkH [(0, .var [.p (.sl 1 (List.map encI t.L)), .p (pi t.At)])]⟩) ?_
  refine lok_seq ?_
  refine lok_dt E0 9 (⟨31, mkS [(0, .x (.one (.ptr 0 0))), (12, .x (.one (.p (.val (.bool (decide ((t.L.length : Int) ≤ t.At)))))))], mkH [(0, .var [.p (.sl 1 (List.map encI t.L)), .p (pi t.At)])]⟩) (by kernel_rfl) (by kernel_rfl) ?_
  refine lok_c (decide ((t.L.length : Int) ≤ t.At)) ?_ ?_
  · intro b_2
    replace H0 := cpos H0 b_2
    refine lok_rt E0 (⟨31, mkS [(2, .x (.one (.p (pi (0 : Int)))))], mkH [(0, .var [.p (.sl 1 (List.map encI t.L)), .p (pi t.At)])]⟩) ?_
    refine lok_ret ?_
    obtain rfl := Option.some.inj H0
    try simp only [thenL, blockL]
    exact fin_au _ (.inr rfl) [0] (⟨31, mkS [(2, .x (.one (.p (pi (0 : Int)))))], mkH [(0, .var [.p (.sl 1 (List.map encI t.L)), .p (pi t.At)])]⟩) rfl rfl imp_au
  · intro b_2
    replace H0 := cneg H0 b_2
    refine lok_skip ?_
    try simp only [thenL, blockL, ↓reduceIte, reduceCtorEq]
    refine lok_rt E0 (⟨31, mkS [(0, .x (.one (.ptr 0 0)))], mkH [(0, .var [.p (.sl 1 (List.map encI t.L)), .p (pi (IntKind.i64.wrap (t.At + (1 : Int))))])]⟩) ?_
    replace H0 := req_some H0
    obtain ⟨q_1, H0⟩ := H0
    replace H0 := bindV_some H0
    obtain ⟨v, a_0, H0⟩ := H0
    refine lok_dtg E0 9 a_0 (⟨31, mkS [(2, .x (.one (.p (pi v))))], mkH [(0, .var [.p (.sl 1 (List.map encI t.L)), .p (pi (IntKind.i64.wrap (t.At + (1 : Int))))])]⟩) (by kernel_rfl) (by kernel_rfl) ?_
    refine lok_ret ?_
    obtain rfl := Option.some.inj H0
    try simp only [thenL, blockL]
    exact fin_au _ (.inr rfl) [0] (⟨31, mkS [(2, .x (.one (.p (pi v))))], mkH [(0, .var [.p (.sl 1 (List.map encI t.L)), .p (pi (IntKind.i64.wrap (t.At + (1 : Int))))])]⟩) rfl rfl imp_au
theorem ok_make_Tape_Next (t : make_Tape) (n : Int) (r_ : Int × make_Tape) (H0 : make_Tape_Next t n = some r_) : CallOK Try.prog 35 [.one (.ptr 0 0), .one (.p (pi n))] [.var [.p (.sl 1 (List.map encI t.L)), .p (pi t.At)]] [.one (.p (pi r_.1))] [some (.var [.p (.sl 1 (List.map encI r_.2.L)), .p (pi r_.2.At)])] := by
  refine callOK (n := 9) (rs := [.tmp 4]) (nb := 1) (V := [0]) Try.func35 rfl (by kernel_rfl) rfl rfl rfl rfl (Nat.le_of_ble_eq_true rfl) rfl (by decide) ?_
  unfold make_Tape_Next at H0
  refine lok_rt E0 (⟨9, mkS [(0, .x (.one (.ptr 0 0))), (1, .x (.one (.p (pi n))))], mkH [(0, .var [.p (.sl 1 (List.map encI t.L)), .p (pi t.At)])]⟩) ?_
  replace H0 := bind_some H0
  obtain ⟨⟨y, y1⟩, h_0, H0⟩ := H0
  try dsimp only at H0
  replace H0 := bind_some H0
  obtain ⟨y2, h_1, H0⟩ := H0
  refine lok_rt (Env.of E0 [⟨some 6, 46, [.one (.ptr 0 0)], [.var [.p (.sl 1 (List.map encI t.L)), .p (pi t.At)]], [.one (.p (pi y))], [some (.var [.p (.sl 1 (List.map encI y1.L)), .p (pi y1.At)])], True, fun _ => ok_make_Tape_Raw t (y, y1) h_0⟩,
      ⟨some 8, 17, [.one (.p (pi y)), .one (.p (pi n))], [], [.one (.p (pi y2))], [], True, fun _ => ok_make_Cut y n y2 h_1⟩]) (⟨9, mkS [(4, .x (.one (.p (pi y2))))], mkH [(0, .var [.p (.sl 1 (List.map encI y1.L)), .p (pi y1.At)])]⟩) ?_
  refine lok_ret ?_
  obtain rfl := Option.some.inj H0
  try simp only [thenL, blockL]
  exact fin_au _ (.inr rfl) [0] (⟨9, mkS [(4, .x (.one (.p (pi y2))))], mkH [(0, .var [.p (.sl 1 (List.map encI y1.L)), .p (pi y1.At)])]⟩) rfl rfl imp_au
theorem ok_make_Tape_Range (t : make_Tape) (low : Int) (high : Int) (r_ : Int × make_Tape) (H0 : make_Tape_Range t low high = some r_) : CallOK Try.prog 24 [.one (.ptr 0 0), .one (.p (pi low)), .one (.p (pi high))] [.var [.p (.sl 1 (List.map encI t.L)), .p (pi t.At)]] [.one (.p (pi r_.1))] [some (.var [.p (.sl 1 (List.map encI r_.2.L)), .p (pi r_.2.At)])] := by
  refine callOK (n := 15) (rs := [.tmp 6]) (nb := 1) (V := [0]) Try.func24 rfl (by kernel_rfl) rfl rfl rfl rfl (Nat.le_of_ble_eq_true rfl) rfl (by decide) ?_
  unfold make_Tape_Range at H0
  refine lok_rt E0 (⟨15, mkS [(0, .x (.one (.ptr 0 0))), (1, .x (.one (.p (pi low)))), (2, .x (.one (.p (pi high))))], mkH [(0, .var [.p (.sl 1 (List.map encI t.L)), .p (pi t.At)])]⟩) ?_
  replace H0 := bind_some H0
  obtain ⟨⟨y, y1⟩, h_0, H0⟩ := H0
  try dsimp only at H0
  refine lok_rt (Env.of E0 [⟨some 13, 35, [.one (.ptr 0 0), .one (.p (pi (IntKind.i64.wrap ((IntKind.i64.wrap (high - low)) + (1 : Int)))))], [.var [.p (.sl 1 (List.map encI t.L)), .p (pi t.At)]], [.one (.p (pi y))], [some (.var [.p (.sl 1 (List.map encI y1.L)), .p (pi y1.At)])], True, fun _ => ok_make_Tape_Next t (IntKind.i64.wrap ((IntKind.i64.wrap (high - low)) + (1 : Int))) (y, y1) h_0⟩]) (⟨15, mkS [(6, .x (.one (.p (pi (IntKind.i64.wrap (low + y))))))], mkH [(0, .var [.p (.sl 1 (List.map encI y1.L)), .p (pi y1.At)])]⟩) ?_
  refine lok_ret ?_
  obtain rfl := Option.some.inj H0
  try simp only [thenL, blockL]
  exact fin_au _ (.inr rfl) [0] (⟨15, mkS [(6, .x (.one (.p (pi (IntKind.i64.wrap (low + y))))))], mkH [(0, .var [.p (.sl 1 (List.map encI y1.L)), .p (pi y1.At)])]⟩) rfl rfl imp_au
theorem ok_make_Tape_Pick (t : make_Tape) (l : List Int) (r_ : Int × make_Tape) (H0 : make_Tape_Pick t l = some r_) : CallOK Try.prog 36 [.one (.ptr 0 0), .one (.p (.sl 1 (List.map encI l)))] [.var [.p (.sl 1 (List.map encI t.L)), .p (pi t.At)]] [.one (.p (pi r_.1))] [some (.var [.p (.sl 1 (List.map encI r_.2.L)), .p (pi r_.2.At)])] := by
  refine callOK (n := 12) (rs := [.tmp 4]) (nb := 1) (V := [0]) Try.func36 rfl (by kernel_rfl) rfl rfl rfl rfl (Nat.le_of_ble_eq_true rfl) rfl (by decide) ?_
  unfold make_Tape_Pick at H0
  refine lok_rt E0 (⟨12, mkS [(0, .x (.one (.ptr 0 0))), (1, .x (.one (.p (.sl 1 (List.map encI l)))))], mkH [(0, .var [.p (.sl 1 (List.map encI t.L)), .p (pi t.At)])]⟩) ?_
  replace H0 := bind_some H0
  obtain ⟨⟨y, y1⟩, h_0, H0⟩ := H0
  try dsimp only at H0
  replace H0 := req_some H0
  obtain ⟨q_1, H0⟩ := H0
  refine lok_rt (Env.of E0 [⟨some 9, 35, [.one (.ptr 0 0), .one (.p (pi (l.length : Int)))], [.var [.p (.sl 1 (List.map encI t.L)), .p (pi t.At)]], [.one (.p (pi y))], [some (.var [.p (.sl 1 (List.map encI y1.L)), .p (pi y1.At)])], True, fun _ => ok_make_Tape_Next t (l.length : Int) (y, y1) h_0⟩]) (⟨12, mkS [(4, .x (.one (.p (pi (ix l y)))))], mkH [(0, .var [.p (.sl 1 (List.map encI y1.L)), .p (pi y1.At)])]⟩) ?_
  refine lok_ret ?_
  obtain rfl := Option.some.inj H0
  try simp only [thenL, blockL]
  exact fin_au _ (.inr rfl) [0] (⟨12, mkS [(4, .x (.one (.p (pi (ix l y)))))], mkH [(0, .var [.p (.sl 1 (List.map encI y1.L)), .p (pi y1.At)])]⟩) rfl rfl imp_au
theorem ok_make_Tape_One (t : make_Tape) (n : Int) (r_ : Bool × make_Tape) (H0 : make_Tape_One t n = some r_) : CallOK Try.prog 37 [.one (.ptr 0 0), .one (.p (pi n))] [.var [.p (.sl 1 (List.map encI t.L)), .p (pi t.At)]] [.one (.p (.val (.bool r_.1)))] [some (.var [.p (.sl 1 (List.map encI r_.2.L)), .p (pi r_.2.At)])] := by
  refine callOK (n := 11) (rs := [.tmp 4]) (nb := 1) (V := [0]) Try.func37 rfl (by kernel_rfl) rfl rfl rfl rfl (Nat.le_of_ble_eq_true rfl) rfl (by decide) ?_
  unfold make_Tape_One at H0
  refine lok_rt E0 (⟨11, mkS [(0, .x (.one (.ptr 0 0))), (1, .x (.one (.p (pi n))))], mkH [(0, .var [.p (.sl 1 (List.map encI t.L)), .p (pi t.At)])]⟩) ?_
  replace H0 := bind_some H0
  obtain ⟨⟨y, y1⟩, h_0, H0⟩ := H0
  try dsimp only at H0
  refine lok_rt (Env.of E0 [⟨some 7, 35, [.one (.ptr 0 0), .one (.p (pi n))], [.var [.p (.sl 1 (List.map encI t.L)), .p (pi t.At)]], [.one (.p (pi y))], [some (.var [.p (.sl 1 (List.map encI y1.L)), .p (pi y1.At)])], True, fun _ => ok_make_Tape_Next t n (y, y1) h_0⟩]) (⟨11, mkS [(4, .x (.one (.p (.val (.bool (y == (IntKind.i64.wrap (n - (1 : Int)))))))))], mkH [(0, .var [.p (.sl 1 (List.map encI y1.L)), .p (pi y1.At)])]⟩) ?_
  refine lok_ret ?_
  obtain rfl := Option.some.inj H0
  try simp only [thenL, blockL]
  exact fin_au _ (.inr rfl) [0] (⟨11, mkS [(4, .x (.one (.p (.val (.bool (y == (IntKind.i64.wrap (n - (1 : Int)))))))))], mkH [(0, .var [.p (.sl 1 (List.map encI y1.L)), .p (pi y1.At)])]⟩) rfl rfl imp_au
theorem ok_make_Tape_Rules (t : make_Tape) (n : Int) (r_ : (List api_AccessRule) × make_Tape) (H0 : make_Tape_Rules t n = some r_) : CallOK Try.prog 13 [.one (.ptr 0 0), .one (.p (pi n))] [.var [.p (.sl 1 (List.map encI t.L)), .p (pi t.At)]] [.one (.p (.sl 4 (List.map enc_api_AccessRule r_.1)))] [some (.var [.p (.sl 1 (List.map encI r_.2.L)), .p (pi r_.2.At)])] := by
  refine callOK (n := 51) (rs := [.tmp 4]) (nb := 1) (V := [0]) Try.func13 rfl (by kernel_rfl) rfl rfl rfl rfl (Nat.le_of_ble_eq_true rfl) rfl (by decide) ?_
  unfold make_Tape_Rules at H0
  refine lok_rt E0 (⟨51, mkS [(0, .x (.one (.ptr 0 0))), (1, .x (.one (.p (pi n))))], mkH [(0, .var [.p (.sl 1 (List.map encI t.L)), .p (pi t.At)])]⟩) ?_
  refine lok_rt E0 (⟨51, mkS [(0, .x (.one (.ptr 0 0))), (1, .x (.one (.p (pi n)))), (5, .x (.one (.vw 105)))], mkH [(0, .var [.p (.sl 1 (List.map encI t.L)), .p (pi t.At)]), (105, .arr 4 (List.map enc_api_AccessRule ([] : List api_AccessRule)))]⟩) ?_
  refine lok_join (fun x_ : (List Int) × Int × (List api_AccessRule) => make_Tape_Rules_j2 n x_.1 x_.2.1 x_.2.2 = some r_) (fun x_ => ⟨51, mkS [(0, .x (.one (.ptr 0 0))), (1, .x (.one (.p (pi n)))), (5, .x (.one (.vw 105)))], mkH [(0, .var [.p (.sl 1 (List.map encI x_.1)), .p (pi x_.2.1)]), (105, .arr 4 (List.map enc_api_AccessRule x_.2.2))]⟩) ?hymake_Tape_Rules_j2 ?hxmake_Tape_Rules_j2
  case hymake_Tape_Rules_j2 =>
    rintro ⟨t1, t2, out⟩ H0
    try dsimp only at H0 ⊢
    unfold make_Tape_Rules_j2 at H0
    refine lok_join (fun x_ : (List Int) × Int × (List api_AccessRule) => make_Tape_Rules_j1 x_.1 x_.2.1 x_.2.2 = some r_) (fun x_ => ⟨51, mkS [(5, .x (.one (.vw 105)))], mkH [(0, .var [.p (.sl 1 (List.map encI x_.1)), .p (pi x_.2.1)]), (105, .arr 4 (List.map enc_api_AccessRule x_.2.2))]⟩) ?hymake_Tape_Rules_j1 ?hxmake_Tape_Rules_j1
    case hymake_Tape_Rules_j1 =>
      rintro ⟨t3, t4, out1⟩ H0
      try dsimp only at H0 ⊢
      unfold make_Tape_Rules_j1 at H0
      refine lok_rt E0 (⟨51, mkS [(4, .x (.one (.vw 105)))], mkH [(0, .var [.p (.sl 1 (List.map encI t3)), .p (pi t4)]), (105, .arr 4 (List.map enc_api_AccessRule out1))]⟩) ?_
      refine lok_ret ?_
      obtain rfl := Option.some.inj H0
      try simp only [thenL, blockL]
      exact fin_au _ (.inr rfl) [0] (⟨51, mkS [(4, .x (.one (.p (.sl 4 (List.map enc_api_AccessRule out1)))))], mkH [(0, .var [.p (.sl 1 (List.map encI t3)), .p (pi t4)])]⟩) rfl rfl (Imp.trans (imp_frz 105 4 (List.map enc_api_AccessRule out1)) imp_au)
    case hxmake_Tape_Rules_j1 =>
      rcases bcases (decide ((0 : Int) < n)) with g_0 | g_0
      · replace H0 := cpos H0 g_0
        replace H0 := bind_some H0
        obtain ⟨⟨y, y1⟩, h_1, H0⟩ := H0
        try dsimp only at H0
        refine lok_rtg (Env.of E0 [⟨some 32, 37, [.one (.ptr 0 0), .one (.p (pi n))], [.var [.p (.sl 1 (List.map encI t1)), .p (pi t2)]], [.one (.p (.val (.bool y)))], [some (.var [.p (.sl 1 (List.map encI y1.L)), .p (pi y1.At)])], True, fun _ => ok_make_Tape_One (make_Tape.mk t1 t2) n (y, y1) h_1⟩]) g_0 (⟨51, mkS [(0, .x (.one (.ptr 0 0))), (5, .x (.one (.vw 105))), (33, .x (.one (.p (.val (.bool y)))))], mkH [(0, .var [.p (.sl 1 (List.map encI y1.L)), .p (pi y1.At)]), (105, .arr 4 (List.map enc_api_AccessRule out))]⟩) ?_
        refine lok_c y ?_ ?_
        · intro b_7
          replace H0 := cpos H0 b_7
          replace H0 := bind_some H0
          obtain ⟨⟨y2, y3⟩, h_2, H0⟩ := H0
          try dsimp only at H0
          replace H0 := bind_some H0
          obtain ⟨⟨y4, y5⟩, h_3, H0⟩ := H0
          try dsimp only at H0
          replace H0 := bind_some H0
          obtain ⟨⟨y6, y7⟩, h_4, H0⟩ := H0
          try dsimp only at H0
          replace H0 := bind_some H0
          obtain ⟨⟨y8, y9⟩, h_5, H0⟩ := H0
          try dsimp only at H0
          replace H0 := req_some H0
          obtain ⟨q_6, H0⟩ := H0
          refine lok_rl (Env.of E0 [⟨some 37, 36, [.one (.ptr 0 0), .one (.p (.sl 1 (List.map encI ([(0 : Int), (1 : Int), (9 : Int), (10 : Int)]))))], [.var [.p (.sl 1 (List.map encI y1.L)), .p (pi y1.At)]], [.one (.p (pi y2))], [some (.var [.p (.sl 1 (List.map encI y3.L)), .p (pi y3.At)])], True, fun _ => ok_make_Tape_Pick y1 ([(0 : Int), (1 : Int), (9 : Int), (10 : Int)]) (y2, y3) h_2⟩,
      ⟨some 40, 36, [.one (.ptr 0 0), .one (.p (.sl 1 (List.map encI ([(0 : Int), (1 : Int), (9 : Int), (10 : Int)]))))], [.var [.p (.sl 1 (List.map encI y3.L)), .p (pi y3.At)]], [.one (.p (pi y4))], [some (.var [.p (.sl 1 (List.map encI y5.L)), .p (pi y5.At)])], True, fun _ => ok_make_Tape_Pick y3 ([(0 : Int), (1 : Int), (9 : Int), (10 : Int)]) (y4, y5) h_3⟩,
      ⟨some 43, 36, [.one (.ptr 0 0), .one (.p (.sl 1 (List.map encI ([(-1 : Int), (0 : Int), (100 : Int), (101 : Int)]))))], [.var [.p (.sl 1 (List.map encI y5.L)), .p (pi y5.At)]], [.one (.p (pi y6))], [some (.var [.p (.sl 1 (List.map encI y7.L)), .p (pi y7.At)])], True, fun _ => ok_make_Tape_Pick y5 ([(-1 : Int), (0 : Int), (100 : Int), (101 : Int)]) (y6, y7) h_4⟩,
      ⟨some 46, 36, [.one (.ptr 0 0), .one (.p (.sl 1 (List.map encI ([(-1 : Int), (0 : Int), (63 : Int), (64 : Int)]))))], [.var [.p (.sl 1 (List.map encI y7.L)), .p (pi y7.At)]], [.one (.p (pi y8))], [some (.var [.p (.sl 1 (List.map encI y9.L)), .p (pi y9.At)])], True, fun _ => ok_make_Tape_Pick y7 ([(-1 : Int), (0 : Int), (63 : Int), (64 : Int)]) (y8, y9) h_5⟩]) (⟨51, mkS [(5, .x (.one (.vw 105)))], mkH [(0, .var [.p (.sl 1 (List.map encI y9.L)), .p (pi y9.At)]), (105, .arr 4 (List.map enc_api_AccessRule (out ++ [(api_AccessRule.mk y2 y4 y6 y8)])))]⟩) ?_
          try simp only [thenL, blockL, ↓reduceIte, reduceCtorEq]
          exact ⟨(y9.L, y9.At, (out ++ [(api_AccessRule.mk y2 y4 y6 y8)])), H0, imp_au⟩
        · intro b_7
          replace H0 := cneg H0 b_7
          refine lok_skip ?_
          try simp only [thenL, blockL, ↓reduceIte, reduceCtorEq]
          exact ⟨(y1.L, y1.At, out), H0, imp_au⟩
      · replace H0 := cneg H0 g_0
        refine lok_rtg E0 g_0 (⟨51, mkS [(0, .x (.one (.ptr 0 0))), (5, .x (.one (.vw 105))), (33, .x (.one (.p (.val (.bool false)))))], mkH [(0, .var [.p (.sl 1 (List.map encI t1)), .p (pi t2)]), (105, .arr 4 (List.map enc_api_AccessRule out))]⟩) ?_
        refine lok_c false ?_ ?_
        · intro h; exact absurd h (by decide)
        · intro _
          refine lok_skip ?_
          try simp only [thenL, blockL, ↓reduceIte, reduceCtorEq]
          exact ⟨(t1, t2, out), H0, imp_au⟩
  case hxmake_Tape_Rules_j2 =>
    replace H0 := bind_some H0
    obtain ⟨⟨y18, y19⟩, h_14, H0⟩ := H0
    try dsimp only at H0
    refine lok_rt (Env.of E0 [⟨some 8, 35, [.one (.ptr 0 0), .one (.p (pi (6 : Int)))], [.var [.p (.sl 1 (List.map encI t.L)), .p (pi t.At)]], [.one (.p (pi y18))], [some (.var [.p (.sl 1 (List.map encI y19.L)), .p (pi y19.At)])], True, fun _ => ok_make_Tape_Next t (6 : Int) (y18, y19) h_14⟩]) (⟨51, mkS [(0, .x (.one (.ptr 0 0))), (1, .x (.one (.p (pi n)))), (5, .x (.one (.vw 105))), (6, .x (.one (.p (pi y18))))], mkH [(0, .var [.p (.sl 1 (List.map encI y19.L)), .p (pi y19.At)]), (105, .arr 4 (List.map enc_api_AccessRule ([] : List api_AccessRule)))]⟩) ?_
    refine lok_block ?_
    replace H0 := bind_some H0
    obtain ⟨v_15, hv_15, H0⟩ := H0
    refine lok_iter (fun x_ => ⟨51, mkS [(0, .x (.one (.ptr 0 0))), (1, .x (.one (.p (pi n)))), (5, .x (.one (.vw 105))), (6, .x (.one (.p (pi x_.1))))], mkH [(0, .var [.p (.sl 1 (List.map encI x_.2.1)), .p (pi x_.2.2.1)]), (105, .arr 4 (List.map enc_api_AccessRule x_.2.2.2))]⟩) hv_15 imp_au ?_
    · rintro ⟨i, t5, t6, out2⟩ o_1 H1 k_1
      unfold make_Tape_Rules_l3 at H1
      try dsimp only at H1 ⊢
      refine lok_seq ?_
      refine lok_rt E0 (⟨51, mkS [(0, .x (.one (.ptr 0 0))), (1, .x (.one (.p (pi n)))), (5, .x (.one (.vw 105))), (6, .x (.one (.p (pi i)))), (10, .x (.one (.p (.val (.bool (decide ((0 : Int) < i)))))))], mkH [(0, .var [.p (.sl 1 (List.map encI t5)), .p (pi t6)]), (105, .arr 4 (List.map enc_api_AccessRule out2))]⟩) ?_
      refine lok_c (decide ((0 : Int) < i)) ?_ ?_
      · intro b_21
        replace H1 := cpos H1 b_21
        refine lok_skip ?_
        try simp only [thenL, blockL, ↓reduceIte, reduceCtorEq]
        refine lok_seq ?_
        refine lok_block ?_
        replace H1 := bind_some H1
        obtain ⟨⟨y20, y21⟩, h_16, H1⟩ := H1
        try dsimp only at H1
        replace H1 := bind_some H1
        obtain ⟨⟨y22, y23⟩, h_17, H1⟩ := H1
        try dsimp only at H1
        replace H1 := bind_some H1
        obtain ⟨⟨y24, y25⟩, h_18, H1⟩ := H1
        try dsimp only at H1
        replace H1 := bind_some H1
        obtain ⟨⟨y26, y27⟩, h_19, H1⟩ := H1
        try dsimp only at H1
        replace H1 := req_some H1
        obtain ⟨q_20, H1⟩ := H1
        refine lok_rl (Env.of E0 [⟨some 15, 24, [.one (.ptr 0 0), .one (.p (pi (1 : Int))), .one (.p (pi (3 : Int)))], [.var [.p (.sl 1 (List.map encI t5)), .p (pi t6)]], [.one (.p (pi y20))], [some (.var [.p (.sl 1 (List.map encI y21.L)), .p (pi y21.At)])], True, fun _ => ok_make_Tape_Range (make_Tape.mk t5 t6) (1 : Int) (3 : Int) (y20, y21) h_16⟩,
      ⟨some 17, 24, [.one (.ptr 0 0), .one (.p (pi (1 : Int))), .one (.p (pi (9 : Int)))], [.var [.p (.sl 1 (List.map encI y21.L)), .p (pi y21.At)]], [.one (.p (pi y22))], [some (.var [.p (.sl 1 (List.map encI y23.L)), .p (pi y23.At)])], True, fun _ => ok_make_Tape_Range y21 (1 : Int) (9 : Int) (y22, y23) h_17⟩,
      ⟨some 20, 36, [.one (.ptr 0 0), .one (.p (.sl 1 (List.map encI ([(0 : Int), (10 : Int), (25 : Int), (26 : Int), (50 : Int), (100 : Int)]))))], [.var [.p (.sl 1 (List.map encI y23.L)), .p (pi y23.At)]], [.one (.p (pi y24))], [some (.var [.p (.sl 1 (List.map encI y25.L)), .p (pi y25.At)])], True, fun _ => ok_make_Tape_Pick y23 ([(0 : Int), (10 : Int), (25 : Int), (26 : Int), (50 : Int), (100 : Int)]) (y24, y25) h_18⟩,
      ⟨some 23, 36, [.one (.ptr 0 0), .one (.p (.sl 1 (List.map encI ([(0 : Int), (2 : Int), (4 : Int), (8 : Int), (16 : Int), (32 : Int), (6 : Int), (63 : Int)]))))], [.var [.p (.sl 1 (List.map encI y25.L)), .p (pi y25.At)]], [.one (.p (pi y26))], [some (.var [.p (.sl 1 (List.map encI y27.L)), .p (pi y27.At)])], True, fun _ => ok_make_Tape_Pick y25 ([(0 : Int), (2 : Int), (4 : Int), (8 : Int), (16 : Int), (32 : Int), (6 : Int), (63 : Int)]) (y26, y27) h_19⟩]) (⟨51, mkS [(0, .x (.one (.ptr 0 0))), (1, .x (.one (.p (pi n)))), (5, .x (.one (.vw 105))), (6, .x (.one (.p (pi i))))], mkH [(0, .var [.p (.sl 1 (List.map encI y27.L)), .p (pi y27.At)]), (105, .arr 4 (List.map enc_api_AccessRule (out2 ++ [(api_AccessRule.mk y20 y22 y24 y26)])))]⟩) ?_
        try simp only [thenL, blockL, ↓reduceIte, reduceCtorEq]
        refine lok_rl E0 (⟨51, mkS [(0, .x (.one (.ptr 0 0))), (1, .x (.one (.p (pi n)))), (5, .x (.one (.vw 105))), (6, .x (.one (.p (pi (IntKind.i64.wrap (i - (1 : Int)))))))], mkH [(0, .var [.p (.sl 1 (List.map encI y27.L)), .p (pi y27.At)]), (105, .arr 4 (List.map enc_api_AccessRule (out2 ++ [(api_AccessRule.mk y20 y22 y24 y26)])))]⟩) ?_
        try simp only [thenL, blockL, ↓reduceIte, reduceCtorEq]
        exact ⟨((IntKind.i64.wrap (i - (1 : Int))), y27.L, y27.At, (out2 ++ [(api_AccessRule.mk y20 y22 y24 y26)])), (Option.some.inj H1).symm, imp_au⟩
      · intro b_21
        replace H1 := cneg H1 b_21
        refine lok_exit ?_
        try simp only [thenL, blockL, ↓reduceIte, reduceCtorEq]
        have e_1 := k_1 _ (Option.some.inj H1).symm
        subst e_1
        try dsimp only at H0
        try simp only [thenL, blockL, ↓reduceIte, reduceCtorEq]
        exact ⟨(t5, t6, out2), H0, imp_au⟩
theorem ok_access_isDegree (n : Int) (r_ : Bool) (H0 : access_isDegree n = some r_) : CallOK Try.prog 38 [.one (.p (pi n))] [] [.one (.p (.val (.bool r_)))] [] := by
  refine callOK (n := 9) (rs := [.tmp 2]) (nb := 0) (V := []) Try.func38 rfl (by kernel_rfl) rfl rfl rfl rfl (Nat.le_of_ble_eq_true rfl) rfl (by decide) ?_
  unfold access_isDegree at H0
  refine lok_rt E0 (⟨9, mkS [(0, .x (.one (.p (pi n))))], mkH []⟩) ?_
  refine lok_rt E0 (⟨9, mkS [(2, .x (.one (.p (.val (.bool ((decide ((1 : Int) ≤ n)) && (decide (n ≤ (9 : Int)))))))))], mkH []⟩) ?_
  refine lok_ret ?_
  obtain rfl := Option.some.inj H0
  try simp only [thenL, blockL]
  exact fin_au _ (.inr rfl) [] (⟨9, mkS [(2, .x (.one (.p (.val (.bool ((decide ((1 : Int) ≤ n)) && (decide (n ≤ (9 : Int)))))))))], mkH []⟩) rfl rfl imp_au
theorem ok_access_valid (a : api_Access) (r_ : Bool) (H0 : access_valid a = some r_) : CallOK Try.prog 39 [.agg [.p (pi a.Extra), .p (pi a.Needs)]] [] [.one (.p (.val (.bool r_)))] [] := by
  refine callOK (n := 21) (rs := [.tmp 2]) (nb := 0) (V := []) Try.func39 rfl (by kernel_rfl) rfl rfl rfl rfl (Nat.le_of_ble_eq_true rfl) rfl (by decide) ?_
  unfold access_valid at H0
  refine lok_rt E0 (⟨21, mkS [(1, .x (.one (.ptr 101 0)))], mkH [(101, .var [.p (pi a.Extra), .p (pi a.Needs)])]⟩) ?_
  refine lok_rt E0 (⟨21, mkS [(2, .x (.one (.p (.val (.bool ((((decide ((0 : Int) ≤ a.Extra)) && (decide (a.Extra ≤ (100 : Int)))) && (decide ((0 : Int) ≤ a.Needs))) && (decide (a.Needs ≤ (63 : Int)))))))))], mkH []⟩) ?_
  refine lok_ret ?_
  obtain rfl := Option.some.inj H0
  try simp only [thenL, blockL]
  exact fin_au _ (.inr rfl) [] (⟨21, mkS [(2, .x (.one (.p (.val (.bool ((((decide ((0 : Int) ≤ a.Extra)) && (decide (a.Extra ≤ (100 : Int)))) && (decide ((0 : Int) ≤ a.Needs))) && (decide (a.Needs ≤ (63 : Int)))))))))], mkH []⟩) rfl rfl imp_au
theorem ok_access_Check (rules : List api_AccessRule) (r_ : Int) (H0 : access_Check rules = some r_) : CallOK Try.prog 14 [.one (.p (.sl 4 (List.map enc_api_AccessRule rules)))] [] [.one (.p (pi r_))] [] := by
  refine callOK (n := 34) (rs := [.tmp 2]) (nb := 0) (V := []) Try.func14 rfl (by kernel_rfl) rfl rfl rfl rfl (Nat.le_of_ble_eq_true rfl) rfl (by decide) ?_
  unfold access_Check at H0
  refine lok_rt E0 (⟨34, mkS [(0, .x (.one (.p (.sl 4 (List.map enc_api_AccessRule rules)))))], mkH []⟩) ?_
  refine lok_seq ?_
  refine lok_rt E0 (⟨34, mkS [(0, .x (.one (.p (.sl 4 (List.map enc_api_AccessRule rules))))), (7, .x (.one (.p (.val (.bool (decide ((12 : Int) < (rules.length : Int))))))))], mkH []⟩) ?_
  refine lok_c (decide ((12 : Int) < (rules.length : Int))) ?_ ?_
  · intro b_7
    replace H0 := cpos H0 b_7
    refine lok_rt E0 (⟨34, mkS [(2, .x (.one (.p (pi (3 : Int)))))], mkH []⟩) ?_
    refine lok_ret ?_
    obtain rfl := Option.some.inj H0
    try simp only [thenL, blockL]
    exact fin_au _ (.inr rfl) [] (⟨34, mkS [(2, .x (.one (.p (pi (3 : Int)))))], mkH []⟩) rfl rfl imp_au
  · intro b_7
    replace H0 := cneg H0 b_7
    refine lok_skip ?_
    try simp only [thenL, blockL, ↓reduceIte, reduceCtorEq]
    refine lok_join (fun x_ : Unit => access_Check_j1 = some r_) (fun x_ => ⟨34, mkS [], mkH []⟩) ?hyaccess_Check_j1 ?hxaccess_Check_j1
    case hyaccess_Check_j1 =>
      rintro _ H0
      try dsimp only at H0 ⊢
      unfold access_Check_j1 at H0
      refine lok_rt E0 (⟨34, mkS [(2, .x (.one (.p (pi (0 : Int)))))], mkH []⟩) ?_
      refine lok_ret ?_
      obtain rfl := Option.some.inj H0
      try simp only [thenL, blockL]
      exact fin_au _ (.inr rfl) [] (⟨34, mkS [(2, .x (.one (.p (pi (0 : Int)))))], mkH []⟩) rfl rfl imp_au
    case hxaccess_Check_j1 =>
      refine lok_rt E0 (⟨34, mkS [(8, .x (.one (.p (.sl 4 (List.map enc_api_AccessRule rules))))), (9, .x (.one (.p (pi (rules.length : Int))))), (10, .x (.one (.p (pi (0 : Int)))))], mkH []⟩) ?_
      refine lok_block ?_
      replace H0 := bind_some H0
      obtain ⟨v_0, hv_0, H0⟩ := H0
      refine lok_iter (fun x_ => ⟨34, mkS [(8, .x (.one (.p (.sl 4 (List.map enc_api_AccessRule rules))))), (9, .x (.one (.p (pi (rules.length : Int))))), (10, .x (.one (.p (pi x_))))], mkH []⟩) hv_0 imp_au ?_
      · rintro v o_1 H1 k_1
        unfold access_Check_l2 at H1
        try dsimp only at H1 ⊢
        refine lok_rt E0 (⟨34, mkS [(8, .x (.one (.p (.sl 4 (List.map enc_api_AccessRule rules))))), (9, .x (.one (.p (pi (rules.length : Int))))), (10, .x (.one (.p (pi v)))), (11, .x (.one (.p (.val (.bool (decide (v < (rules.length : Int))))))))], mkH []⟩) ?_
        refine lok_seq ?_
        refine lok_c (decide (v < (rules.length : Int))) ?_ ?_
        · intro b_6
          replace H1 := cpos H1 b_6
          refine lok_skip ?_
          try simp only [thenL, blockL, ↓reduceIte, reduceCtorEq]
          refine lok_seq ?_
          refine lok_block ?_
          replace H1 := req_some H1
          obtain ⟨q_5, H1⟩ := H1
          refine lok_rt E0 (⟨34, mkS [(4, .x (.one (.ptr 104 0))), (8, .x (.one (.p (.sl 4 (List.map enc_api_AccessRule rules))))), (9, .x (.one (.p (pi (rules.length : Int))))), (10, .x (.one (.p (pi v))))], mkH [(104, .var [.p (pi ((ix rules v).Kind)), .p (pi ((ix rules v).Least)), .p (pi ((ix rules v).Extra)), .p (pi ((ix rules v).Needs))])]⟩) ?_
          replace H1 := bind_some H1
          obtain ⟨y, h_1, H1⟩ := H1
          replace H1 := req_some H1
          obtain ⟨⟨q_3, q_4⟩, H1⟩ := H1
          refine lok_rt (Env.of E0 [⟨some 16, 38, [.one (.p (pi ((ix rules v).Kind)))], [], [.one (.p (.val (.bool y)))], [], True, fun _ => ok_access_isDegree ((ix rules v).Kind) y h_1⟩,
      ⟨some 21, 38, [.one (.p (pi ((ix rules v).Least)))], [], [.one (.p (.val (.bool ((access_isDegree ((ix rules v).Least)).getD default))))], [], (access_isDegree ((ix rules v).Least)).isSome = true, fun h => ok_access_isDegree ((ix rules v).Least) _ (isSome_get h)⟩,
      ⟨some 30, 39, [.agg [.p (pi ((ix rules v).Extra)), .p (pi ((ix rules v).Needs))]], [], [.one (.p (.val (.bool ((access_valid (api_Access.mk ((ix rules v).Extra) ((ix rules v).Needs))).getD default))))], [], (access_valid (api_Access.mk ((ix rules v).Extra) ((ix rules v).Needs))).isSome = true, fun h => ok_access_valid (api_Access.mk ((ix rules v).Extra) ((ix rules v).Needs)) _ (isSome_get h)⟩]) (⟨34, mkS [(8, .x (.one (.p (.sl 4 (List.map enc_api_AccessRule rules))))), (9, .x (.one (.p (pi (rules.length : Int))))), (10, .x (.one (.p (pi v)))), (32, .x (.one (.p (.val (.bool (((!y) || (!((access_isDegree ((ix rules v).Least)).getD default))) || (!((access_valid (api_Access.mk ((ix rules v).Extra) ((ix rules v).Needs))).getD default))))))))], mkH []⟩) ?_
          refine lok_c (((!y) || (!((access_isDegree ((ix rules v).Least)).getD default))) || (!((access_valid (api_Access.mk ((ix rules v).Extra) ((ix rules v).Needs))).getD default))) ?_ ?_
          · intro b_2
            replace H1 := cpos H1 b_2
            refine lok_rt E0 (⟨34, mkS [(2, .x (.one (.p (pi (2 : Int)))))], mkH []⟩) ?_
            refine lok_ret ?_
            try simp only [thenL, blockL, ↓reduceIte, reduceCtorEq]
            have e_1 := k_1 _ (Option.some.inj H1).symm
            subst e_1
            try dsimp only at H0
            obtain rfl := Option.some.inj H0
            try simp only [thenL, blockL]
            exact fin_au _ (.inr rfl) [] (⟨34, mkS [(2, .x (.one (.p (pi (2 : Int)))))], mkH []⟩) rfl rfl imp_au
          · intro b_2
            replace H1 := cneg H1 b_2
            refine lok_skip ?_
            try simp only [thenL, blockL, ↓reduceIte, reduceCtorEq]
            refine lok_rl E0 (⟨34, mkS [(8, .x (.one (.p (.sl 4 (List.map enc_api_AccessRule rules))))), (9, .x (.one (.p (pi (rules.length : Int))))), (10, .x (.one (.p (pi (IntKind.i64.wrap (v + (1 : Int)))))))], mkH []⟩) ?_
            try simp only [thenL, blockL, ↓reduceIte, reduceCtorEq]
            exact ⟨(IntKind.i64.wrap (v + (1 : Int))), (Option.some.inj H1).symm, imp_au⟩
        · intro b_6
          replace H1 := cneg H1 b_6
          refine lok_exit ?_
          try simp only [thenL, blockL, ↓reduceIte, reduceCtorEq]
          have e_1 := k_1 _ (Option.some.inj H1).symm
          subst e_1
          try dsimp only at H0
          try simp only [thenL, blockL, ↓reduceIte, reduceCtorEq]
          exact ⟨(), H0, imp_au⟩
theorem ok_ref14_level (n : Int) (r_ : Bool) (H0 : ref14_level n = some r_) : CallOK Try.prog 40 [.one (.p (pi n))] [] [.one (.p (.val (.bool r_)))] [] := by
  refine callOK (n := 9) (rs := [.tmp 2]) (nb := 0) (V := []) Try.func40 rfl (by kernel_rfl) rfl rfl rfl rfl (Nat.le_of_ble_eq_true rfl) rfl (by decide) ?_
  unfold ref14_level at H0
  refine lok_rt E0 (⟨9, mkS [(0, .x (.one (.p (pi n))))], mkH []⟩) ?_
  refine lok_rt E0 (⟨9, mkS [(2, .x (.one (.p (.val (.bool ((decide ((1 : Int) ≤ n)) && (decide (n ≤ (9 : Int)))))))))], mkH []⟩) ?_
  refine lok_ret ?_
  obtain rfl := Option.some.inj H0
  try simp only [thenL, blockL]
  exact fin_au _ (.inr rfl) [] (⟨9, mkS [(2, .x (.one (.p (.val (.bool ((decide ((1 : Int) ≤ n)) && (decide (n ≤ (9 : Int)))))))))], mkH []⟩) rfl rfl imp_au
theorem ok_ref14_Valid (a : api_Access) (r_ : Bool) (H0 : ref14_Valid a = some r_) : CallOK Try.prog 41 [.agg [.p (pi a.Extra), .p (pi a.Needs)]] [] [.one (.p (.val (.bool r_)))] [] := by
  refine callOK (n := 21) (rs := [.tmp 2]) (nb := 0) (V := []) Try.func41 rfl (by kernel_rfl) rfl rfl rfl rfl (Nat.le_of_ble_eq_true rfl) rfl (by decide) ?_
  unfold ref14_Valid at H0
  refine lok_rt E0 (⟨21, mkS [(1, .x (.one (.ptr 101 0)))], mkH [(101, .var [.p (pi a.Extra), .p (pi a.Needs)])]⟩) ?_
  refine lok_rt E0 (⟨21, mkS [(2, .x (.one (.p (.val (.bool ((((decide ((0 : Int) ≤ a.Extra)) && (decide (a.Extra ≤ (100 : Int)))) && (decide ((0 : Int) ≤ a.Needs))) && (decide (a.Needs ≤ (63 : Int)))))))))], mkH []⟩) ?_
  refine lok_ret ?_
  obtain rfl := Option.some.inj H0
  try simp only [thenL, blockL]
  exact fin_au _ (.inr rfl) [] (⟨21, mkS [(2, .x (.one (.p (.val (.bool ((((decide ((0 : Int) ≤ a.Extra)) && (decide (a.Extra ≤ (100 : Int)))) && (decide ((0 : Int) ≤ a.Needs))) && (decide (a.Needs ≤ (63 : Int)))))))))], mkH []⟩) rfl rfl imp_au
theorem ok_ref14_Check (rules : List api_AccessRule) (r_ : Int) (H0 : ref14_Check rules = some r_) : CallOK Try.prog 15 [.one (.p (.sl 4 (List.map enc_api_AccessRule rules)))] [] [.one (.p (pi r_))] [] := by
  refine callOK (n := 37) (rs := [.tmp 2]) (nb := 0) (V := []) Try.func15 rfl (by kernel_rfl) rfl rfl rfl rfl (Nat.le_of_ble_eq_true rfl) rfl (by decide) ?_
  unfold ref14_Check at H0
  refine lok_rt E0 (⟨37, mkS [(0, .x (.one (.p (.sl 4 (List.map enc_api_AccessRule rules)))))], mkH []⟩) ?_
  refine lok_seq ?_
  refine lok_rt E0 (⟨37, mkS [(0, .x (.one (.p (.sl 4 (List.map enc_api_AccessRule rules))))), (7, .x (.one (.p (.val (.bool (decide ((12 : Int) < (rules.length : Int))))))))], mkH []⟩) ?_
  refine lok_c (decide ((12 : Int) < (rules.length : Int))) ?_ ?_
  · intro b_7
    replace H0 := cpos H0 b_7
    refine lok_rt E0 (⟨37, mkS [(2, .x (.one (.p (pi (3 : Int)))))], mkH []⟩) ?_
    refine lok_ret ?_
    obtain rfl := Option.some.inj H0
    try simp only [thenL, blockL]
    exact fin_au _ (.inr rfl) [] (⟨37, mkS [(2, .x (.one (.p (pi (3 : Int)))))], mkH []⟩) rfl rfl imp_au
  · intro b_7
    replace H0 := cneg H0 b_7
    refine lok_skip ?_
    try simp only [thenL, blockL, ↓reduceIte, reduceCtorEq]
    refine lok_join (fun x_ : Unit => ref14_Check_j1 = some r_) (fun x_ => ⟨37, mkS [], mkH []⟩) ?hyref14_Check_j1 ?hxref14_Check_j1
    case hyref14_Check_j1 =>
      rintro _ H0
      try dsimp only at H0 ⊢
      unfold ref14_Check_j1 at H0
      refine lok_rt E0 (⟨37, mkS [(2, .x (.one (.p (pi (0 : Int)))))], mkH []⟩) ?_
      refine lok_ret ?_
      obtain rfl := Option.some.inj H0
      try simp only [thenL, blockL]
      exact fin_au _ (.inr rfl) [] (⟨37, mkS [(2, .x (.one (.p (pi (0 : Int)))))], mkH []⟩) rfl rfl imp_au
    case hxref14_Check_j1 =>
      refine lok_rt E0 (⟨37, mkS [(0, .x (.one (.p (.sl 4 (List.map enc_api_AccessRule rules))))), (3, .x (.one (.p (pi (0 : Int)))))], mkH []⟩) ?_
      refine lok_block ?_
      replace H0 := bind_some H0
      obtain ⟨v_0, hv_0, H0⟩ := H0
      refine lok_iter (fun x_ => ⟨37, mkS [(0, .x (.one (.p (.sl 4 (List.map enc_api_AccessRule rules))))), (3, .x (.one (.p (pi x_))))], mkH []⟩) hv_0 imp_au ?_
      · rintro i o_1 H1 k_1
        unfold ref14_Check_l2 at H1
        try dsimp only at H1 ⊢
        refine lok_seq ?_
        refine lok_rt E0 (⟨37, mkS [(0, .x (.one (.p (.sl 4 (List.map enc_api_AccessRule rules))))), (3, .x (.one (.p (pi i)))), (11, .x (.one (.p (.val (.bool (decide (i < (rules.length : Int))))))))], mkH []⟩) ?_
        refine lok_c (decide (i < (rules.length : Int))) ?_ ?_
        · intro b_6
          replace H1 := cpos H1 b_6
          refine lok_skip ?_
          try simp only [thenL, blockL, ↓reduceIte, reduceCtorEq]
          refine lok_seq ?_
          refine lok_block ?_
          replace H1 := req_some H1
          obtain ⟨q_5, H1⟩ := H1
          refine lok_rt E0 (⟨37, mkS [(0, .x (.one (.p (.sl 4 (List.map enc_api_AccessRule rules))))), (3, .x (.one (.p (pi i)))), (4, .x (.one (.ptr 104 0)))], mkH [(104, .var [.p (pi ((ix rules i).Kind)), .p (pi ((ix rules i).Least)), .p (pi ((ix rules i).Extra)), .p (pi ((ix rules i).Needs))])]⟩) ?_
          replace H1 := bind_some H1
          obtain ⟨y, h_1, H1⟩ := H1
          replace H1 := req_some H1
          obtain ⟨⟨q_3, q_4⟩, H1⟩ := H1
          refine lok_rt (Env.of E0 [⟨some 20, 40, [.one (.p (pi ((ix rules i).Kind)))], [], [.one (.p (.val (.bool y)))], [], True, fun _ => ok_ref14_level ((ix rules i).Kind) y h_1⟩,
      ⟨some 25, 40, [.one (.p (pi ((ix rules i).Least)))], [], [.one (.p (.val (.bool ((ref14_level ((ix rules i).Least)).getD default))))], [], (ref14_level ((ix rules i).Least)).isSome = true, fun h => ok_ref14_level ((ix rules i).Least) _ (isSome_get h)⟩,
      ⟨some 34, 41, [.agg [.p (pi ((ix rules i).Extra)), .p (pi ((ix rules i).Needs))]], [], [.one (.p (.val (.bool ((ref14_Valid (api_Access.mk ((ix rules i).Extra) ((ix rules i).Needs))).getD default))))], [], (ref14_Valid (api_Access.mk ((ix rules i).Extra) ((ix rules i).Needs))).isSome = true, fun h => ok_ref14_Valid (api_Access.mk ((ix rules i).Extra) ((ix rules i).Needs)) _ (isSome_get h)⟩]) (⟨37, mkS [(0, .x (.one (.p (.sl 4 (List.map enc_api_AccessRule rules))))), (3, .x (.one (.p (pi i)))), (36, .x (.one (.p (.val (.bool (((!y) || (!((ref14_level ((ix rules i).Least)).getD default))) || (!((ref14_Valid (api_Access.mk ((ix rules i).Extra) ((ix rules i).Needs))).getD default))))))))], mkH []⟩) ?_
          refine lok_c (((!y) || (!((ref14_level ((ix rules i).Least)).getD default))) || (!((ref14_Valid (api_Access.mk ((ix rules i).Extra) ((ix rules i).Needs))).getD default))) ?_ ?_
          · intro b_2
            replace H1 := cpos H1 b_2
            refine lok_rt E0 (⟨37, mkS [(2, .x (.one (.p (pi (2 : Int)))))], mkH []⟩) ?_
            refine lok_ret ?_
            try simp only [thenL, blockL, ↓reduceIte, reduceCtorEq]
            have e_1 := k_1 _ (Option.some.inj H1).symm
            subst e_1
            try dsimp only at H0
            obtain rfl := Option.some.inj H0
            try simp only [thenL, blockL]
            exact fin_au _ (.inr rfl) [] (⟨37, mkS [(2, .x (.one (.p (pi (2 : Int)))))], mkH []⟩) rfl rfl imp_au
          · intro b_2
            replace H1 := cneg H1 b_2
            refine lok_skip ?_
            try simp only [thenL, blockL, ↓reduceIte, reduceCtorEq]
            refine lok_rl E0 (⟨37, mkS [(0, .x (.one (.p (.sl 4 (List.map enc_api_AccessRule rules))))), (3, .x (.one (.p (pi (IntKind.i64.wrap (i + (1 : Int)))))))], mkH []⟩) ?_
            try simp only [thenL, blockL, ↓reduceIte, reduceCtorEq]
            exact ⟨(IntKind.i64.wrap (i + (1 : Int))), (Option.some.inj H1).symm, imp_au⟩
        · intro b_6
          replace H1 := cneg H1 b_6
          refine lok_exit ?_
          try simp only [thenL, blockL, ↓reduceIte, reduceCtorEq]
          have e_1 := k_1 _ (Option.some.inj H1).symm
          subst e_1
          try dsimp only at H0
          try simp only [thenL, blockL, ↓reduceIte, reduceCtorEq]
          exact ⟨(), H0, imp_au⟩
end Go.LS
