/-
  The walks: the functions compute what the plain ones say. Condition: the plain function has a value.
-/
import Derived.Test.YtamifffofclhkaaK0
import Derived.Test.YtamifffofclhkaaD1
namespace Go.LS
open Go.Proofs
set_option linter.all false
set_option linter.unusedSimpArgs false
set_option linter.unusedVariables false
set_option maxRecDepth 20000

theorem ok_mark_Roll (l : List Int) (r_ : mark_Dice) (H0 : mark_Roll l = some r_) : CallOK Try.prog 10 [.one (.p (.sl 1 (List.map encI l)))] [] [.one (.ptr 0 0)] [some (.var [.p (.sl 1 (List.map encI r_.L)), .p (pi r_.At)])] := by
  refine callOK (n := 6) (rs := [.tmp 2]) (nb := 0) (V := []) Try.func10 rfl (by kernel_rfl) rfl rfl rfl rfl (Nat.le_of_ble_eq_true rfl) (by decide) ?_
  unfold mark_Roll at H0
  refine lok_rt E0 (⟨6, mkS [(0, .x (.one (.p (.sl 1 (List.map encI l)))))], mkH []⟩) ?_
  refine lok_rt E0 (⟨6, mkS [(2, .x (.one (.ptr 105 0)))], mkH [(105, .var [.p (.sl 1 (List.map encI l)), .p (pi (0 : Int))])]⟩) ?_
  refine lok_ret ?_
  obtain rfl := Option.some.inj H0
  try simp only [thenL, blockL]
  exact fin_nu [105] _ (.inr rfl) [105] (⟨6, mkS [(2, .x (.one (.ptr 105 0)))], mkH [(105, .var [.p (.sl 1 (List.map encI l)), .p (pi (0 : Int))])]⟩) rfl rfl imp_au
theorem ok_mark_Dice_Next (d : mark_Dice) (n : Int) (r_ : Int × mark_Dice) (H0 : mark_Dice_Next d n = some r_) : CallOK Try.prog 29 [.one (.ptr 0 0), .one (.p (pi n))] [.var [.p (.sl 1 (List.map encI d.L)), .p (pi d.At)]] [.one (.p (pi r_.1))] [some (.var [.p (.sl 1 (List.map encI r_.2.L)), .p (pi r_.2.At)])] := by
  refine callOK (n := 45) (rs := [.tmp 4]) (nb := 1) (V := [0]) Try.func29 rfl (by kernel_rfl) rfl rfl rfl rfl (Nat.le_of_ble_eq_true rfl) (by decide) ?_
  unfold mark_Dice_Next at H0
  refine lok_rt E0 (⟨45, mkS [(0, .x (.one (.ptr 0 0))), (1, .x (.one (.p (pi n))))], mkH [(0, .var [.p (.sl 1 (List.map encI d.L)), .p (pi d.At)])]⟩) ?_
  refine lok_seq ?_
  refine lok_dt E0 9 (⟨45, mkS [(0, .x (.one (.ptr 0 0))), (1, .x (.one (.p (pi n)))), (19, .x (.one (.p (.val (.bool ((decide ((d.L.length : Int) ≤ d.At)) || (decide (n < (1 : Int)))))))))], mkH [(0, .var [.p (.sl 1 (List.map encI d.L)), .p (pi d.At)])]⟩) (by kernel_rfl) (by kernel_rfl) ?_
  refine lok_c ((decide ((d.L.length : Int) ≤ d.At)) || (decide (n < (1 : Int)))) ?_ ?_
  · intro b_3
    replace H0 := cpos H0 b_3
    refine lok_rt E0 (⟨45, mkS [(4, .x (.one (.p (pi (0 : Int)))))], mkH [(0, .var [.p (.sl 1 (List.map encI d.L)), .p (pi d.At)])]⟩) ?_
    refine lok_ret ?_
    obtain rfl := Option.some.inj H0
    try simp only [thenL, blockL]
    exact fin_au _ (.inr rfl) [0] (⟨45, mkS [(4, .x (.one (.p (pi (0 : Int)))))], mkH [(0, .var [.p (.sl 1 (List.map encI d.L)), .p (pi d.At)])]⟩) rfl rfl imp_au
  · intro b_3
    replace H0 := cneg H0 b_3
    refine lok_skip ?_
    try simp only [thenL, blockL, ↓reduceIte, reduceCtorEq]
    replace H0 := req_some H0
    obtain ⟨⟨q_1, q_2⟩, H0⟩ := H0
    refine lok_dt E0 11 (⟨45, mkS [(0, .x (.one (.ptr 0 0))), (1, .x (.one (.p (pi n)))), (5, .x (.one (.p (pi (Int.tmod (ix d.L d.At) n)))))], mkH [(0, .var [.p (.sl 1 (List.map encI d.L)), .p (pi d.At)])]⟩) (by kernel_rfl) (by kernel_rfl) ?_
    refine lok_rt E0 (⟨45, mkS [(1, .x (.one (.p (pi n)))), (5, .x (.one (.p (pi (Int.tmod (ix d.L d.At) n)))))], mkH [(0, .var [.p (.sl 1 (List.map encI d.L)), .p (pi (IntKind.i64.wrap (d.At + (1 : Int))))])]⟩) ?_
    refine lok_join (fun x_ : Int => mark_Dice_Next_j1 d x_ = some r_) (fun x_ => ⟨45, mkS [(5, .x (.one (.p (pi x_))))], mkH [(0, .var [.p (.sl 1 (List.map encI d.L)), .p (pi (IntKind.i64.wrap (d.At + (1 : Int))))])]⟩) ?hymark_Dice_Next_j1 ?hxmark_Dice_Next_j1
    case hymark_Dice_Next_j1 =>
      rintro x H0
      try dsimp only at H0 ⊢
      unfold mark_Dice_Next_j1 at H0
      refine lok_rt E0 (⟨45, mkS [(4, .x (.one (.p (pi x))))], mkH [(0, .var [.p (.sl 1 (List.map encI d.L)), .p (pi (IntKind.i64.wrap (d.At + (1 : Int))))])]⟩) ?_
      refine lok_ret ?_
      obtain rfl := Option.some.inj H0
      try simp only [thenL, blockL]
      exact fin_au _ (.inr rfl) [0] (⟨45, mkS [(4, .x (.one (.p (pi x))))], mkH [(0, .var [.p (.sl 1 (List.map encI d.L)), .p (pi (IntKind.i64.wrap (d.At + (1 : Int))))])]⟩) rfl rfl imp_au
    case hxmark_Dice_Next_j1 =>
      refine lok_rt E0 (⟨45, mkS [(1, .x (.one (.p (pi n)))), (5, .x (.one (.p (pi (Int.tmod (ix d.L d.At) n))))), (40, .x (.one (.p (.val (.bool (decide ((Int.tmod (ix d.L d.At) n) < (0 : Int))))))))], mkH [(0, .var [.p (.sl 1 (List.map encI d.L)), .p (pi (IntKind.i64.wrap (d.At + (1 : Int))))])]⟩) ?_
      refine lok_c (decide ((Int.tmod (ix d.L d.At) n) < (0 : Int))) ?_ ?_
      · intro b_0
        replace H0 := cpos H0 b_0
        refine lok_rl E0 (⟨45, mkS [(5, .x (.one (.p (pi (IntKind.i64.wrap ((Int.tmod (ix d.L d.At) n) + n))))))], mkH [(0, .var [.p (.sl 1 (List.map encI d.L)), .p (pi (IntKind.i64.wrap (d.At + (1 : Int))))])]⟩) ?_
        try simp only [thenL, blockL, ↓reduceIte, reduceCtorEq]
        exact ⟨(IntKind.i64.wrap ((Int.tmod (ix d.L d.At) n) + n)), H0, imp_au⟩
      · intro b_0
        replace H0 := cneg H0 b_0
        refine lok_skip ?_
        try simp only [thenL, blockL, ↓reduceIte, reduceCtorEq]
        exact ⟨(Int.tmod (ix d.L d.At) n), H0, imp_au⟩
theorem ok_mark_Dice_Bounds (d : mark_Dice) (most : Int) (r_ : (List Int) × mark_Dice) (H0 : mark_Dice_Bounds d most = some r_) : CallOK Try.prog 12 [.one (.ptr 0 0), .one (.p (pi most))] [.var [.p (.sl 1 (List.map encI d.L)), .p (pi d.At)]] [.one (.p (.sl 1 (List.map encI r_.1)))] [some (.var [.p (.sl 1 (List.map encI r_.2.L)), .p (pi r_.2.At)])] := by
  refine callOK (n := 29) (rs := [.tmp 4]) (nb := 1) (V := [0]) Try.func12 rfl (by kernel_rfl) rfl rfl rfl rfl (Nat.le_of_ble_eq_true rfl) (by decide) ?_
  unfold mark_Dice_Bounds at H0
  refine lok_rt E0 (⟨29, mkS [(0, .x (.one (.ptr 0 0))), (1, .x (.one (.p (pi most))))], mkH [(0, .var [.p (.sl 1 (List.map encI d.L)), .p (pi d.At)])]⟩) ?_
  refine lok_rt E0 (⟨29, mkS [(0, .x (.one (.ptr 0 0))), (1, .x (.one (.p (pi most)))), (5, .x (.one (.vw 105)))], mkH [(0, .var [.p (.sl 1 (List.map encI d.L)), .p (pi d.At)]), (105, .arr 1 (List.map encI ([] : List Int)))]⟩) ?_
  refine lok_rt E0 (⟨29, mkS [(0, .x (.one (.ptr 0 0))), (5, .x (.one (.vw 105))), (6, .x (.one (.p (pi (IntKind.i64.wrap (most + (1 : Int)))))))], mkH [(0, .var [.p (.sl 1 (List.map encI d.L)), .p (pi d.At)]), (105, .arr 1 (List.map encI ([] : List Int)))]⟩) ?_
  refine lok_join (fun x_ : (List Int) × Int × (List Int) => mark_Dice_Bounds_j1 x_.1 x_.2.1 x_.2.2 = some r_) (fun x_ => ⟨29, mkS [(5, .x (.one (.vw 105)))], mkH [(0, .var [.p (.sl 1 (List.map encI x_.1)), .p (pi x_.2.1)]), (105, .arr 1 (List.map encI x_.2.2))]⟩) ?hymark_Dice_Bounds_j1 ?hxmark_Dice_Bounds_j1
  case hymark_Dice_Bounds_j1 =>
    rintro ⟨d1, d2, out⟩ H0
    try dsimp only at H0 ⊢
    unfold mark_Dice_Bounds_j1 at H0
    refine lok_rt E0 (⟨29, mkS [(4, .x (.one (.vw 105)))], mkH [(0, .var [.p (.sl 1 (List.map encI d1)), .p (pi d2)]), (105, .arr 1 (List.map encI out))]⟩) ?_
    refine lok_ret ?_
    obtain rfl := Option.some.inj H0
    try simp only [thenL, blockL]
    exact fin_au _ (.inr rfl) [0] (⟨29, mkS [(4, .x (.one (.p (.sl 1 (List.map encI out)))))], mkH [(0, .var [.p (.sl 1 (List.map encI d1)), .p (pi d2)])]⟩) rfl rfl (Imp.trans (imp_frz 105 1 (List.map encI out)) imp_au)
  case hxmark_Dice_Bounds_j1 =>
    replace H0 := bind_some H0
    obtain ⟨⟨y, y1⟩, h_0, H0⟩ := H0
    try dsimp only at H0
    refine lok_rt (Env.of E0 [⟨some 11, 29, [.one (.ptr 0 0), .one (.p (pi (4 : Int)))], [.var [.p (.sl 1 (List.map encI d.L)), .p (pi d.At)]], [.one (.p (pi y))], [some (.var [.p (.sl 1 (List.map encI y1.L)), .p (pi y1.At)])], True, fun _ => ok_mark_Dice_Next d (4 : Int) (y, y1) h_0, []⟩]) (⟨29, mkS [(0, .x (.one (.ptr 0 0))), (5, .x (.one (.vw 105))), (6, .x (.one (.p (pi (IntKind.i64.wrap (most + (1 : Int))))))), (7, .x (.one (.p (pi (IntKind.i64.wrap ((1 : Int) + y))))))], mkH [(0, .var [.p (.sl 1 (List.map encI y1.L)), .p (pi y1.At)]), (105, .arr 1 (List.map encI ([] : List Int)))]⟩) ?_
    refine lok_block ?_
    replace H0 := bind_some H0
    obtain ⟨v_1, hv_1, H0⟩ := H0
    refine lok_iter (fun x_ => ⟨29, mkS [(0, .x (.one (.ptr 0 0))), (5, .x (.one (.vw 105))), (6, .x (.one (.p (pi x_.1)))), (7, .x (.one (.p (pi x_.2.1))))], mkH [(0, .var [.p (.sl 1 (List.map encI x_.2.2.1)), .p (pi x_.2.2.2.1)]), (105, .arr 1 (List.map encI x_.2.2.2.2))]⟩) hv_1 imp_au ?_
    · rintro ⟨b, i, d3, d4, out1⟩ o_1 H1 k_1
      unfold mark_Dice_Bounds_l2 at H1
      try dsimp only at H1 ⊢
      refine lok_seq ?_
      refine lok_rt E0 (⟨29, mkS [(0, .x (.one (.ptr 0 0))), (5, .x (.one (.vw 105))), (6, .x (.one (.p (pi b)))), (7, .x (.one (.p (pi i)))), (14, .x (.one (.p (.val (.bool (decide ((0 : Int) < i)))))))], mkH [(0, .var [.p (.sl 1 (List.map encI d3)), .p (pi d4)]), (105, .arr 1 (List.map encI out1))]⟩) ?_
      refine lok_c (decide ((0 : Int) < i)) ?_ ?_
      · intro b_4
        replace H1 := cpos H1 b_4
        refine lok_skip ?_
        try simp only [thenL, blockL, ↓reduceIte, reduceCtorEq]
        refine lok_seq ?_
        refine lok_block ?_
        replace H1 := bind_some H1
        obtain ⟨⟨y2, y3⟩, h_2, H1⟩ := H1
        try dsimp only at H1
        refine lok_rt (Env.of E0 [⟨some 22, 29, [.one (.ptr 0 0), .one (.p (pi (IntKind.i64.wrap ((IntKind.i64.wrap (Int.tdiv b (2 : Int))) + (1 : Int)))))], [.var [.p (.sl 1 (List.map encI d3)), .p (pi d4)]], [.one (.p (pi y2))], [some (.var [.p (.sl 1 (List.map encI y3.L)), .p (pi y3.At)])], True, fun _ => ok_mark_Dice_Next (mark_Dice.mk d3 d4) (IntKind.i64.wrap ((IntKind.i64.wrap (Int.tdiv b (2 : Int))) + (1 : Int))) (y2, y3) h_2, []⟩]) (⟨29, mkS [(0, .x (.one (.ptr 0 0))), (5, .x (.one (.vw 105))), (6, .x (.one (.p (pi (IntKind.i64.wrap (b - y2)))))), (7, .x (.one (.p (pi i))))], mkH [(0, .var [.p (.sl 1 (List.map encI y3.L)), .p (pi y3.At)]), (105, .arr 1 (List.map encI out1))]⟩) ?_
        replace H1 := req_some H1
        obtain ⟨q_3, H1⟩ := H1
        refine lok_rl E0 (⟨29, mkS [(0, .x (.one (.ptr 0 0))), (5, .x (.one (.vw 105))), (6, .x (.one (.p (pi (IntKind.i64.wrap (b - y2)))))), (7, .x (.one (.p (pi i))))], mkH [(0, .var [.p (.sl 1 (List.map encI y3.L)), .p (pi y3.At)]), (105, .arr 1 (List.map encI (out1 ++ [(IntKind.i64.wrap (b - y2))])))]⟩) ?_
        try simp only [thenL, blockL, ↓reduceIte, reduceCtorEq]
        refine lok_rl E0 (⟨29, mkS [(0, .x (.one (.ptr 0 0))), (5, .x (.one (.vw 105))), (6, .x (.one (.p (pi (IntKind.i64.wrap (b - y2)))))), (7, .x (.one (.p (pi (IntKind.i64.wrap (i - (1 : Int)))))))], mkH [(0, .var [.p (.sl 1 (List.map encI y3.L)), .p (pi y3.At)]), (105, .arr 1 (List.map encI (out1 ++ [(IntKind.i64.wrap (b - y2))])))]⟩) ?_
        try simp only [thenL, blockL, ↓reduceIte, reduceCtorEq]
        exact ⟨((IntKind.i64.wrap (b - y2)), (IntKind.i64.wrap (i - (1 : Int))), y3.L, y3.At, (out1 ++ [(IntKind.i64.wrap (b - y2))])), (Option.some.inj H1).symm, imp_au⟩
      · intro b_4
        replace H1 := cneg H1 b_4
        refine lok_exit ?_
        try simp only [thenL, blockL, ↓reduceIte, reduceCtorEq]
        have e_1 := k_1 _ (Option.some.inj H1).symm
        subst e_1
        try dsimp only at H0
        try simp only [thenL, blockL, ↓reduceIte, reduceCtorEq]
        exact ⟨(d3, d4, out1), H0, imp_au⟩
theorem ok_boundary_Grade (b : List Int) (mark : Int) (r_ : Int) (H0 : boundary_Grade b mark = some r_) : CallOK Try.prog 14 [.one (.p (.sl 1 (List.map encI b))), .one (.p (pi mark))] [] [.one (.p (pi r_))] [] := by
  refine callOK (n := 21) (rs := [.tmp 4]) (nb := 0) (V := []) Try.func14 rfl (by kernel_rfl) rfl rfl rfl rfl (Nat.le_of_ble_eq_true rfl) (by decide) ?_
  unfold boundary_Grade at H0
  refine lok_rt E0 (⟨21, mkS [(0, .x (.one (.p (.sl 1 (List.map encI b))))), (1, .x (.one (.p (pi mark))))], mkH []⟩) ?_
  refine lok_join (fun x_ : Unit => boundary_Grade_j1 b = some r_) (fun x_ => ⟨21, mkS [(0, .x (.one (.p (.sl 1 (List.map encI b)))))], mkH []⟩) ?hyboundary_Grade_j1 ?hxboundary_Grade_j1
  case hyboundary_Grade_j1 =>
    rintro _ H0
    try dsimp only at H0 ⊢
    unfold boundary_Grade_j1 at H0
    refine lok_rt E0 (⟨21, mkS [(4, .x (.one (.p (pi (b.length : Int)))))], mkH []⟩) ?_
    refine lok_ret ?_
    obtain rfl := Option.some.inj H0
    try simp only [thenL, blockL]
    exact fin_au _ (.inr rfl) [] (⟨21, mkS [(4, .x (.one (.p (pi (b.length : Int)))))], mkH []⟩) rfl rfl imp_au
  case hxboundary_Grade_j1 =>
    refine lok_rt E0 (⟨21, mkS [(0, .x (.one (.p (.sl 1 (List.map encI b))))), (1, .x (.one (.p (pi mark)))), (7, .x (.one (.p (.sl 1 (List.map encI b))))), (8, .x (.one (.p (pi (b.length : Int))))), (9, .x (.one (.p (pi (0 : Int)))))], mkH []⟩) ?_
    refine lok_block ?_
    replace H0 := bind_some H0
    obtain ⟨v_0, hv_0, H0⟩ := H0
    refine lok_iter (fun x_ => ⟨21, mkS [(0, .x (.one (.p (.sl 1 (List.map encI b))))), (1, .x (.one (.p (pi mark)))), (7, .x (.one (.p (.sl 1 (List.map encI b))))), (8, .x (.one (.p (pi (b.length : Int))))), (9, .x (.one (.p (pi x_))))], mkH []⟩) hv_0 imp_au ?_
    · rintro v o_1 H1 k_1
      unfold boundary_Grade_l2 at H1
      try dsimp only at H1 ⊢
      refine lok_rt E0 (⟨21, mkS [(0, .x (.one (.p (.sl 1 (List.map encI b))))), (1, .x (.one (.p (pi mark)))), (7, .x (.one (.p (.sl 1 (List.map encI b))))), (8, .x (.one (.p (pi (b.length : Int))))), (9, .x (.one (.p (pi v)))), (10, .x (.one (.p (.val (.bool (decide (v < (b.length : Int))))))))], mkH []⟩) ?_
      refine lok_seq ?_
      refine lok_c (decide (v < (b.length : Int))) ?_ ?_
      · intro b_3
        replace H1 := cpos H1 b_3
        refine lok_skip ?_
        try simp only [thenL, blockL, ↓reduceIte, reduceCtorEq]
        refine lok_seq ?_
        refine lok_block ?_
        replace H1 := req_some H1
        obtain ⟨q_2, H1⟩ := H1
        refine lok_rt E0 (⟨21, mkS [(0, .x (.one (.p (.sl 1 (List.map encI b))))), (1, .x (.one (.p (pi mark)))), (5, .x (.one (.p (pi v)))), (6, .x (.one (.p (pi (ix b v))))), (7, .x (.one (.p (.sl 1 (List.map encI b))))), (8, .x (.one (.p (pi (b.length : Int))))), (9, .x (.one (.p (pi v))))], mkH []⟩) ?_
        refine lok_rt E0 (⟨21, mkS [(0, .x (.one (.p (.sl 1 (List.map encI b))))), (1, .x (.one (.p (pi mark)))), (5, .x (.one (.p (pi v)))), (7, .x (.one (.p (.sl 1 (List.map encI b))))), (8, .x (.one (.p (pi (b.length : Int))))), (9, .x (.one (.p (pi v)))), (16, .x (.one (.p (.val (.bool (decide ((ix b v) ≤ mark)))))))], mkH []⟩) ?_
        refine lok_c (decide ((ix b v) ≤ mark)) ?_ ?_
        · intro b_1
          replace H1 := cpos H1 b_1
          refine lok_rt E0 (⟨21, mkS [(4, .x (.one (.p (pi v))))], mkH []⟩) ?_
          refine lok_ret ?_
          try simp only [thenL, blockL, ↓reduceIte, reduceCtorEq]
          have e_1 := k_1 _ (Option.some.inj H1).symm
          subst e_1
          try dsimp only at H0
          obtain rfl := Option.some.inj H0
          try simp only [thenL, blockL]
          exact fin_au _ (.inr rfl) [] (⟨21, mkS [(4, .x (.one (.p (pi v))))], mkH []⟩) rfl rfl imp_au
        · intro b_1
          replace H1 := cneg H1 b_1
          refine lok_skip ?_
          try simp only [thenL, blockL, ↓reduceIte, reduceCtorEq]
          refine lok_rl E0 (⟨21, mkS [(0, .x (.one (.p (.sl 1 (List.map encI b))))), (1, .x (.one (.p (pi mark)))), (7, .x (.one (.p (.sl 1 (List.map encI b))))), (8, .x (.one (.p (pi (b.length : Int))))), (9, .x (.one (.p (pi (IntKind.i64.wrap (v + (1 : Int)))))))], mkH []⟩) ?_
          try simp only [thenL, blockL, ↓reduceIte, reduceCtorEq]
          exact ⟨(IntKind.i64.wrap (v + (1 : Int))), (Option.some.inj H1).symm, imp_au⟩
      · intro b_3
        replace H1 := cneg H1 b_3
        refine lok_exit ?_
        try simp only [thenL, blockL, ↓reduceIte, reduceCtorEq]
        have e_1 := k_1 _ (Option.some.inj H1).symm
        subst e_1
        try dsimp only at H0
        try simp only [thenL, blockL, ↓reduceIte, reduceCtorEq]
        exact ⟨(), H0, imp_au⟩
set_option maxHeartbeats 4000000 in
theorem ok_mark_Dice_Curve (d : mark_Dice) (r_ : api_Curve × mark_Dice) (H0 : mark_Dice_Curve d = some r_) : CallOK Try.prog 25 [.one (.ptr 0 0)] [.var [.p (.sl 1 (List.map encI d.L)), .p (pi d.At)]] [.agg [.p (.sl 4 (List.map enc_api_Point r_.1.Points))]] [some (.var [.p (.sl 1 (List.map encI r_.2.L)), .p (pi r_.2.At)])] := by
  refine callOK (n := 48) (rs := [.cell 2 51]) (nb := 1) (V := [0]) Try.func25 rfl (by kernel_rfl) rfl rfl rfl rfl (Nat.le_of_ble_eq_true rfl) (by decide) ?_
  unfold mark_Dice_Curve at H0
  refine lok_rt E0 (⟨48, mkS [(0, .x (.one (.ptr 0 0))), (2, .x (.one (.ptr 102 0)))], mkH [(0, .var [.p (.sl 1 (List.map encI d.L)), .p (pi d.At)]), (102, .var [.p .nil])]⟩) ?_
  replace H0 := bind_some H0
  obtain ⟨⟨y, y1⟩, h_0, H0⟩ := H0
  try dsimp only at H0
  replace H0 := bind_some H0
  obtain ⟨⟨y2, y3⟩, h_1, H0⟩ := H0
  try dsimp only at H0
  refine lok_rt (Env.of E0 [⟨some 8, 29, [.one (.ptr 0 0), .one (.p (pi (9 : Int)))], [.var [.p (.sl 1 (List.map encI d.L)), .p (pi d.At)]], [.one (.p (pi y))], [some (.var [.p (.sl 1 (List.map encI y1.L)), .p (pi y1.At)])], True, fun _ => ok_mark_Dice_Next d (9 : Int) (y, y1) h_0, []⟩,
      ⟨some 11, 29, [.one (.ptr 0 0), .one (.p (pi (9 : Int)))], [.var [.p (.sl 1 (List.map encI y1.L)), .p (pi y1.At)]], [.one (.p (pi y2))], [some (.var [.p (.sl 1 (List.map encI y3.L)), .p (pi y3.At)])], True, fun _ => ok_mark_Dice_Next y1 (9 : Int) (y2, y3) h_1, []⟩]) (⟨48, mkS [(0, .x (.one (.ptr 0 0))), (2, .x (.one (.ptr 102 0))), (3, .x (.one (.p (pi (IntKind.i64.wrap (y - (4 : Int))))))), (4, .x (.one (.p (pi (IntKind.i64.wrap (y2 - (4 : Int)))))))], mkH [(0, .var [.p (.sl 1 (List.map encI y3.L)), .p (pi y3.At)]), (102, .var [.p .nil])]⟩) ?_
  refine lok_rt E0 (⟨48, mkS [(0, .x (.one (.ptr 0 0))), (2, .x (.one (.ptr 102 0))), (3, .x (.one (.p (pi (IntKind.i64.wrap (y - (4 : Int))))))), (4, .x (.one (.p (pi (IntKind.i64.wrap (y2 - (4 : Int))))))), (5, .x (.one (.ptr 105 0)))], mkH [(0, .var [.p (.sl 1 (List.map encI y3.L)), .p (pi y3.At)]), (102, .var [.p .nil]), (105, .var [.fl 4 (List.map enc_api_Point ([(api_Point.mk (api_Ratio.mk (IntKind.i64.wrap (y - (4 : Int))) (1 : Int)) (api_Ratio.mk (IntKind.i64.wrap (y2 - (4 : Int))) (1 : Int)))]))])]⟩) ?_
  refine lok_join (fun x_ : (List Int) × Int × (List api_Point) => mark_Dice_Curve_j1 x_.1 x_.2.1 x_.2.2 = some r_) (fun x_ => ⟨48, mkS [(2, .x (.one (.ptr 102 0))), (5, .x (.one (.ptr 105 0)))], mkH [(0, .var [.p (.sl 1 (List.map encI x_.1)), .p (pi x_.2.1)]), (102, .var [.p .nil]), (105, .var [.p (.sl 4 (List.map enc_api_Point x_.2.2))])]⟩) ?hymark_Dice_Curve_j1 ?hxmark_Dice_Curve_j1
  case hymark_Dice_Curve_j1 =>
    rintro ⟨d1, d2, c⟩ H0
    try dsimp only at H0 ⊢
    unfold mark_Dice_Curve_j1 at H0
    refine lok_rt E0 (⟨48, mkS [(2, .x (.one (.ptr 102 0)))], mkH [(0, .var [.p (.sl 1 (List.map encI d1)), .p (pi d2)]), (102, .var [.p (.sl 4 (List.map enc_api_Point c))])]⟩) ?_
    refine lok_ret ?_
    obtain rfl := Option.some.inj H0
    try simp only [thenL, blockL]
    exact fin_au _ (.inr rfl) [0] (⟨48, mkS [(2, .x (.one (.ptr 102 0)))], mkH [(0, .var [.p (.sl 1 (List.map encI d1)), .p (pi d2)]), (102, .var [.p (.sl 4 (List.map enc_api_Point c))])]⟩) rfl rfl imp_au
  case hxmark_Dice_Curve_j1 =>
    replace H0 := bind_some H0
    obtain ⟨⟨y4, y5⟩, h_2, H0⟩ := H0
    try dsimp only at H0
    refine lok_rt (Env.of E0 [⟨some 21, 29, [.one (.ptr 0 0), .one (.p (pi (4 : Int)))], [.var [.p (.sl 1 (List.map encI y3.L)), .p (pi y3.At)]], [.one (.p (pi y4))], [some (.var [.p (.sl 1 (List.map encI y5.L)), .p (pi y5.At)])], True, fun _ => ok_mark_Dice_Next y3 (4 : Int) (y4, y5) h_2, []⟩]) (⟨48, mkS [(0, .x (.one (.ptr 0 0))), (2, .x (.one (.ptr 102 0))), (3, .x (.one (.p (pi (IntKind.i64.wrap (y - (4 : Int))))))), (4, .x (.one (.p (pi (IntKind.i64.wrap (y2 - (4 : Int))))))), (5, .x (.one (.ptr 105 0))), (6, .x (.one (.p (pi (IntKind.i64.wrap ((1 : Int) + y4))))))], mkH [(0, .var [.p (.sl 1 (List.map encI y5.L)), .p (pi y5.At)]), (102, .var [.p .nil]), (105, .var [.fl 4 (List.map enc_api_Point ([(api_Point.mk (api_Ratio.mk (IntKind.i64.wrap (y - (4 : Int))) (1 : Int)) (api_Ratio.mk (IntKind.i64.wrap (y2 - (4 : Int))) (1 : Int)))]))])]⟩) ?_
    refine lok_block ?_
    refine lok_unroll ?_
    refine lok_seq ?_
    refine lok_rt E0 (⟨48, mkS [(0, .x (.one (.ptr 0 0))), (2, .x (.one (.ptr 102 0))), (3, .x (.one (.p (pi (IntKind.i64.wrap (y - (4 : Int))))))), (4, .x (.one (.p (pi (IntKind.i64.wrap (y2 - (4 : Int))))))), (5, .x (.one (.ptr 105 0))), (6, .x (.one (.p (pi (IntKind.i64.wrap ((1 : Int) + y4)))))), (24, .x (.one (.p (.val (.bool (decide ((0 : Int) < (IntKind.i64.wrap ((1 : Int) + y4)))))))))], mkH [(0, .var [.p (.sl 1 (List.map encI y5.L)), .p (pi y5.At)]), (102, .var [.p .nil]), (105, .var [.fl 4 (List.map enc_api_Point ([(api_Point.mk (api_Ratio.mk (IntKind.i64.wrap (y - (4 : Int))) (1 : Int)) (api_Ratio.mk (IntKind.i64.wrap (y2 - (4 : Int))) (1 : Int)))]))])]⟩) ?_
    refine lok_c (decide ((0 : Int) < (IntKind.i64.wrap ((1 : Int) + y4)))) ?_ ?_
    · intro b_15
      replace H0 := cpos H0 b_15
      refine lok_skip ?_
      try simp only [thenL, blockL, ↓reduceIte, reduceCtorEq]
      refine lok_seq ?_
      refine lok_block ?_
      replace H0 := bind_some H0
      obtain ⟨⟨y6, y7⟩, h_3, H0⟩ := H0
      try dsimp only at H0
      replace H0 := bind_some H0
      obtain ⟨⟨y8, y9⟩, h_4, H0⟩ := H0
      try dsimp only at H0
      replace H0 := bindV_some H0
      obtain ⟨x, a_5, H0⟩ := H0
      replace H0 := bindV_some H0
      obtain ⟨y10, a_6, H0⟩ := H0
      refine lok_rtg (Env.of E0 [⟨some 30, 29, [.one (.ptr 0 0), .one (.p (pi (3 : Int)))], [.var [.p (.sl 1 (List.map encI y5.L)), .p (pi y5.At)]], [.one (.p (pi y6))], [some (.var [.p (.sl 1 (List.map encI y7.L)), .p (pi y7.At)])], True, fun _ => ok_mark_Dice_Next y5 (3 : Int) (y6, y7) h_3, []⟩,
      ⟨some 35, 29, [.one (.ptr 0 0), .one (.p (pi (4 : Int)))], [.var [.p (.sl 1 (List.map encI y7.L)), .p (pi y7.At)]], [.one (.p (pi y8))], [some (.var [.p (.sl 1 (List.map encI y9.L)), .p (pi y9.At)])], True, fun _ => ok_mark_Dice_Next y7 (4 : Int) (y8, y9) h_4, []⟩]) (And.intro a_5 a_6) (⟨48, mkS [(0, .x (.one (.ptr 0 0))), (2, .x (.one (.ptr 102 0))), (3, .x (.one (.p (pi x)))), (4, .x (.one (.p (pi y10)))), (5, .x (.one (.ptr 105 0))), (6, .x (.one (.p (pi (IntKind.i64.wrap ((1 : Int) + y4))))))], mkH [(0, .var [.p (.sl 1 (List.map encI y9.L)), .p (pi y9.At)]), (102, .var [.p .nil]), (105, .var [.fl 4 (List.map enc_api_Point ([(api_Point.mk (api_Ratio.mk (IntKind.i64.wrap (y - (4 : Int))) (1 : Int)) (api_Ratio.mk (IntKind.i64.wrap (y2 - (4 : Int))) (1 : Int)))]))])]⟩) ?_
      replace H0 := req_some H0
      obtain ⟨q_14, H0⟩ := H0
      replace H0 := bindV_some H0
      obtain ⟨w, a_7, H0⟩ := H0
      refine lok_rlg E0 a_7 (⟨48, mkS [(0, .x (.one (.ptr 0 0))), (2, .x (.one (.ptr 102 0))), (3, .x (.one (.p (pi x)))), (4, .x (.one (.p (pi y10)))), (5, .x (.one (.ptr 105 0))), (6, .x (.one (.p (pi (IntKind.i64.wrap ((1 : Int) + y4))))))], mkH [(0, .var [.p (.sl 1 (List.map encI y9.L)), .p (pi y9.At)]), (102, .var [.p .nil]), (105, .var [.vw 145]), (145, .arr 4 (List.map enc_api_Point w))]⟩) ?_
      try simp only [thenL, blockL, ↓reduceIte, reduceCtorEq]
      refine lok_rl E0 (⟨48, mkS [(0, .x (.one (.ptr 0 0))), (2, .x (.one (.ptr 102 0))), (3, .x (.one (.p (pi x)))), (4, .x (.one (.p (pi y10)))), (5, .x (.one (.ptr 105 0))), (6, .x (.one (.p (pi (IntKind.i64.wrap ((IntKind.i64.wrap ((1 : Int) + y4)) - (1 : Int)))))))], mkH [(0, .var [.p (.sl 1 (List.map encI y9.L)), .p (pi y9.At)]), (102, .var [.p .nil]), (105, .var [.vw 145]), (145, .arr 4 (List.map enc_api_Point w))]⟩) ?_
      try simp only [thenL, blockL, ↓reduceIte, reduceCtorEq]
      replace H0 := bind_some H0
      obtain ⟨v_8, hv_8, H0⟩ := H0
      refine lokin_iter (fun x_ => ⟨48, mkS [(0, .x (.one (.ptr 0 0))), (2, .x (.one (.ptr 102 0))), (3, .x (.one (.p (pi x_.1)))), (4, .x (.one (.p (pi x_.2.1)))), (5, .x (.one (.ptr 105 0))), (6, .x (.one (.p (pi x_.2.2.1))))], mkH [(0, .var [.p (.sl 1 (List.map encI x_.2.2.2.1)), .p (pi x_.2.2.2.2.1)]), (102, .var [.p .nil]), (105, .var [.vw 145]), (145, .arr 4 (List.map enc_api_Point x_.2.2.2.2.2))]⟩) hv_8 imp_au ?_
      · rintro ⟨x1, y11, i, d3, d4, w1⟩ o_1 H1 k_1
        unfold mark_Dice_Curve_l2 at H1
        try dsimp only at H1 ⊢
        refine lok_seq ?_
        refine lok_rt E0 (⟨48, mkS [(0, .x (.one (.ptr 0 0))), (2, .x (.one (.ptr 102 0))), (3, .x (.one (.p (pi x1)))), (4, .x (.one (.p (pi y11)))), (5, .x (.one (.ptr 105 0))), (6, .x (.one (.p (pi i)))), (24, .x (.one (.p (.val (.bool (decide ((0 : Int) < i)))))))], mkH [(0, .var [.p (.sl 1 (List.map encI d3)), .p (pi d4)]), (102, .var [.p .nil]), (105, .var [.vw 145]), (145, .arr 4 (List.map enc_api_Point w1))]⟩) ?_
        refine lok_c (decide ((0 : Int) < i)) ?_ ?_
        · intro b_13
          replace H1 := cpos H1 b_13
          refine lok_skip ?_
          try simp only [thenL, blockL, ↓reduceIte, reduceCtorEq]
          refine lok_seq ?_
          refine lok_block ?_
          replace H1 := bind_some H1
          obtain ⟨⟨y12, y13⟩, h_9, H1⟩ := H1
          try dsimp only at H1
          replace H1 := bind_some H1
          obtain ⟨⟨y14, y15⟩, h_10, H1⟩ := H1
          try dsimp only at H1
          refine lok_rt (Env.of E0 [⟨some 30, 29, [.one (.ptr 0 0), .one (.p (pi (3 : Int)))], [.var [.p (.sl 1 (List.map encI d3)), .p (pi d4)]], [.one (.p (pi y12))], [some (.var [.p (.sl 1 (List.map encI y13.L)), .p (pi y13.At)])], True, fun _ => ok_mark_Dice_Next (mark_Dice.mk d3 d4) (3 : Int) (y12, y13) h_9, []⟩,
      ⟨some 35, 29, [.one (.ptr 0 0), .one (.p (pi (4 : Int)))], [.var [.p (.sl 1 (List.map encI y13.L)), .p (pi y13.At)]], [.one (.p (pi y14))], [some (.var [.p (.sl 1 (List.map encI y15.L)), .p (pi y15.At)])], True, fun _ => ok_mark_Dice_Next y13 (4 : Int) (y14, y15) h_10, []⟩]) (⟨48, mkS [(0, .x (.one (.ptr 0 0))), (2, .x (.one (.ptr 102 0))), (3, .x (.one (.p (pi (IntKind.i64.wrap ((IntKind.i64.wrap (x1 + (1 : Int))) + y12)))))), (4, .x (.one (.p (pi (IntKind.i64.wrap ((IntKind.i64.wrap (y11 + (1 : Int))) + y14)))))), (5, .x (.one (.ptr 105 0))), (6, .x (.one (.p (pi i))))], mkH [(0, .var [.p (.sl 1 (List.map encI y15.L)), .p (pi y15.At)]), (102, .var [.p .nil]), (105, .var [.vw 145]), (145, .arr 4 (List.map enc_api_Point w1))]⟩) ?_
          replace H1 := req_some H1
          obtain ⟨q_12, H1⟩ := H1
          replace H1 := bindV_some H1
          obtain ⟨w3, a_11, H1⟩ := H1
          refine lok_rlg E0 a_11 (⟨48, mkS [(0, .x (.one (.ptr 0 0))), (2, .x (.one (.ptr 102 0))), (3, .x (.one (.p (pi (IntKind.i64.wrap ((IntKind.i64.wrap (x1 + (1 : Int))) + y12)))))), (4, .x (.one (.p (pi (IntKind.i64.wrap ((IntKind.i64.wrap (y11 + (1 : Int))) + y14)))))), (5, .x (.one (.ptr 105 0))), (6, .x (.one (.p (pi i))))], mkH [(0, .var [.p (.sl 1 (List.map encI y15.L)), .p (pi y15.At)]), (102, .var [.p .nil]), (105, .var [.vw 145]), (145, .arr 4 (List.map enc_api_Point w3))]⟩) ?_
          try simp only [thenL, blockL, ↓reduceIte, reduceCtorEq]
          refine lok_rl E0 (⟨48, mkS [(0, .x (.one (.ptr 0 0))), (2, .x (.one (.ptr 102 0))), (3, .x (.one (.p (pi (IntKind.i64.wrap ((IntKind.i64.wrap (x1 + (1 : Int))) + y12)))))), (4, .x (.one (.p (pi (IntKind.i64.wrap ((IntKind.i64.wrap (y11 + (1 : Int))) + y14)))))), (5, .x (.one (.ptr 105 0))), (6, .x (.one (.p (pi (IntKind.i64.wrap (i - (1 : Int)))))))], mkH [(0, .var [.p (.sl 1 (List.map encI y15.L)), .p (pi y15.At)]), (102, .var [.p .nil]), (105, .var [.vw 145]), (145, .arr 4 (List.map enc_api_Point w3))]⟩) ?_
          try simp only [thenL, blockL, ↓reduceIte, reduceCtorEq]
          exact ⟨((IntKind.i64.wrap ((IntKind.i64.wrap (x1 + (1 : Int))) + y12)), (IntKind.i64.wrap ((IntKind.i64.wrap (y11 + (1 : Int))) + y14)), (IntKind.i64.wrap (i - (1 : Int))), y15.L, y15.At, w3), (Option.some.inj H1).symm, imp_au⟩
        · intro b_13
          replace H1 := cneg H1 b_13
          refine lok_exit ?_
          try simp only [thenL, blockL, ↓reduceIte, reduceCtorEq]
          have e_1 := k_1 _ (Option.some.inj H1).symm
          subst e_1
          try dsimp only at H0
          try simp only [thenL, blockL, ↓reduceIte, reduceCtorEq]
          exact ⟨(d3, d4, w1), H0, (Imp.trans (imp_frz 145 4 (List.map enc_api_Point w1)) imp_au)⟩
    · intro b_15
      replace H0 := cneg H0 b_15
      refine lok_exit ?_
      try simp only [thenL, blockL, ↓reduceIte, reduceCtorEq]
      exact ⟨(y5.L, y5.At, [(api_Point.mk (api_Ratio.mk (IntKind.i64.wrap (y - (4 : Int))) (1 : Int)) (api_Ratio.mk (IntKind.i64.wrap (y2 - (4 : Int))) (1 : Int)))]), H0, imp_au⟩
theorem ok_boundary_isScore (n : Int) (r_ : Bool) (H0 : boundary_isScore n = some r_) : CallOK Try.prog 42 [.one (.p (pi n))] [] [.one (.p (.val (.bool r_)))] [] := by
  refine callOK (n := 9) (rs := [.tmp 2]) (nb := 0) (V := []) Try.func42 rfl (by kernel_rfl) rfl rfl rfl rfl (Nat.le_of_ble_eq_true rfl) (by decide) ?_
  unfold boundary_isScore at H0
  refine lok_rt E0 (⟨9, mkS [(0, .x (.one (.p (pi n))))], mkH []⟩) ?_
  refine lok_rt E0 (⟨9, mkS [(2, .x (.one (.p (.val (.bool ((decide ((0 : Int) ≤ n)) && (decide (n ≤ (200 : Int)))))))))], mkH []⟩) ?_
  refine lok_ret ?_
  obtain rfl := Option.some.inj H0
  try simp only [thenL, blockL]
  exact fin_au _ (.inr rfl) [] (⟨9, mkS [(2, .x (.one (.p (.val (.bool ((decide ((0 : Int) ≤ n)) && (decide (n ≤ (200 : Int)))))))))], mkH []⟩) rfl rfl imp_au
set_option maxHeartbeats 4000000 in
theorem ok_boundary_Check (b : List Int) (most : Int) (r_ : Int) (H0 : boundary_Check b most = some r_) : CallOK Try.prog 27 [.one (.p (.sl 1 (List.map encI b))), .one (.p (pi most))] [] [.one (.p (pi r_))] [] := by
  refine callOK (n := 50) (rs := [.tmp 4]) (nb := 0) (V := []) Try.func27 rfl (by kernel_rfl) rfl rfl rfl rfl (Nat.le_of_ble_eq_true rfl) (by decide) ?_
  unfold boundary_Check at H0
  refine lok_rt E0 (⟨50, mkS [(0, .x (.one (.p (.sl 1 (List.map encI b))))), (1, .x (.one (.p (pi most))))], mkH []⟩) ?_
  refine lok_seq ?_
  replace H0 := bind_some H0
  obtain ⟨y, h_0, H0⟩ := H0
  refine lok_rt (Env.of E0 [⟨some 9, 42, [.one (.p (pi most))], [], [.one (.p (.val (.bool y)))], [], True, fun _ => ok_boundary_isScore most y h_0, []⟩]) (⟨50, mkS [(0, .x (.one (.p (.sl 1 (List.map encI b))))), (1, .x (.one (.p (pi most)))), (10, .x (.one (.p (.val (.bool (!y))))))], mkH []⟩) ?_
  refine lok_c (!y) ?_ ?_
  · intro b_11
    replace H0 := cpos H0 b_11
    refine lok_rt E0 (⟨50, mkS [(4, .x (.one (.p (pi (2 : Int)))))], mkH []⟩) ?_
    refine lok_ret ?_
    obtain rfl := Option.some.inj H0
    try simp only [thenL, blockL]
    exact fin_au _ (.inr rfl) [] (⟨50, mkS [(4, .x (.one (.p (pi (2 : Int)))))], mkH []⟩) rfl rfl imp_au
  · intro b_11
    replace H0 := cneg H0 b_11
    refine lok_skip ?_
    try simp only [thenL, blockL, ↓reduceIte, reduceCtorEq]
    refine lok_seq ?_
    refine lok_rt E0 (⟨50, mkS [(0, .x (.one (.p (.sl 1 (List.map encI b))))), (1, .x (.one (.p (pi most)))), (18, .x (.one (.p (.val (.bool ((decide ((b.length : Int) < (1 : Int))) || (decide ((9 : Int) < (b.length : Int)))))))))], mkH []⟩) ?_
    refine lok_c ((decide ((b.length : Int) < (1 : Int))) || (decide ((9 : Int) < (b.length : Int)))) ?_ ?_
    · intro b_10
      replace H0 := cpos H0 b_10
      refine lok_rt E0 (⟨50, mkS [(4, .x (.one (.p (pi (3 : Int)))))], mkH []⟩) ?_
      refine lok_ret ?_
      obtain rfl := Option.some.inj H0
      try simp only [thenL, blockL]
      exact fin_au _ (.inr rfl) [] (⟨50, mkS [(4, .x (.one (.p (pi (3 : Int)))))], mkH []⟩) rfl rfl imp_au
    · intro b_10
      replace H0 := cneg H0 b_10
      refine lok_skip ?_
      try simp only [thenL, blockL, ↓reduceIte, reduceCtorEq]
      refine lok_join (fun x_ : Unit => boundary_Check_j3 b = some r_) (fun x_ => ⟨50, mkS [(0, .x (.one (.p (.sl 1 (List.map encI b)))))], mkH []⟩) ?hyboundary_Check_j3 ?hxboundary_Check_j3
      case hyboundary_Check_j3 =>
        rintro _ H0
        try dsimp only at H0 ⊢
        unfold boundary_Check_j3 at H0
        refine lok_join (fun x_ : Unit => boundary_Check_j1 = some r_) (fun x_ => ⟨50, mkS [], mkH []⟩) ?hyboundary_Check_j1 ?hxboundary_Check_j1
        case hyboundary_Check_j1 =>
          rintro _ H0
          try dsimp only at H0 ⊢
          unfold boundary_Check_j1 at H0
          refine lok_rt E0 (⟨50, mkS [(4, .x (.one (.p (pi (0 : Int)))))], mkH []⟩) ?_
          refine lok_ret ?_
          obtain rfl := Option.some.inj H0
          try simp only [thenL, blockL]
          exact fin_au _ (.inr rfl) [] (⟨50, mkS [(4, .x (.one (.p (pi (0 : Int)))))], mkH []⟩) rfl rfl imp_au
        case hxboundary_Check_j1 =>
          refine lok_rt E0 (⟨50, mkS [(0, .x (.one (.p (.sl 1 (List.map encI b))))), (7, .x (.one (.p (pi (1 : Int)))))], mkH []⟩) ?_
          refine lok_block ?_
          replace H0 := bind_some H0
          obtain ⟨v_1, hv_1, H0⟩ := H0
          refine lok_iter (fun x_ => ⟨50, mkS [(0, .x (.one (.p (.sl 1 (List.map encI b))))), (7, .x (.one (.p (pi x_))))], mkH []⟩) hv_1 imp_au ?_
          · rintro i o_1 H1 k_1
            unfold boundary_Check_l2 at H1
            try dsimp only at H1 ⊢
            refine lok_seq ?_
            refine lok_rt E0 (⟨50, mkS [(0, .x (.one (.p (.sl 1 (List.map encI b))))), (7, .x (.one (.p (pi i)))), (37, .x (.one (.p (.val (.bool (decide (i < (b.length : Int))))))))], mkH []⟩) ?_
            refine lok_c (decide (i < (b.length : Int))) ?_ ?_
            · intro b_5
              replace H1 := cpos H1 b_5
              refine lok_skip ?_
              try simp only [thenL, blockL, ↓reduceIte, reduceCtorEq]
              refine lok_seq ?_
              refine lok_block ?_
              replace H1 := req_some H1
              obtain ⟨⟨q_3, q_4⟩, H1⟩ := H1
              refine lok_dt E0 9 (⟨50, mkS [(0, .x (.one (.p (.sl 1 (List.map encI b))))), (7, .x (.one (.p (pi i)))), (49, .x (.one (.p (.val (.bool (decide ((ix b (IntKind.i64.wrap (i - (1 : Int)))) < (ix b i))))))))], mkH []⟩) (by kernel_rfl) (by kernel_rfl) ?_
              refine lok_c (decide ((ix b (IntKind.i64.wrap (i - (1 : Int)))) < (ix b i))) ?_ ?_
              · intro b_2
                replace H1 := cpos H1 b_2
                refine lok_rt E0 (⟨50, mkS [(4, .x (.one (.p (pi (43 : Int)))))], mkH []⟩) ?_
                refine lok_ret ?_
                try simp only [thenL, blockL, ↓reduceIte, reduceCtorEq]
                have e_1 := k_1 _ (Option.some.inj H1).symm
                subst e_1
                try dsimp only at H0
                obtain rfl := Option.some.inj H0
                try simp only [thenL, blockL]
                exact fin_au _ (.inr rfl) [] (⟨50, mkS [(4, .x (.one (.p (pi (43 : Int)))))], mkH []⟩) rfl rfl imp_au
              · intro b_2
                replace H1 := cneg H1 b_2
                refine lok_skip ?_
                try simp only [thenL, blockL, ↓reduceIte, reduceCtorEq]
                refine lok_rl E0 (⟨50, mkS [(0, .x (.one (.p (.sl 1 (List.map encI b))))), (7, .x (.one (.p (pi (IntKind.i64.wrap (i + (1 : Int)))))))], mkH []⟩) ?_
                try simp only [thenL, blockL, ↓reduceIte, reduceCtorEq]
                exact ⟨(IntKind.i64.wrap (i + (1 : Int))), (Option.some.inj H1).symm, imp_au⟩
            · intro b_5
              replace H1 := cneg H1 b_5
              refine lok_exit ?_
              try simp only [thenL, blockL, ↓reduceIte, reduceCtorEq]
              have e_1 := k_1 _ (Option.some.inj H1).symm
              subst e_1
              try dsimp only at H0
              try simp only [thenL, blockL, ↓reduceIte, reduceCtorEq]
              exact ⟨(), H0, imp_au⟩
      case hxboundary_Check_j3 =>
        refine lok_rt E0 (⟨50, mkS [(0, .x (.one (.p (.sl 1 (List.map encI b))))), (1, .x (.one (.p (pi most)))), (19, .x (.one (.p (.sl 1 (List.map encI b))))), (20, .x (.one (.p (pi (b.length : Int))))), (21, .x (.one (.p (pi (0 : Int)))))], mkH []⟩) ?_
        refine lok_block ?_
        replace H0 := bind_some H0
        obtain ⟨v_6, hv_6, H0⟩ := H0
        refine lok_iter (fun x_ => ⟨50, mkS [(0, .x (.one (.p (.sl 1 (List.map encI b))))), (1, .x (.one (.p (pi most)))), (19, .x (.one (.p (.sl 1 (List.map encI b))))), (20, .x (.one (.p (pi (b.length : Int))))), (21, .x (.one (.p (pi x_))))], mkH []⟩) hv_6 imp_au ?_
        · rintro v o_1 H1 k_1
          unfold boundary_Check_l4 at H1
          try dsimp only at H1 ⊢
          refine lok_rt E0 (⟨50, mkS [(0, .x (.one (.p (.sl 1 (List.map encI b))))), (1, .x (.one (.p (pi most)))), (19, .x (.one (.p (.sl 1 (List.map encI b))))), (20, .x (.one (.p (pi (b.length : Int))))), (21, .x (.one (.p (pi v)))), (22, .x (.one (.p (.val (.bool (decide (v < (b.length : Int))))))))], mkH []⟩) ?_
          refine lok_seq ?_
          refine lok_c (decide (v < (b.length : Int))) ?_ ?_
          · intro b_9
            replace H1 := cpos H1 b_9
            refine lok_skip ?_
            try simp only [thenL, blockL, ↓reduceIte, reduceCtorEq]
            refine lok_seq ?_
            refine lok_block ?_
            replace H1 := req_some H1
            obtain ⟨q_8, H1⟩ := H1
            refine lok_rt E0 (⟨50, mkS [(0, .x (.one (.p (.sl 1 (List.map encI b))))), (1, .x (.one (.p (pi most)))), (6, .x (.one (.p (pi (ix b v))))), (19, .x (.one (.p (.sl 1 (List.map encI b))))), (20, .x (.one (.p (pi (b.length : Int))))), (21, .x (.one (.p (pi v))))], mkH []⟩) ?_
            refine lok_rt E0 (⟨50, mkS [(0, .x (.one (.p (.sl 1 (List.map encI b))))), (1, .x (.one (.p (pi most)))), (19, .x (.one (.p (.sl 1 (List.map encI b))))), (20, .x (.one (.p (pi (b.length : Int))))), (21, .x (.one (.p (pi v)))), (32, .x (.one (.p (.val (.bool ((decide ((ix b v) < (0 : Int))) || (decide ((IntKind.i64.wrap (most + (1 : Int))) < (ix b v)))))))))], mkH []⟩) ?_
            refine lok_c ((decide ((ix b v) < (0 : Int))) || (decide ((IntKind.i64.wrap (most + (1 : Int))) < (ix b v)))) ?_ ?_
            · intro b_7
              replace H1 := cpos H1 b_7
              refine lok_rt E0 (⟨50, mkS [(4, .x (.one (.p (pi (2 : Int)))))], mkH []⟩) ?_
              refine lok_ret ?_
              try simp only [thenL, blockL, ↓reduceIte, reduceCtorEq]
              have e_1 := k_1 _ (Option.some.inj H1).symm
              subst e_1
              try dsimp only at H0
              obtain rfl := Option.some.inj H0
              try simp only [thenL, blockL]
              exact fin_au _ (.inr rfl) [] (⟨50, mkS [(4, .x (.one (.p (pi (2 : Int)))))], mkH []⟩) rfl rfl imp_au
            · intro b_7
              replace H1 := cneg H1 b_7
              refine lok_skip ?_
              try simp only [thenL, blockL, ↓reduceIte, reduceCtorEq]
              refine lok_rl E0 (⟨50, mkS [(0, .x (.one (.p (.sl 1 (List.map encI b))))), (1, .x (.one (.p (pi most)))), (19, .x (.one (.p (.sl 1 (List.map encI b))))), (20, .x (.one (.p (pi (b.length : Int))))), (21, .x (.one (.p (pi (IntKind.i64.wrap (v + (1 : Int)))))))], mkH []⟩) ?_
              try simp only [thenL, blockL, ↓reduceIte, reduceCtorEq]
              exact ⟨(IntKind.i64.wrap (v + (1 : Int))), (Option.some.inj H1).symm, imp_au⟩
          · intro b_9
            replace H1 := cneg H1 b_9
            refine lok_exit ?_
            try simp only [thenL, blockL, ↓reduceIte, reduceCtorEq]
            have e_1 := k_1 _ (Option.some.inj H1).symm
            subst e_1
            try dsimp only at H0
            try simp only [thenL, blockL, ↓reduceIte, reduceCtorEq]
            exact ⟨(), H0, imp_au⟩
theorem ok_ratio_magnitude (n : Int) (r_ : Int) (H0 : ratio_magnitude n = some r_) : CallOK Try.prog 52 [.one (.p (pi n))] [] [.one (.p (.val (.int .u64 r_)))] [] := by
  refine callOK (n := 10) (rs := [.tmp 2]) (nb := 0) (V := []) Try.func52 rfl (by kernel_rfl) rfl rfl rfl rfl (Nat.le_of_ble_eq_true rfl) (by decide) ?_
  unfold ratio_magnitude at H0
  refine lok_rt E0 (⟨10, mkS [(0, .x (.one (.p (pi n))))], mkH []⟩) ?_
  refine lok_seq ?_
  refine lok_rt E0 (⟨10, mkS [(0, .x (.one (.p (pi n)))), (4, .x (.one (.p (.val (.bool (decide (n < (0 : Int))))))))], mkH []⟩) ?_
  refine lok_c (decide (n < (0 : Int))) ?_ ?_
  · intro b_0
    replace H0 := cpos H0 b_0
    refine lok_rt E0 (⟨10, mkS [(2, .x (.one (.p (.val (.int .u64 (IntKind.u64.wrap (0 - (IntKind.u64.wrap n))))))))], mkH []⟩) ?_
    refine lok_ret ?_
    obtain rfl := Option.some.inj H0
    try simp only [thenL, blockL]
    exact fin_au _ (.inr rfl) [] (⟨10, mkS [(2, .x (.one (.p (.val (.int .u64 (IntKind.u64.wrap (0 - (IntKind.u64.wrap n))))))))], mkH []⟩) rfl rfl imp_au
  · intro b_0
    replace H0 := cneg H0 b_0
    refine lok_skip ?_
    try simp only [thenL, blockL, ↓reduceIte, reduceCtorEq]
    refine lok_rt E0 (⟨10, mkS [(2, .x (.one (.p (.val (.int .u64 (IntKind.u64.wrap n))))))], mkH []⟩) ?_
    refine lok_ret ?_
    obtain rfl := Option.some.inj H0
    try simp only [thenL, blockL]
    exact fin_au _ (.inr rfl) [] (⟨10, mkS [(2, .x (.one (.p (.val (.int .u64 (IntKind.u64.wrap n))))))], mkH []⟩) rfl rfl imp_au
theorem ok_ratio_gcd (a : Int) (b : Int) (r_ : Int) (H0 : ratio_gcd a b = some r_) : CallOK Try.prog 60 [.one (.p (.val (.int .u64 a))), .one (.p (.val (.int .u64 b)))] [] [.one (.p (.val (.int .u64 r_)))] [] := by
  refine callOK (n := 12) (rs := [.tmp 4]) (nb := 0) (V := []) Try.func60 rfl (by kernel_rfl) rfl rfl rfl rfl (Nat.le_of_ble_eq_true rfl) (by decide) ?_
  unfold ratio_gcd at H0
  refine lok_rt E0 (⟨12, mkS [(0, .x (.one (.p (.val (.int .u64 a))))), (1, .x (.one (.p (.val (.int .u64 b)))))], mkH []⟩) ?_
  refine lok_join (fun x_ : Int => ratio_gcd_j1 x_ = some r_) (fun x_ => ⟨12, mkS [(0, .x (.one (.p (.val (.int .u64 x_)))))], mkH []⟩) ?hyratio_gcd_j1 ?hxratio_gcd_j1
  case hyratio_gcd_j1 =>
    rintro a1 H0
    try dsimp only at H0 ⊢
    unfold ratio_gcd_j1 at H0
    refine lok_rt E0 (⟨12, mkS [(4, .x (.one (.p (.val (.int .u64 a1)))))], mkH []⟩) ?_
    refine lok_ret ?_
    obtain rfl := Option.some.inj H0
    try simp only [thenL, blockL]
    exact fin_au _ (.inr rfl) [] (⟨12, mkS [(4, .x (.one (.p (.val (.int .u64 a1)))))], mkH []⟩) rfl rfl imp_au
  case hxratio_gcd_j1 =>
    refine lok_block ?_
    replace H0 := bind_some H0
    obtain ⟨v_0, hv_0, H0⟩ := H0
    refine lok_iter (fun x_ => ⟨12, mkS [(0, .x (.one (.p (.val (.int .u64 x_.1))))), (1, .x (.one (.p (.val (.int .u64 x_.2)))))], mkH []⟩) hv_0 imp_au ?_
    · rintro ⟨a2, b1⟩ o_1 H1 k_1
      unfold ratio_gcd_l2 at H1
      try dsimp only at H1 ⊢
      refine lok_seq ?_
      refine lok_rt E0 (⟨12, mkS [(0, .x (.one (.p (.val (.int .u64 a2))))), (1, .x (.one (.p (.val (.int .u64 b1))))), (6, .x (.one (.p (.val (.bool (b1 != (0 : Int)))))))], mkH []⟩) ?_
      refine lok_c (b1 != (0 : Int)) ?_ ?_
      · intro b_2
        replace H1 := cpos H1 b_2
        refine lok_skip ?_
        try simp only [thenL, blockL, ↓reduceIte, reduceCtorEq]
        refine lok_block ?_
        replace H1 := req_some H1
        obtain ⟨q_1, H1⟩ := H1
        refine lok_dl E0 5 (⟨12, mkS [(0, .x (.one (.p (.val (.int .u64 b1))))), (1, .x (.one (.p (.val (.int .u64 (Int.tmod a2 b1))))))], mkH []⟩) (by kernel_rfl) (by kernel_rfl) ?_
        try simp only [thenL, blockL, ↓reduceIte, reduceCtorEq]
        exact ⟨(b1, (Int.tmod a2 b1)), (Option.some.inj H1).symm, imp_au⟩
      · intro b_2
        replace H1 := cneg H1 b_2
        refine lok_exit ?_
        try simp only [thenL, blockL, ↓reduceIte, reduceCtorEq]
        have e_1 := k_1 _ (Option.some.inj H1).symm
        subst e_1
        try dsimp only at H0
        try simp only [thenL, blockL, ↓reduceIte, reduceCtorEq]
        exact ⟨a2, H0, imp_au⟩
theorem ok_ratio_Valid (a : api_Ratio) (r_ : Bool) (H0 : ratio_Valid a = some r_) : CallOK Try.prog 48 [.agg [.p (pi a.Num), .p (pi a.Den)]] [] [.one (.p (.val (.bool r_)))] [] := by
  refine callOK (n := 29) (rs := [.tmp 2]) (nb := 0) (V := []) Try.func48 rfl (by kernel_rfl) rfl rfl rfl rfl (Nat.le_of_ble_eq_true rfl) (by decide) ?_
  unfold ratio_Valid at H0
  refine lok_rt E0 (⟨29, mkS [(1, .x (.one (.ptr 101 0)))], mkH [(101, .var [.p (pi a.Num), .p (pi a.Den)])]⟩) ?_
  refine lok_seq ?_
  refine lok_rt E0 (⟨29, mkS [(1, .x (.one (.ptr 101 0))), (20, .x (.one (.p (.val (.bool ((((decide (a.Den < (1 : Int))) || (decide ((1152921504606846976 : Int) < a.Den))) || (decide (a.Num < (-1152921504606846976 : Int)))) || (decide ((1152921504606846976 : Int) < a.Num))))))))], mkH [(101, .var [.p (pi a.Num), .p (pi a.Den)])]⟩) ?_
  refine lok_c ((((decide (a.Den < (1 : Int))) || (decide ((1152921504606846976 : Int) < a.Den))) || (decide (a.Num < (-1152921504606846976 : Int)))) || (decide ((1152921504606846976 : Int) < a.Num))) ?_ ?_
  · intro b_2
    replace H0 := cpos H0 b_2
    refine lok_rt E0 (⟨29, mkS [(2, .x (.one (.p (.val (.bool false)))))], mkH []⟩) ?_
    refine lok_ret ?_
    obtain rfl := Option.some.inj H0
    try simp only [thenL, blockL]
    exact fin_au _ (.inr rfl) [] (⟨29, mkS [(2, .x (.one (.p (.val (.bool false)))))], mkH []⟩) rfl rfl imp_au
  · intro b_2
    replace H0 := cneg H0 b_2
    refine lok_skip ?_
    try simp only [thenL, blockL, ↓reduceIte, reduceCtorEq]
    replace H0 := bind_some H0
    obtain ⟨y, h_0, H0⟩ := H0
    replace H0 := bind_some H0
    obtain ⟨y1, h_1, H0⟩ := H0
    refine lok_dt (Env.of E0 [⟨some 23, 52, [.one (.p (pi a.Num))], [], [.one (.p (.val (.int .u64 y)))], [], True, fun _ => ok_ratio_magnitude a.Num y h_0, []⟩,
      ⟨some 27, 60, [.one (.p (.val (.int .u64 y))), .one (.p (.val (.int .u64 (IntKind.u64.wrap a.Den))))], [], [.one (.p (.val (.int .u64 y1)))], [], True, fun _ => ok_ratio_gcd y (IntKind.u64.wrap a.Den) y1 h_1, []⟩]) 6 (⟨29, mkS [(2, .x (.one (.p (.val (.bool (y1 == (1 : Int)))))))], mkH []⟩) (by kernel_rfl) (by kernel_rfl) ?_
    refine lok_ret ?_
    obtain rfl := Option.some.inj H0
    try simp only [thenL, blockL]
    exact fin_au _ (.inr rfl) [] (⟨29, mkS [(2, .x (.one (.p (.val (.bool (y1 == (1 : Int)))))))], mkH []⟩) rfl rfl imp_au
theorem ok_bits_Mul64 (x : Int) (y : Int) (r_ : Int × Int) (H0 : bits_Mul64 x y = some r_) : CallOK Try.prog 82 [.one (.p (.val (.int .u64 x))), .one (.p (.val (.int .u64 y)))] [] [.one (.p (.val (.int .u64 r_.1))), .one (.p (.val (.int .u64 r_.2)))] [] := by
  refine callOK (n := 51) (rs := [.tmp 4, .tmp 5]) (nb := 0) (V := []) Try.func82 rfl (by kernel_rfl) rfl rfl rfl rfl (Nat.le_of_ble_eq_true rfl) (by decide) ?_
  unfold bits_Mul64 at H0
  refine lok_rt E0 (⟨51, mkS [(0, .x (.one (.p (.val (.int .u64 x))))), (1, .x (.one (.p (.val (.int .u64 y)))))], mkH []⟩) ?_
  refine lok_rt E0 (⟨51, mkS [(0, .x (.one (.p (.val (.int .u64 x))))), (1, .x (.one (.p (.val (.int .u64 y))))), (6, .x (.one (.p (.val (.int .u64 (bAnd .u64 x (4294967295 : Int)))))))], mkH []⟩) ?_
  refine lok_rt E0 (⟨51, mkS [(0, .x (.one (.p (.val (.int .u64 x))))), (1, .x (.one (.p (.val (.int .u64 y))))), (6, .x (.one (.p (.val (.int .u64 (bAnd .u64 x (4294967295 : Int))))))), (7, .x (.one (.p (.val (.int .u64 (bShr .u64 x (32 : Int)))))))], mkH []⟩) ?_
  refine lok_rt E0 (⟨51, mkS [(0, .x (.one (.p (.val (.int .u64 x))))), (1, .x (.one (.p (.val (.int .u64 y))))), (6, .x (.one (.p (.val (.int .u64 (bAnd .u64 x (4294967295 : Int))))))), (7, .x (.one (.p (.val (.int .u64 (bShr .u64 x (32 : Int))))))), (8, .x (.one (.p (.val (.int .u64 (bAnd .u64 y (4294967295 : Int)))))))], mkH []⟩) ?_
  refine lok_rt E0 (⟨51, mkS [(0, .x (.one (.p (.val (.int .u64 x))))), (1, .x (.one (.p (.val (.int .u64 y))))), (6, .x (.one (.p (.val (.int .u64 (bAnd .u64 x (4294967295 : Int))))))), (7, .x (.one (.p (.val (.int .u64 (bShr .u64 x (32 : Int))))))), (8, .x (.one (.p (.val (.int .u64 (bAnd .u64 y (4294967295 : Int))))))), (9, .x (.one (.p (.val (.int .u64 (bShr .u64 y (32 : Int)))))))], mkH []⟩) ?_
  replace H0 := bindV_some H0
  obtain ⟨w0, a_0, H0⟩ := H0
  refine lok_rtg E0 a_0 (⟨51, mkS [(0, .x (.one (.p (.val (.int .u64 x))))), (1, .x (.one (.p (.val (.int .u64 y))))), (6, .x (.one (.p (.val (.int .u64 (bAnd .u64 x (4294967295 : Int))))))), (7, .x (.one (.p (.val (.int .u64 (bShr .u64 x (32 : Int))))))), (8, .x (.one (.p (.val (.int .u64 (bAnd .u64 y (4294967295 : Int))))))), (9, .x (.one (.p (.val (.int .u64 (bShr .u64 y (32 : Int))))))), (10, .x (.one (.p (.val (.int .u64 w0)))))], mkH []⟩) ?_
  replace H0 := bindV_some H0
  obtain ⟨t, a_1, H0⟩ := H0
  refine lok_rtg E0 a_1 (⟨51, mkS [(0, .x (.one (.p (.val (.int .u64 x))))), (1, .x (.one (.p (.val (.int .u64 y))))), (6, .x (.one (.p (.val (.int .u64 (bAnd .u64 x (4294967295 : Int))))))), (7, .x (.one (.p (.val (.int .u64 (bShr .u64 x (32 : Int))))))), (9, .x (.one (.p (.val (.int .u64 (bShr .u64 y (32 : Int))))))), (11, .x (.one (.p (.val (.int .u64 t)))))], mkH []⟩) ?_
  refine lok_rt E0 (⟨51, mkS [(0, .x (.one (.p (.val (.int .u64 x))))), (1, .x (.one (.p (.val (.int .u64 y))))), (6, .x (.one (.p (.val (.int .u64 (bAnd .u64 x (4294967295 : Int))))))), (7, .x (.one (.p (.val (.int .u64 (bShr .u64 x (32 : Int))))))), (9, .x (.one (.p (.val (.int .u64 (bShr .u64 y (32 : Int))))))), (11, .x (.one (.p (.val (.int .u64 t))))), (12, .x (.one (.p (.val (.int .u64 (bAnd .u64 t (4294967295 : Int)))))))], mkH []⟩) ?_
  refine lok_rt E0 (⟨51, mkS [(0, .x (.one (.p (.val (.int .u64 x))))), (1, .x (.one (.p (.val (.int .u64 y))))), (6, .x (.one (.p (.val (.int .u64 (bAnd .u64 x (4294967295 : Int))))))), (7, .x (.one (.p (.val (.int .u64 (bShr .u64 x (32 : Int))))))), (9, .x (.one (.p (.val (.int .u64 (bShr .u64 y (32 : Int))))))), (12, .x (.one (.p (.val (.int .u64 (bAnd .u64 t (4294967295 : Int))))))), (13, .x (.one (.p (.val (.int .u64 (bShr .u64 t (32 : Int)))))))], mkH []⟩) ?_
  replace H0 := bindV_some H0
  obtain ⟨w1, a_2, H0⟩ := H0
  refine lok_rtg E0 a_2 (⟨51, mkS [(0, .x (.one (.p (.val (.int .u64 x))))), (1, .x (.one (.p (.val (.int .u64 y))))), (7, .x (.one (.p (.val (.int .u64 (bShr .u64 x (32 : Int))))))), (9, .x (.one (.p (.val (.int .u64 (bShr .u64 y (32 : Int))))))), (12, .x (.one (.p (.val (.int .u64 w1))))), (13, .x (.one (.p (.val (.int .u64 (bShr .u64 t (32 : Int)))))))], mkH []⟩) ?_
  replace H0 := bindV_some H0
  obtain ⟨hi, a_3, H0⟩ := H0
  refine lok_rtg E0 a_3 (⟨51, mkS [(0, .x (.one (.p (.val (.int .u64 x))))), (1, .x (.one (.p (.val (.int .u64 y))))), (4, .x (.one (.p (.val (.int .u64 hi)))))], mkH []⟩) ?_
  refine lok_rt E0 (⟨51, mkS [(4, .x (.one (.p (.val (.int .u64 hi))))), (5, .x (.one (.p (.val (.int .u64 (IntKind.u64.wrap (x * y)))))))], mkH []⟩) ?_
  refine lok_ret ?_
  obtain rfl := Option.some.inj H0
  try simp only [thenL, blockL]
  exact fin_au _ (.inr rfl) [] (⟨51, mkS [(4, .x (.one (.p (.val (.int .u64 hi))))), (5, .x (.one (.p (.val (.int .u64 (IntKind.u64.wrap (x * y)))))))], mkH []⟩) rfl rfl imp_au
theorem ok_ratio_product (a : Int) (b : Int) (r_ : ratio_wide) (H0 : ratio_product a b = some r_) : CallOK Try.prog 75 [.one (.p (.val (.int .u64 a))), .one (.p (.val (.int .u64 b)))] [] [.agg [.p (.val (.int .u64 r_.hi)), .p (.val (.int .u64 r_.lo))]] [] := by
  refine callOK (n := 16) (rs := [.cell 4 82]) (nb := 0) (V := []) Try.func75 rfl (by kernel_rfl) rfl rfl rfl rfl (Nat.le_of_ble_eq_true rfl) (by decide) ?_
  unfold ratio_product at H0
  refine lok_rt E0 (⟨16, mkS [(0, .x (.one (.p (.val (.int .u64 a))))), (1, .x (.one (.p (.val (.int .u64 b))))), (4, .x (.one (.ptr 104 0)))], mkH [(104, .var [.p (.val (.int .u64 (0 : Int))), .p (.val (.int .u64 (0 : Int)))])]⟩) ?_
  replace H0 := bind_some H0
  obtain ⟨⟨y, y1⟩, h_0, H0⟩ := H0
  try dsimp only at H0
  refine lok_rt (Env.of E0 [⟨some 10, 82, [.one (.p (.val (.int .u64 a))), .one (.p (.val (.int .u64 b)))], [], [.one (.p (.val (.int .u64 y))), .one (.p (.val (.int .u64 y1)))], [], True, fun _ => ok_bits_Mul64 a b (y, y1) h_0, []⟩]) (⟨16, mkS [(4, .x (.one (.ptr 104 0))), (5, .x (.one (.p (.val (.int .u64 y))))), (6, .x (.one (.p (.val (.int .u64 y1)))))], mkH [(104, .var [.p (.val (.int .u64 (0 : Int))), .p (.val (.int .u64 (0 : Int)))])]⟩) ?_
  refine lok_rt E0 (⟨16, mkS [(4, .x (.one (.ptr 104 0)))], mkH [(104, .var [.p (.val (.int .u64 y)), .p (.val (.int .u64 y1))])]⟩) ?_
  refine lok_ret ?_
  obtain rfl := Option.some.inj H0
  try simp only [thenL, blockL]
  exact fin_au _ (.inr rfl) [] (⟨16, mkS [(4, .x (.one (.ptr 104 0)))], mkH [(104, .var [.p (.val (.int .u64 y)), .p (.val (.int .u64 y1))])]⟩) rfl rfl imp_au
theorem ok_ratio_signedProduct (num : Int) (factor : Int) (r_ : ratio_signed) (H0 : ratio_signedProduct num factor = some r_) : CallOK Try.prog 61 [.one (.p (pi num)), .one (.p (.val (.int .u64 factor)))] [] [.agg [.p (.val (.bool r_.neg)), .p (.val (.int .u64 r_.abs.hi)), .p (.val (.int .u64 r_.abs.lo))]] [] := by
  refine callOK (n := 12) (rs := [.cell 4 84]) (nb := 0) (V := []) Try.func61 rfl (by kernel_rfl) rfl rfl rfl rfl (Nat.le_of_ble_eq_true rfl) (by decide) ?_
  unfold ratio_signedProduct at H0
  refine lok_rt E0 (⟨12, mkS [(0, .x (.one (.p (pi num)))), (1, .x (.one (.p (.val (.int .u64 factor))))), (4, .x (.one (.ptr 104 0)))], mkH [(104, .var [.p (.val (.bool false)), .p (.val (.int .u64 (0 : Int))), .p (.val (.int .u64 (0 : Int)))])]⟩) ?_
  replace H0 := bind_some H0
  obtain ⟨y, h_0, H0⟩ := H0
  replace H0 := bind_some H0
  obtain ⟨y1, h_1, H0⟩ := H0
  refine lok_rt (Env.of E0 [⟨some 8, 52, [.one (.p (pi num))], [], [.one (.p (.val (.int .u64 y)))], [], True, fun _ => ok_ratio_magnitude num y h_0, []⟩,
      ⟨some 10, 75, [.one (.p (.val (.int .u64 y))), .one (.p (.val (.int .u64 factor)))], [], [.agg [.p (.val (.int .u64 y1.hi)), .p (.val (.int .u64 y1.lo))]], [], True, fun _ => ok_ratio_product y factor y1 h_1, []⟩]) (⟨12, mkS [(4, .x (.one (.ptr 104 0)))], mkH [(104, .var [.p (.val (.bool (decide (num < (0 : Int))))), .p (.val (.int .u64 y1.hi)), .p (.val (.int .u64 y1.lo))])]⟩) ?_
  refine lok_ret ?_
  obtain rfl := Option.some.inj H0
  try simp only [thenL, blockL]
  exact fin_au _ (.inr rfl) [] (⟨12, mkS [(4, .x (.one (.ptr 104 0)))], mkH [(104, .var [.p (.val (.bool (decide (num < (0 : Int))))), .p (.val (.int .u64 y1.hi)), .p (.val (.int .u64 y1.lo))])]⟩) rfl rfl imp_au
theorem ok_cmp_isNaN_uint64 (x : Int) (r_ : Bool) (H0 : cmp_isNaN_uint64 x = some r_) : CallOK Try.prog 83 [.one (.p (.val (.int .u64 x)))] [] [.one (.p (.val (.bool r_)))] [] := by
  refine callOK (n := 6) (rs := [.tmp 2]) (nb := 0) (V := []) Try.func83 rfl (by kernel_rfl) rfl rfl rfl rfl (Nat.le_of_ble_eq_true rfl) (by decide) ?_
  unfold cmp_isNaN_uint64 at H0
  refine lok_rt E0 (⟨6, mkS [(0, .x (.one (.p (.val (.int .u64 x)))))], mkH []⟩) ?_
  refine lok_rt E0 (⟨6, mkS [(2, .x (.one (.p (.val (.bool (x != x))))))], mkH []⟩) ?_
  refine lok_ret ?_
  obtain rfl := Option.some.inj H0
  try simp only [thenL, blockL]
  exact fin_au _ (.inr rfl) [] (⟨6, mkS [(2, .x (.one (.p (.val (.bool (x != x))))))], mkH []⟩) rfl rfl imp_au
theorem ok_cmp_Compare_uint64 (x : Int) (y : Int) (r_ : Int) (H0 : cmp_Compare_uint64 x y = some r_) : CallOK Try.prog 76 [.one (.p (.val (.int .u64 x))), .one (.p (.val (.int .u64 y)))] [] [.one (.p (pi r_))] [] := by
  refine callOK (n := 20) (rs := [.tmp 4]) (nb := 0) (V := []) Try.func76 rfl (by kernel_rfl) rfl rfl rfl rfl (Nat.le_of_ble_eq_true rfl) (by decide) ?_
  unfold cmp_Compare_uint64 at H0
  refine lok_rt E0 (⟨20, mkS [(0, .x (.one (.p (.val (.int .u64 x))))), (1, .x (.one (.p (.val (.int .u64 y)))))], mkH []⟩) ?_
  replace H0 := bind_some H0
  obtain ⟨y1, h_0, H0⟩ := H0
  refine lok_rt (Env.of E0 [⟨some 8, 83, [.one (.p (.val (.int .u64 x)))], [], [.one (.p (.val (.bool y1)))], [], True, fun _ => ok_cmp_isNaN_uint64 x y1 h_0, []⟩]) (⟨20, mkS [(0, .x (.one (.p (.val (.int .u64 x))))), (1, .x (.one (.p (.val (.int .u64 y))))), (5, .x (.one (.p (.val (.bool y1)))))], mkH []⟩) ?_
  replace H0 := bind_some H0
  obtain ⟨y2, h_1, H0⟩ := H0
  refine lok_rt (Env.of E0 [⟨some 10, 83, [.one (.p (.val (.int .u64 y)))], [], [.one (.p (.val (.bool y2)))], [], True, fun _ => ok_cmp_isNaN_uint64 y y2 h_1, []⟩]) (⟨20, mkS [(0, .x (.one (.p (.val (.int .u64 x))))), (1, .x (.one (.p (.val (.int .u64 y))))), (5, .x (.one (.p (.val (.bool y1))))), (6, .x (.one (.p (.val (.bool y2)))))], mkH []⟩) ?_
  refine lok_seq ?_
  refine lok_rt E0 (⟨20, mkS [(0, .x (.one (.p (.val (.int .u64 x))))), (1, .x (.one (.p (.val (.int .u64 y))))), (6, .x (.one (.p (.val (.bool y2))))), (11, .x (.one (.p (.val (.bool y1)))))], mkH []⟩) ?_
  refine lok_c y1 ?_ ?_
  · intro b_6
    replace H0 := cpos H0 b_6
    refine lok_seq ?_
    refine lok_rt E0 (⟨20, mkS [(12, .x (.one (.p (.val (.bool y2)))))], mkH []⟩) ?_
    refine lok_c y2 ?_ ?_
    · intro b_2
      replace H0 := cpos H0 b_2
      refine lok_rt E0 (⟨20, mkS [(4, .x (.one (.p (pi (0 : Int)))))], mkH []⟩) ?_
      refine lok_ret ?_
      obtain rfl := Option.some.inj H0
      try simp only [thenL, blockL]
      exact fin_au _ (.inr rfl) [] (⟨20, mkS [(4, .x (.one (.p (pi (0 : Int)))))], mkH []⟩) rfl rfl imp_au
    · intro b_2
      replace H0 := cneg H0 b_2
      refine lok_skip ?_
      try simp only [thenL, blockL, ↓reduceIte, reduceCtorEq]
      refine lok_rt E0 (⟨20, mkS [(4, .x (.one (.p (pi (-1 : Int)))))], mkH []⟩) ?_
      refine lok_ret ?_
      obtain rfl := Option.some.inj H0
      try simp only [thenL, blockL]
      exact fin_au _ (.inr rfl) [] (⟨20, mkS [(4, .x (.one (.p (pi (-1 : Int)))))], mkH []⟩) rfl rfl imp_au
  · intro b_6
    replace H0 := cneg H0 b_6
    refine lok_skip ?_
    try simp only [thenL, blockL, ↓reduceIte, reduceCtorEq]
    refine lok_seq ?_
    refine lok_rt E0 (⟨20, mkS [(0, .x (.one (.p (.val (.int .u64 x))))), (1, .x (.one (.p (.val (.int .u64 y))))), (13, .x (.one (.p (.val (.bool y2)))))], mkH []⟩) ?_
    refine lok_c y2 ?_ ?_
    · intro b_5
      replace H0 := cpos H0 b_5
      refine lok_rt E0 (⟨20, mkS [(4, .x (.one (.p (pi (1 : Int)))))], mkH []⟩) ?_
      refine lok_ret ?_
      obtain rfl := Option.some.inj H0
      try simp only [thenL, blockL]
      exact fin_au _ (.inr rfl) [] (⟨20, mkS [(4, .x (.one (.p (pi (1 : Int)))))], mkH []⟩) rfl rfl imp_au
    · intro b_5
      replace H0 := cneg H0 b_5
      refine lok_skip ?_
      try simp only [thenL, blockL, ↓reduceIte, reduceCtorEq]
      refine lok_seq ?_
      refine lok_rt E0 (⟨20, mkS [(0, .x (.one (.p (.val (.int .u64 x))))), (1, .x (.one (.p (.val (.int .u64 y))))), (16, .x (.one (.p (.val (.bool (decide (x < y)))))))], mkH []⟩) ?_
      refine lok_c (decide (x < y)) ?_ ?_
      · intro b_4
        replace H0 := cpos H0 b_4
        refine lok_rt E0 (⟨20, mkS [(4, .x (.one (.p (pi (-1 : Int)))))], mkH []⟩) ?_
        refine lok_ret ?_
        obtain rfl := Option.some.inj H0
        try simp only [thenL, blockL]
        exact fin_au _ (.inr rfl) [] (⟨20, mkS [(4, .x (.one (.p (pi (-1 : Int)))))], mkH []⟩) rfl rfl imp_au
      · intro b_4
        replace H0 := cneg H0 b_4
        refine lok_skip ?_
        try simp only [thenL, blockL, ↓reduceIte, reduceCtorEq]
        refine lok_seq ?_
        refine lok_rt E0 (⟨20, mkS [(19, .x (.one (.p (.val (.bool (decide (y < x)))))))], mkH []⟩) ?_
        refine lok_c (decide (y < x)) ?_ ?_
        · intro b_3
          replace H0 := cpos H0 b_3
          refine lok_rt E0 (⟨20, mkS [(4, .x (.one (.p (pi (1 : Int)))))], mkH []⟩) ?_
          refine lok_ret ?_
          obtain rfl := Option.some.inj H0
          try simp only [thenL, blockL]
          exact fin_au _ (.inr rfl) [] (⟨20, mkS [(4, .x (.one (.p (pi (1 : Int)))))], mkH []⟩) rfl rfl imp_au
        · intro b_3
          replace H0 := cneg H0 b_3
          refine lok_skip ?_
          try simp only [thenL, blockL, ↓reduceIte, reduceCtorEq]
          refine lok_rt E0 (⟨20, mkS [(4, .x (.one (.p (pi (0 : Int)))))], mkH []⟩) ?_
          refine lok_ret ?_
          obtain rfl := Option.some.inj H0
          try simp only [thenL, blockL]
          exact fin_au _ (.inr rfl) [] (⟨20, mkS [(4, .x (.one (.p (pi (0 : Int)))))], mkH []⟩) rfl rfl imp_au
theorem ok_ratio_wide_compare (a : ratio_wide) (b : ratio_wide) (r_ : Int) (H0 : ratio_wide_compare a b = some r_) : CallOK Try.prog 62 [.agg [.p (.val (.int .u64 a.hi)), .p (.val (.int .u64 a.lo))], .agg [.p (.val (.int .u64 b.hi)), .p (.val (.int .u64 b.lo))]] [] [.one (.p (pi r_))] [] := by
  refine callOK (n := 19) (rs := [.tmp 4]) (nb := 0) (V := []) Try.func62 rfl (by kernel_rfl) rfl rfl rfl rfl (Nat.le_of_ble_eq_true rfl) (by decide) ?_
  unfold ratio_wide_compare at H0
  refine lok_rt E0 (⟨19, mkS [(2, .x (.one (.ptr 102 0))), (3, .x (.one (.ptr 103 0)))], mkH [(102, .var [.p (.val (.int .u64 a.hi)), .p (.val (.int .u64 a.lo))]), (103, .var [.p (.val (.int .u64 b.hi)), .p (.val (.int .u64 b.lo))])]⟩) ?_
  refine lok_seq ?_
  replace H0 := bind_some H0
  obtain ⟨y, h_0, H0⟩ := H0
  refine lok_rt (Env.of E0 [⟨some 10, 76, [.one (.p (.val (.int .u64 a.hi))), .one (.p (.val (.int .u64 b.hi)))], [], [.one (.p (pi y))], [], True, fun _ => ok_cmp_Compare_uint64 a.hi b.hi y h_0, []⟩]) (⟨19, mkS [(2, .x (.one (.ptr 102 0))), (3, .x (.one (.ptr 103 0))), (5, .x (.one (.p (pi y))))], mkH [(102, .var [.p (.val (.int .u64 a.hi)), .p (.val (.int .u64 a.lo))]), (103, .var [.p (.val (.int .u64 b.hi)), .p (.val (.int .u64 b.lo))])]⟩) ?_
  refine lok_rt E0 (⟨19, mkS [(2, .x (.one (.ptr 102 0))), (3, .x (.one (.ptr 103 0))), (5, .x (.one (.p (pi y)))), (12, .x (.one (.p (.val (.bool (y != (0 : Int)))))))], mkH [(102, .var [.p (.val (.int .u64 a.hi)), .p (.val (.int .u64 a.lo))]), (103, .var [.p (.val (.int .u64 b.hi)), .p (.val (.int .u64 b.lo))])]⟩) ?_
  refine lok_c (y != (0 : Int)) ?_ ?_
  · intro b_2
    replace H0 := cpos H0 b_2
    refine lok_rt E0 (⟨19, mkS [(4, .x (.one (.p (pi y))))], mkH []⟩) ?_
    refine lok_ret ?_
    obtain rfl := Option.some.inj H0
    try simp only [thenL, blockL]
    exact fin_au _ (.inr rfl) [] (⟨19, mkS [(4, .x (.one (.p (pi y))))], mkH []⟩) rfl rfl imp_au
  · intro b_2
    replace H0 := cneg H0 b_2
    refine lok_skip ?_
    try simp only [thenL, blockL, ↓reduceIte, reduceCtorEq]
    replace H0 := bind_some H0
    obtain ⟨y1, h_1, H0⟩ := H0
    refine lok_rt (Env.of E0 [⟨some 18, 76, [.one (.p (.val (.int .u64 a.lo))), .one (.p (.val (.int .u64 b.lo)))], [], [.one (.p (pi y1))], [], True, fun _ => ok_cmp_Compare_uint64 a.lo b.lo y1 h_1, []⟩]) (⟨19, mkS [(4, .x (.one (.p (pi y1))))], mkH []⟩) ?_
    refine lok_ret ?_
    obtain rfl := Option.some.inj H0
    try simp only [thenL, blockL]
    exact fin_au _ (.inr rfl) [] (⟨19, mkS [(4, .x (.one (.p (pi y1))))], mkH []⟩) rfl rfl imp_au
set_option maxHeartbeats 4000000 in
theorem ok_ratio_Compare (a : api_Ratio) (b : api_Ratio) (r_ : Int) (H0 : ratio_Compare a b = some r_) : CallOK Try.prog 49 [.agg [.p (pi a.Num), .p (pi a.Den)], .agg [.p (pi b.Num), .p (pi b.Den)]] [] [.one (.p (pi r_))] [] := by
  refine callOK (n := 50) (rs := [.tmp 4]) (nb := 0) (V := []) Try.func49 rfl (by kernel_rfl) rfl rfl rfl rfl (Nat.le_of_ble_eq_true rfl) (by decide) ?_
  unfold ratio_Compare at H0
  refine lok_rt E0 (⟨50, mkS [(2, .x (.one (.ptr 102 0))), (3, .x (.one (.ptr 103 0)))], mkH [(102, .var [.p (pi a.Num), .p (pi a.Den)]), (103, .var [.p (pi b.Num), .p (pi b.Den)])]⟩) ?_
  refine lok_seq ?_
  replace H0 := bind_some H0
  obtain ⟨y, h_0, H0⟩ := H0
  replace H0 := req_some H0
  obtain ⟨q_9, H0⟩ := H0
  refine lok_rt (Env.of E0 [⟨some 8, 48, [.agg [.p (pi a.Num), .p (pi a.Den)]], [], [.one (.p (.val (.bool y)))], [], True, fun _ => ok_ratio_Valid a y h_0, []⟩,
      ⟨some 12, 48, [.agg [.p (pi b.Num), .p (pi b.Den)]], [], [.one (.p (.val (.bool ((ratio_Valid b).getD default))))], [], (ratio_Valid b).isSome = true, fun h => ok_ratio_Valid b _ (isSome_get h), []⟩]) (⟨50, mkS [(2, .x (.one (.ptr 102 0))), (3, .x (.one (.ptr 103 0))), (14, .x (.one (.p (.val (.bool ((!y) || (!((ratio_Valid b).getD default))))))))], mkH [(102, .var [.p (pi a.Num), .p (pi a.Den)]), (103, .var [.p (pi b.Num), .p (pi b.Den)])]⟩) ?_
  refine lok_c ((!y) || (!((ratio_Valid b).getD default))) ?_ ?_
  · intro b_8
    replace H0 := cpos H0 b_8
    refine lok_rt E0 (⟨50, mkS [(4, .x (.one (.p (pi (0 : Int)))))], mkH []⟩) ?_
    refine lok_ret ?_
    obtain rfl := Option.some.inj H0
    try simp only [thenL, blockL]
    exact fin_au _ (.inr rfl) [] (⟨50, mkS [(4, .x (.one (.p (pi (0 : Int)))))], mkH []⟩) rfl rfl imp_au
  · intro b_8
    replace H0 := cneg H0 b_8
    refine lok_skip ?_
    try simp only [thenL, blockL, ↓reduceIte, reduceCtorEq]
    replace H0 := bind_some H0
    obtain ⟨y1, h_1, H0⟩ := H0
    replace H0 := bind_some H0
    obtain ⟨y2, h_2, H0⟩ := H0
    refine lok_et (Env.of E0 [⟨some 20, 61, [.one (.p (pi a.Num)), .one (.p (.val (.int .u64 (IntKind.u64.wrap b.Den))))], [], [.agg [.p (.val (.bool y1.neg)), .p (.val (.int .u64 y1.abs.hi)), .p (.val (.int .u64 y1.abs.lo))]], [], True, fun _ => ok_ratio_signedProduct a.Num (IntKind.u64.wrap b.Den) y1 h_1, []⟩,
      ⟨some 26, 61, [.one (.p (pi b.Num)), .one (.p (.val (.int .u64 (IntKind.u64.wrap a.Den))))], [], [.agg [.p (.val (.bool y2.neg)), .p (.val (.int .u64 y2.abs.hi)), .p (.val (.int .u64 y2.abs.lo))]], [], True, fun _ => ok_ratio_signedProduct b.Num (IntKind.u64.wrap a.Den) y2 h_2, []⟩]) 50 [⟨[(2, .x (.one (.ptr 102 0)))], [], [(15, .x (.one (.ptr 102 0)))], [], none⟩,
      ⟨[(15, .x (.one (.ptr 102 0)))], [(102, some (.var [.p (pi a.Num), .p (pi a.Den)]))], [(16, .x (.one (.p (pi a.Num))))], [], none⟩,
      ⟨[(3, .x (.one (.ptr 103 0)))], [], [(17, .x (.one (.ptr 103 1)))], [], none⟩,
      ⟨[(17, .x (.one (.ptr 103 1)))], [(103, some (.var [.p (pi b.Num), .p (pi b.Den)]))], [(18, .x (.one (.p (pi b.Den))))], [], none⟩,
      ⟨[(18, .x (.one (.p (pi b.Den))))], [], [(19, .x (.one (.p (.val (.int .u64 (IntKind.u64.wrap b.Den))))))], [], none⟩,
      ⟨[(16, .x (.one (.p (pi a.Num)))), (19, .x (.one (.p (.val (.int .u64 (IntKind.u64.wrap b.Den))))))], [], [(20, .x (.agg [.p (.val (.bool y1.neg)), .p (.val (.int .u64 y1.abs.hi)), .p (.val (.int .u64 y1.abs.lo))]))], [], none⟩,
      ⟨[(3, .x (.one (.ptr 103 0)))], [], [(21, .x (.one (.ptr 103 0)))], [], none⟩,
      ⟨[(21, .x (.one (.ptr 103 0)))], [(103, some (.var [.p (pi b.Num), .p (pi b.Den)]))], [(22, .x (.one (.p (pi b.Num))))], [], none⟩,
      ⟨[(2, .x (.one (.ptr 102 0)))], [], [(23, .x (.one (.ptr 102 1)))], [], none⟩,
      ⟨[(23, .x (.one (.ptr 102 1)))], [(102, some (.var [.p (pi a.Num), .p (pi a.Den)]))], [(24, .x (.one (.p (pi a.Den))))], [], none⟩,
      ⟨[(24, .x (.one (.p (pi a.Den))))], [], [(25, .x (.one (.p (.val (.int .u64 (IntKind.u64.wrap a.Den))))))], [], none⟩,
      ⟨[(22, .x (.one (.p (pi b.Num)))), (25, .x (.one (.p (.val (.int .u64 (IntKind.u64.wrap a.Den))))))], [], [(26, .x (.agg [.p (.val (.bool y2.neg)), .p (.val (.int .u64 y2.abs.hi)), .p (.val (.int .u64 y2.abs.lo))]))], [], none⟩,
      ⟨[], [(105, none)], [(5, .x (.one (.ptr 105 0)))], [(105, some (.var [.p (.val (.bool false)), .p (.val (.int .u64 (0 : Int))), .p (.val (.int .u64 (0 : Int)))]))], some 105⟩,
      ⟨[], [(106, none)], [(6, .x (.one (.ptr 106 0)))], [(106, some (.var [.p (.val (.bool false)), .p (.val (.int .u64 (0 : Int))), .p (.val (.int .u64 (0 : Int)))]))], some 106⟩] (⟨50, mkS [(5, .x (.one (.ptr 105 0))), (6, .x (.one (.ptr 106 0)))], mkH [(105, .var [.p (.val (.bool y1.neg)), .p (.val (.int .u64 y1.abs.hi)), .p (.val (.int .u64 y1.abs.lo))]), (106, .var [.p (.val (.bool y2.neg)), .p (.val (.int .u64 y2.abs.hi)), .p (.val (.int .u64 y2.abs.lo))])]⟩) (by kernel_rfl) (by kernel_rfl) (by kernel_rfl) rfl rfl rfl ?_
    refine lok_seq ?_
    refine lok_block ?_
    refine lok_rt E0 (⟨50, mkS [(5, .x (.one (.ptr 105 0))), (6, .x (.one (.ptr 106 0))), (27, .x (.one (.p (.val (.bool (y1.neg && y2.neg))))))], mkH [(105, .var [.p (.val (.bool y1.neg)), .p (.val (.int .u64 y1.abs.hi)), .p (.val (.int .u64 y1.abs.lo))]), (106, .var [.p (.val (.bool y2.neg)), .p (.val (.int .u64 y2.abs.hi)), .p (.val (.int .u64 y2.abs.lo))])]⟩) ?_
    refine lok_c (y1.neg && y2.neg) ?_ ?_
    · intro b_7
      replace H0 := cpos H0 b_7
      replace H0 := bind_some H0
      obtain ⟨y3, h_3, H0⟩ := H0
      refine lok_rt (Env.of E0 [⟨some 38, 62, [.agg [.p (.val (.int .u64 y2.abs.hi)), .p (.val (.int .u64 y2.abs.lo))], .agg [.p (.val (.int .u64 y1.abs.hi)), .p (.val (.int .u64 y1.abs.lo))]], [], [.one (.p (pi y3))], [], True, fun _ => ok_ratio_wide_compare y2.abs y1.abs y3 h_3, []⟩]) (⟨50, mkS [(4, .x (.one (.p (pi y3))))], mkH []⟩) ?_
      refine lok_ret ?_
      obtain rfl := Option.some.inj H0
      try simp only [thenL, blockL]
      exact fin_au _ (.inr rfl) [] (⟨50, mkS [(4, .x (.one (.p (pi y3))))], mkH []⟩) rfl rfl imp_au
    · intro b_7
      replace H0 := cneg H0 b_7
      refine lok_rt E0 (⟨50, mkS [(5, .x (.one (.ptr 105 0))), (6, .x (.one (.ptr 106 0))), (39, .x (.one (.p (.val (.bool y1.neg)))))], mkH [(105, .var [.p (.val (.bool y1.neg)), .p (.val (.int .u64 y1.abs.hi)), .p (.val (.int .u64 y1.abs.lo))]), (106, .var [.p (.val (.bool y2.neg)), .p (.val (.int .u64 y2.abs.hi)), .p (.val (.int .u64 y2.abs.lo))])]⟩) ?_
      refine lok_c y1.neg ?_ ?_
      · intro b_6
        replace H0 := cpos H0 b_6
        refine lok_rt E0 (⟨50, mkS [(4, .x (.one (.p (pi (-1 : Int)))))], mkH []⟩) ?_
        refine lok_ret ?_
        obtain rfl := Option.some.inj H0
        try simp only [thenL, blockL]
        exact fin_au _ (.inr rfl) [] (⟨50, mkS [(4, .x (.one (.p (pi (-1 : Int)))))], mkH []⟩) rfl rfl imp_au
      · intro b_6
        replace H0 := cneg H0 b_6
        refine lok_rt E0 (⟨50, mkS [(5, .x (.one (.ptr 105 0))), (6, .x (.one (.ptr 106 0))), (42, .x (.one (.p (.val (.bool y2.neg)))))], mkH [(105, .var [.p (.val (.bool y1.neg)), .p (.val (.int .u64 y1.abs.hi)), .p (.val (.int .u64 y1.abs.lo))]), (106, .var [.p (.val (.bool y2.neg)), .p (.val (.int .u64 y2.abs.hi)), .p (.val (.int .u64 y2.abs.lo))])]⟩) ?_
        refine lok_c y2.neg ?_ ?_
        · intro b_5
          replace H0 := cpos H0 b_5
          refine lok_rt E0 (⟨50, mkS [(4, .x (.one (.p (pi (1 : Int)))))], mkH []⟩) ?_
          refine lok_ret ?_
          obtain rfl := Option.some.inj H0
          try simp only [thenL, blockL]
          exact fin_au _ (.inr rfl) [] (⟨50, mkS [(4, .x (.one (.p (pi (1 : Int)))))], mkH []⟩) rfl rfl imp_au
        · intro b_5
          replace H0 := cneg H0 b_5
          refine lok_skip ?_
          try simp only [thenL, blockL, ↓reduceIte, reduceCtorEq]
          replace H0 := bind_some H0
          obtain ⟨y4, h_4, H0⟩ := H0
          refine lok_rt (Env.of E0 [⟨some 49, 62, [.agg [.p (.val (.int .u64 y1.abs.hi)), .p (.val (.int .u64 y1.abs.lo))], .agg [.p (.val (.int .u64 y2.abs.hi)), .p (.val (.int .u64 y2.abs.lo))]], [], [.one (.p (pi y4))], [], True, fun _ => ok_ratio_wide_compare y1.abs y2.abs y4 h_4, []⟩]) (⟨50, mkS [(4, .x (.one (.p (pi y4))))], mkH []⟩) ?_
          refine lok_ret ?_
          obtain rfl := Option.some.inj H0
          try simp only [thenL, blockL]
          exact fin_au _ (.inr rfl) [] (⟨50, mkS [(4, .x (.one (.p (pi y4))))], mkH []⟩) rfl rfl imp_au
theorem ok_ratio_Less (a : api_Ratio) (b : api_Ratio) (r_ : Bool) (H0 : ratio_Less a b = some r_) : CallOK Try.prog 79 [.agg [.p (pi a.Num), .p (pi a.Den)], .agg [.p (pi b.Num), .p (pi b.Den)]] [] [.one (.p (.val (.bool r_)))] [] := by
  refine callOK (n := 9) (rs := [.tmp 4]) (nb := 0) (V := []) Try.func79 rfl (by kernel_rfl) rfl rfl rfl rfl (Nat.le_of_ble_eq_true rfl) (by decide) ?_
  unfold ratio_Less at H0
  refine lok_rt E0 (⟨9, mkS [(2, .x (.one (.ptr 102 0))), (3, .x (.one (.ptr 103 0)))], mkH [(102, .var [.p (pi a.Num), .p (pi a.Den)]), (103, .var [.p (pi b.Num), .p (pi b.Den)])]⟩) ?_
  replace H0 := bind_some H0
  obtain ⟨y, h_0, H0⟩ := H0
  refine lok_rt (Env.of E0 [⟨some 7, 49, [.agg [.p (pi a.Num), .p (pi a.Den)], .agg [.p (pi b.Num), .p (pi b.Den)]], [], [.one (.p (pi y))], [], True, fun _ => ok_ratio_Compare a b y h_0, []⟩]) (⟨9, mkS [(4, .x (.one (.p (.val (.bool (y == (-1 : Int)))))))], mkH []⟩) ?_
  refine lok_ret ?_
  obtain rfl := Option.some.inj H0
  try simp only [thenL, blockL]
  exact fin_au _ (.inr rfl) [] (⟨9, mkS [(4, .x (.one (.p (.val (.bool (y == (-1 : Int)))))))], mkH []⟩) rfl rfl imp_au
set_option maxHeartbeats 4000000 in
theorem ok_conversion_ascending (points : List api_Point) (r_ : Bool) (H0 : conversion_ascending points = some r_) : CallOK Try.prog 66 [.one (.p (.sl 4 (List.map enc_api_Point points)))] [] [.one (.p (.val (.bool r_)))] [] := by
  refine callOK (n := 49) (rs := [.tmp 2]) (nb := 0) (V := []) Try.func66 rfl (by kernel_rfl) rfl rfl rfl rfl (Nat.le_of_ble_eq_true rfl) (by decide) ?_
  unfold conversion_ascending at H0
  refine lok_rt E0 (⟨49, mkS [(0, .x (.one (.p (.sl 4 (List.map enc_api_Point points)))))], mkH []⟩) ?_
  refine lok_join (fun x_ : Unit => conversion_ascending_j1 = some r_) (fun x_ => ⟨49, mkS [], mkH []⟩) ?hyconversion_ascending_j1 ?hxconversion_ascending_j1
  case hyconversion_ascending_j1 =>
    rintro _ H0
    try dsimp only at H0 ⊢
    unfold conversion_ascending_j1 at H0
    refine lok_rt E0 (⟨49, mkS [(2, .x (.one (.p (.val (.bool true)))))], mkH []⟩) ?_
    refine lok_ret ?_
    obtain rfl := Option.some.inj H0
    try simp only [thenL, blockL]
    exact fin_au _ (.inr rfl) [] (⟨49, mkS [(2, .x (.one (.p (.val (.bool true)))))], mkH []⟩) rfl rfl imp_au
  case hxconversion_ascending_j1 =>
    refine lok_rt E0 (⟨49, mkS [(0, .x (.one (.p (.sl 4 (List.map enc_api_Point points))))), (5, .x (.one (.p (.sl 4 (List.map enc_api_Point points))))), (6, .x (.one (.p (pi (points.length : Int))))), (7, .x (.one (.p (pi (0 : Int)))))], mkH []⟩) ?_
    refine lok_block ?_
    replace H0 := bind_some H0
    obtain ⟨v_0, hv_0, H0⟩ := H0
    refine lok_iter (fun x_ => ⟨49, mkS [(0, .x (.one (.p (.sl 4 (List.map enc_api_Point points))))), (5, .x (.one (.p (.sl 4 (List.map enc_api_Point points))))), (6, .x (.one (.p (pi (points.length : Int))))), (7, .x (.one (.p (pi x_))))], mkH []⟩) hv_0 imp_au ?_
    · rintro v o_1 H1 k_1
      unfold conversion_ascending_l2 at H1
      try dsimp only at H1 ⊢
      refine lok_rt E0 (⟨49, mkS [(0, .x (.one (.p (.sl 4 (List.map enc_api_Point points))))), (5, .x (.one (.p (.sl 4 (List.map enc_api_Point points))))), (6, .x (.one (.p (pi (points.length : Int))))), (7, .x (.one (.p (pi v)))), (8, .x (.one (.p (.val (.bool (decide (v < (points.length : Int))))))))], mkH []⟩) ?_
      refine lok_seq ?_
      refine lok_c (decide (v < (points.length : Int))) ?_ ?_
      · intro b_10
        replace H1 := cpos H1 b_10
        refine lok_skip ?_
        try simp only [thenL, blockL, ↓reduceIte, reduceCtorEq]
        refine lok_seq ?_
        refine lok_block ?_
        replace H1 := req_some H1
        obtain ⟨q_9, H1⟩ := H1
        refine lok_rt E0 (⟨49, mkS [(0, .x (.one (.p (.sl 4 (List.map enc_api_Point points))))), (3, .x (.one (.p (pi v)))), (4, .x (.one (.ptr 104 0))), (5, .x (.one (.p (.sl 4 (List.map enc_api_Point points))))), (6, .x (.one (.p (pi (points.length : Int))))), (7, .x (.one (.p (pi v))))], mkH [(104, .var [.p (pi (((ix points v).X).Num)), .p (pi (((ix points v).X).Den)), .p (pi (((ix points v).Y).Num)), .p (pi (((ix points v).Y).Den))])]⟩) ?_
        refine lok_seq ?_
        replace H1 := bind_some H1
        obtain ⟨y, h_1, H1⟩ := H1
        replace H1 := req_some H1
        obtain ⟨q_8, H1⟩ := H1
        refine lok_rt (Env.of E0 [⟨some 14, 48, [.agg [.p (pi (((ix points v).X).Num)), .p (pi (((ix points v).X).Den))]], [], [.one (.p (.val (.bool y)))], [], True, fun _ => ok_ratio_Valid ((ix points v).X) y h_1, []⟩,
      ⟨some 19, 48, [.agg [.p (pi (((ix points v).Y).Num)), .p (pi (((ix points v).Y).Den))]], [], [.one (.p (.val (.bool ((ratio_Valid ((ix points v).Y)).getD default))))], [], (ratio_Valid ((ix points v).Y)).isSome = true, fun h => ok_ratio_Valid ((ix points v).Y) _ (isSome_get h), []⟩]) (⟨49, mkS [(0, .x (.one (.p (.sl 4 (List.map enc_api_Point points))))), (3, .x (.one (.p (pi v)))), (4, .x (.one (.ptr 104 0))), (5, .x (.one (.p (.sl 4 (List.map enc_api_Point points))))), (6, .x (.one (.p (pi (points.length : Int))))), (7, .x (.one (.p (pi v)))), (21, .x (.one (.p (.val (.bool ((!y) || (!((ratio_Valid ((ix points v).Y)).getD default))))))))], mkH [(104, .var [.p (pi (((ix points v).X).Num)), .p (pi (((ix points v).X).Den)), .p (pi (((ix points v).Y).Num)), .p (pi (((ix points v).Y).Den))])]⟩) ?_
        refine lok_c ((!y) || (!((ratio_Valid ((ix points v).Y)).getD default))) ?_ ?_
        · intro b_7
          replace H1 := cpos H1 b_7
          refine lok_rt E0 (⟨49, mkS [(2, .x (.one (.p (.val (.bool false)))))], mkH []⟩) ?_
          refine lok_ret ?_
          try simp only [thenL, blockL, ↓reduceIte, reduceCtorEq]
          have e_1 := k_1 _ (Option.some.inj H1).symm
          subst e_1
          try dsimp only at H0
          obtain rfl := Option.some.inj H0
          try simp only [thenL, blockL]
          exact fin_au _ (.inr rfl) [] (⟨49, mkS [(2, .x (.one (.p (.val (.bool false)))))], mkH []⟩) rfl rfl imp_au
        · intro b_7
          replace H1 := cneg H1 b_7
          refine lok_skip ?_
          try simp only [thenL, blockL, ↓reduceIte, reduceCtorEq]
          replace H1 := req_some H1
          obtain ⟨⟨q_3, q_4, q_5, q_6⟩, H1⟩ := H1
          refine lok_dt (Env.of E0 [⟨some 33, 79, [.agg [.p (pi (((ix points (IntKind.i64.wrap (v - (1 : Int)))).X).Num)), .p (pi (((ix points (IntKind.i64.wrap (v - (1 : Int)))).X).Den))], .agg [.p (pi (((ix points v).X).Num)), .p (pi (((ix points v).X).Den))]], [], [.one (.p (.val (.bool ((ratio_Less ((ix points (IntKind.i64.wrap (v - (1 : Int)))).X) ((ix points v).X)).getD default))))], [], (ratio_Less ((ix points (IntKind.i64.wrap (v - (1 : Int)))).X) ((ix points v).X)).isSome = true, fun h => ok_ratio_Less ((ix points (IntKind.i64.wrap (v - (1 : Int)))).X) ((ix points v).X) _ (isSome_get h), []⟩,
      ⟨some 44, 79, [.agg [.p (pi (((ix points (IntKind.i64.wrap (v - (1 : Int)))).Y).Num)), .p (pi (((ix points (IntKind.i64.wrap (v - (1 : Int)))).Y).Den))], .agg [.p (pi (((ix points v).Y).Num)), .p (pi (((ix points v).Y).Den))]], [], [.one (.p (.val (.bool ((ratio_Less ((ix points (IntKind.i64.wrap (v - (1 : Int)))).Y) ((ix points v).Y)).getD default))))], [], (ratio_Less ((ix points (IntKind.i64.wrap (v - (1 : Int)))).Y) ((ix points v).Y)).isSome = true, fun h => ok_ratio_Less ((ix points (IntKind.i64.wrap (v - (1 : Int)))).Y) ((ix points v).Y) _ (isSome_get h), []⟩]) 22 (⟨49, mkS [(0, .x (.one (.p (.sl 4 (List.map enc_api_Point points))))), (5, .x (.one (.p (.sl 4 (List.map enc_api_Point points))))), (6, .x (.one (.p (pi (points.length : Int))))), (7, .x (.one (.p (pi v)))), (47, .x (.one (.p (.val (.bool ((decide ((0 : Int) < v)) && ((!((ratio_Less ((ix points (IntKind.i64.wrap (v - (1 : Int)))).X) ((ix points v).X)).getD default)) || (!((ratio_Less ((ix points (IntKind.i64.wrap (v - (1 : Int)))).Y) ((ix points v).Y)).getD default)))))))))], mkH []⟩) (by kernel_rfl) (by kernel_rfl) ?_
          refine lok_c ((decide ((0 : Int) < v)) && ((!((ratio_Less ((ix points (IntKind.i64.wrap (v - (1 : Int)))).X) ((ix points v).X)).getD default)) || (!((ratio_Less ((ix points (IntKind.i64.wrap (v - (1 : Int)))).Y) ((ix points v).Y)).getD default)))) ?_ ?_
          · intro b_2
            replace H1 := cpos H1 b_2
            refine lok_rt E0 (⟨49, mkS [(2, .x (.one (.p (.val (.bool false)))))], mkH []⟩) ?_
            refine lok_ret ?_
            try simp only [thenL, blockL, ↓reduceIte, reduceCtorEq]
            have e_1 := k_1 _ (Option.some.inj H1).symm
            subst e_1
            try dsimp only at H0
            obtain rfl := Option.some.inj H0
            try simp only [thenL, blockL]
            exact fin_au _ (.inr rfl) [] (⟨49, mkS [(2, .x (.one (.p (.val (.bool false)))))], mkH []⟩) rfl rfl imp_au
          · intro b_2
            replace H1 := cneg H1 b_2
            refine lok_skip ?_
            try simp only [thenL, blockL, ↓reduceIte, reduceCtorEq]
            refine lok_rl E0 (⟨49, mkS [(0, .x (.one (.p (.sl 4 (List.map enc_api_Point points))))), (5, .x (.one (.p (.sl 4 (List.map enc_api_Point points))))), (6, .x (.one (.p (pi (points.length : Int))))), (7, .x (.one (.p (pi (IntKind.i64.wrap (v + (1 : Int)))))))], mkH []⟩) ?_
            try simp only [thenL, blockL, ↓reduceIte, reduceCtorEq]
            exact ⟨(IntKind.i64.wrap (v + (1 : Int))), (Option.some.inj H1).symm, imp_au⟩
      · intro b_10
        replace H1 := cneg H1 b_10
        refine lok_exit ?_
        try simp only [thenL, blockL, ↓reduceIte, reduceCtorEq]
        have e_1 := k_1 _ (Option.some.inj H1).symm
        subst e_1
        try dsimp only at H0
        try simp only [thenL, blockL, ↓reduceIte, reduceCtorEq]
        exact ⟨(), H0, imp_au⟩
theorem ok_conversion_Valid (c : api_Curve) (r_ : Bool) (H0 : conversion_Valid c = some r_) : CallOK Try.prog 53 [.agg [.p (.sl 4 (List.map enc_api_Point c.Points))]] [] [.one (.p (.val (.bool r_)))] [] := by
  refine callOK (n := 18) (rs := [.tmp 2]) (nb := 0) (V := []) Try.func53 rfl (by kernel_rfl) rfl rfl rfl rfl (Nat.le_of_ble_eq_true rfl) (by decide) ?_
  unfold conversion_Valid at H0
  refine lok_rt E0 (⟨18, mkS [(1, .x (.one (.ptr 101 0)))], mkH [(101, .var [.p (.sl 4 (List.map enc_api_Point c.Points))])]⟩) ?_
  replace H0 := req_some H0
  obtain ⟨q_0, H0⟩ := H0
  refine lok_rt (Env.of E0 [⟨some 16, 66, [.one (.p (.sl 4 (List.map enc_api_Point c.Points)))], [], [.one (.p (.val (.bool ((conversion_ascending c.Points).getD default))))], [], (conversion_ascending c.Points).isSome = true, fun h => ok_conversion_ascending c.Points _ (isSome_get h), []⟩]) (⟨18, mkS [(2, .x (.one (.p (.val (.bool (((decide ((2 : Int) ≤ (c.Points.length : Int))) && (decide ((c.Points.length : Int) ≤ (410 : Int)))) && ((conversion_ascending c.Points).getD default)))))))], mkH []⟩) ?_
  refine lok_ret ?_
  obtain rfl := Option.some.inj H0
  try simp only [thenL, blockL]
  exact fin_au _ (.inr rfl) [] (⟨18, mkS [(2, .x (.one (.p (.val (.bool (((decide ((2 : Int) ≤ (c.Points.length : Int))) && (decide ((c.Points.length : Int) ≤ (410 : Int)))) && ((conversion_ascending c.Points).getD default)))))))], mkH []⟩) rfl rfl imp_au
theorem ok_conversion_eval_f1 (i : Int) (c : api_Ratio) (c_1 : List api_Point) (r_ : Bool) (H0 : conversion_eval_f1 i c c_1 = some r_) : CallOK Try.prog 68 [.one (.p (pi i)), .one (.ptr 0 0), .one (.ptr 1 0)] [.var [.p (pi c.Num), .p (pi c.Den)], .var [.p (.sl 4 (List.map enc_api_Point c_1))]] [.one (.p (.val (.bool r_)))] [some (.var [.p (pi c.Num), .p (pi c.Den)]), some (.var [.p (.sl 4 (List.map enc_api_Point c_1))])] := by
  refine callOK (n := 14) (rs := [.tmp 4]) (nb := 2) (V := [0, 1]) Try.func68 rfl (by kernel_rfl) rfl rfl rfl rfl (Nat.le_of_ble_eq_true rfl) (by decide) ?_
  unfold conversion_eval_f1 at H0
  refine lok_rt E0 (⟨14, mkS [(0, .x (.one (.p (pi i)))), (1, .x (.one (.ptr 0 0))), (2, .x (.one (.ptr 1 0)))], mkH [(0, .var [.p (pi c.Num), .p (pi c.Den)]), (1, .var [.p (.sl 4 (List.map enc_api_Point c_1))])]⟩) ?_
  replace H0 := req_some H0
  obtain ⟨q_1, H0⟩ := H0
  replace H0 := bind_some H0
  obtain ⟨y, h_0, H0⟩ := H0
  refine lok_dt (Env.of E0 [⟨some 12, 49, [.agg [.p (pi c.Num), .p (pi c.Den)], .agg [.p (pi (((ix c_1 (IntKind.i64.wrap (i + (1 : Int)))).X).Num)), .p (pi (((ix c_1 (IntKind.i64.wrap (i + (1 : Int)))).X).Den))]], [], [.one (.p (pi y))], [], True, fun _ => ok_ratio_Compare c ((ix c_1 (IntKind.i64.wrap (i + (1 : Int)))).X) y h_0, []⟩]) 7 (⟨14, mkS [(4, .x (.one (.p (.val (.bool (decide (y ≤ (0 : Int))))))))], mkH [(0, .var [.p (pi c.Num), .p (pi c.Den)]), (1, .var [.p (.sl 4 (List.map enc_api_Point c_1))])]⟩) (by kernel_rfl) (by kernel_rfl) ?_
  refine lok_ret ?_
  obtain rfl := Option.some.inj H0
  try simp only [thenL, blockL]
  exact fin_au _ (.inr rfl) [0, 1] (⟨14, mkS [(4, .x (.one (.p (.val (.bool (decide (y ≤ (0 : Int))))))))], mkH [(0, .var [.p (pi c.Num), .p (pi c.Den)]), (1, .var [.p (.sl 4 (List.map enc_api_Point c_1))])]⟩) rfl rfl imp_au
theorem ok_sort_Search_conversion_eval_f1 (n : Int) (f_c : api_Ratio) (f_c_1 : List api_Point) (r_ : Int) (H0 : sort_Search_conversion_eval_f1 n f_c f_c_1 = some r_) : CallOK Try.prog 67 [.one (.p (pi n)), .one (.fn 68 [0, 1])] [.var [.p (pi f_c.Num), .p (pi f_c.Den)], .var [.p (.sl 4 (List.map enc_api_Point f_c_1))]] [.one (.p (pi r_))] [some (.var [.p (pi f_c.Num), .p (pi f_c.Den)]), some (.var [.p (.sl 4 (List.map enc_api_Point f_c_1))])] := by
  refine callOK (n := 26) (rs := [.tmp 4]) (nb := 2) (V := [0, 1]) Try.func67 rfl (by kernel_rfl) rfl rfl rfl rfl (Nat.le_of_ble_eq_true rfl) (by decide) ?_
  unfold sort_Search_conversion_eval_f1 at H0
  refine lok_rt E0 (⟨26, mkS [(0, .x (.one (.p (pi n)))), (1, .x (.one (.fn 68 [0, 1])))], mkH [(0, .var [.p (pi f_c.Num), .p (pi f_c.Den)]), (1, .var [.p (.sl 4 (List.map enc_api_Point f_c_1))])]⟩) ?_
  refine lok_rt E0 (⟨26, mkS [(1, .x (.one (.fn 68 [0, 1]))), (5, .x (.one (.p (pi (0 : Int))))), (6, .x (.one (.p (pi n))))], mkH [(0, .var [.p (pi f_c.Num), .p (pi f_c.Den)]), (1, .var [.p (.sl 4 (List.map enc_api_Point f_c_1))])]⟩) ?_
  refine lok_join (fun x_ : Int => sort_Search_conversion_eval_f1_j1 x_ = some r_) (fun x_ => ⟨26, mkS [(5, .x (.one (.p (pi x_))))], mkH [(0, .var [.p (pi f_c.Num), .p (pi f_c.Den)]), (1, .var [.p (.sl 4 (List.map enc_api_Point f_c_1))])]⟩) ?hysort_Search_conversion_eval_f1_j1 ?hxsort_Search_conversion_eval_f1_j1
  case hysort_Search_conversion_eval_f1_j1 =>
    rintro i H0
    try dsimp only at H0 ⊢
    unfold sort_Search_conversion_eval_f1_j1 at H0
    refine lok_rt E0 (⟨26, mkS [(4, .x (.one (.p (pi i))))], mkH [(0, .var [.p (pi f_c.Num), .p (pi f_c.Den)]), (1, .var [.p (.sl 4 (List.map enc_api_Point f_c_1))])]⟩) ?_
    refine lok_ret ?_
    obtain rfl := Option.some.inj H0
    try simp only [thenL, blockL]
    exact fin_au _ (.inr rfl) [0, 1] (⟨26, mkS [(4, .x (.one (.p (pi i))))], mkH [(0, .var [.p (pi f_c.Num), .p (pi f_c.Den)]), (1, .var [.p (.sl 4 (List.map enc_api_Point f_c_1))])]⟩) rfl rfl imp_au
  case hxsort_Search_conversion_eval_f1_j1 =>
    refine lok_block ?_
    replace H0 := bind_some H0
    obtain ⟨v_0, hv_0, H0⟩ := H0
    refine lok_iter (fun x_ => ⟨26, mkS [(1, .x (.one (.fn 68 [0, 1]))), (5, .x (.one (.p (pi x_.1)))), (6, .x (.one (.p (pi x_.2))))], mkH [(0, .var [.p (pi f_c.Num), .p (pi f_c.Den)]), (1, .var [.p (.sl 4 (List.map enc_api_Point f_c_1))])]⟩) hv_0 imp_au ?_
    · rintro ⟨i1, j⟩ o_1 H1 k_1
      unfold sort_Search_conversion_eval_f1_l2 at H1
      try dsimp only at H1 ⊢
      refine lok_seq ?_
      refine lok_rt E0 (⟨26, mkS [(1, .x (.one (.fn 68 [0, 1]))), (5, .x (.one (.p (pi i1)))), (6, .x (.one (.p (pi j)))), (11, .x (.one (.p (.val (.bool (decide (i1 < j)))))))], mkH [(0, .var [.p (pi f_c.Num), .p (pi f_c.Den)]), (1, .var [.p (.sl 4 (List.map enc_api_Point f_c_1))])]⟩) ?_
      refine lok_c (decide (i1 < j)) ?_ ?_
      · intro b_4
        replace H1 := cpos H1 b_4
        refine lok_skip ?_
        try simp only [thenL, blockL, ↓reduceIte, reduceCtorEq]
        refine lok_block ?_
        replace H1 := bindV_some H1
        obtain ⟨h, a_1, H1⟩ := H1
        refine lok_rtg E0 a_1 (⟨26, mkS [(1, .x (.one (.fn 68 [0, 1]))), (5, .x (.one (.p (pi i1)))), (6, .x (.one (.p (pi j)))), (7, .x (.one (.p (pi h))))], mkH [(0, .var [.p (pi f_c.Num), .p (pi f_c.Den)]), (1, .var [.p (.sl 4 (List.map enc_api_Point f_c_1))])]⟩) ?_
        replace H1 := bind_some H1
        obtain ⟨y, h_2, H1⟩ := H1
        refine lok_rt (Env.of E0 [⟨some 20, 68, [.one (.p (pi h)), .one (.ptr 0 0), .one (.ptr 1 0)], [.var [.p (pi f_c.Num), .p (pi f_c.Den)], .var [.p (.sl 4 (List.map enc_api_Point f_c_1))]], [.one (.p (.val (.bool y)))], [some (.var [.p (pi f_c.Num), .p (pi f_c.Den)]), some (.var [.p (.sl 4 (List.map enc_api_Point f_c_1))])], True, fun _ => ok_conversion_eval_f1 h f_c f_c_1 y h_2, []⟩]) (⟨26, mkS [(1, .x (.one (.fn 68 [0, 1]))), (5, .x (.one (.p (pi i1)))), (6, .x (.one (.p (pi j)))), (7, .x (.one (.p (pi h)))), (21, .x (.one (.p (.val (.bool (!y))))))], mkH [(0, .var [.p (pi f_c.Num), .p (pi f_c.Den)]), (1, .var [.p (.sl 4 (List.map enc_api_Point f_c_1))])]⟩) ?_
        refine lok_c (!y) ?_ ?_
        · intro b_3
          replace H1 := cpos H1 b_3
          refine lok_rl E0 (⟨26, mkS [(1, .x (.one (.fn 68 [0, 1]))), (5, .x (.one (.p (pi (IntKind.i64.wrap (h + (1 : Int))))))), (6, .x (.one (.p (pi j))))], mkH [(0, .var [.p (pi f_c.Num), .p (pi f_c.Den)]), (1, .var [.p (.sl 4 (List.map enc_api_Point f_c_1))])]⟩) ?_
          try simp only [thenL, blockL, ↓reduceIte, reduceCtorEq]
          exact ⟨((IntKind.i64.wrap (h + (1 : Int))), j), (Option.some.inj H1).symm, imp_au⟩
        · intro b_3
          replace H1 := cneg H1 b_3
          refine lok_rl E0 (⟨26, mkS [(1, .x (.one (.fn 68 [0, 1]))), (5, .x (.one (.p (pi i1)))), (6, .x (.one (.p (pi h))))], mkH [(0, .var [.p (pi f_c.Num), .p (pi f_c.Den)]), (1, .var [.p (.sl 4 (List.map enc_api_Point f_c_1))])]⟩) ?_
          try simp only [thenL, blockL, ↓reduceIte, reduceCtorEq]
          exact ⟨(i1, h), (Option.some.inj H1).symm, imp_au⟩
      · intro b_4
        replace H1 := cneg H1 b_4
        refine lok_exit ?_
        try simp only [thenL, blockL, ↓reduceIte, reduceCtorEq]
        have e_1 := k_1 _ (Option.some.inj H1).symm
        subst e_1
        try dsimp only at H0
        try simp only [thenL, blockL, ↓reduceIte, reduceCtorEq]
        exact ⟨i1, H0, imp_au⟩
theorem ok_bits_Len64 (x : Int) (r_ : Int) (H0 : bits_Len64 x = some r_) : CallOK Try.prog 87 [.one (.p (.val (.int .u64 x)))] [] [.one (.p (pi r_))] [] := by
  refine callOK (n := 25) (rs := [.tmp 2]) (nb := 0) (V := []) Try.func87 rfl (by kernel_rfl) rfl rfl rfl rfl (Nat.le_of_ble_eq_true rfl) (by decide) ?_
  unfold bits_Len64 at H0
  refine lok_rt E0 (⟨25, mkS [(0, .x (.one (.p (.val (.int .u64 x))))), (2, .x (.one (.p (pi (0 : Int)))))], mkH []⟩) ?_
  refine lok_join (fun x_ : Int × Int => bits_Len64_j3 x_.1 x_.2 = some r_) (fun x_ => ⟨25, mkS [(0, .x (.one (.p (.val (.int .u64 x_.1))))), (2, .x (.one (.p (pi x_.2))))], mkH []⟩) ?hybits_Len64_j3 ?hxbits_Len64_j3
  case hybits_Len64_j3 =>
    rintro ⟨x1, n⟩ H0
    try dsimp only at H0 ⊢
    unfold bits_Len64_j3 at H0
    refine lok_join (fun x_ : Int × Int => bits_Len64_j2 x_.1 x_.2 = some r_) (fun x_ => ⟨25, mkS [(0, .x (.one (.p (.val (.int .u64 x_.1))))), (2, .x (.one (.p (pi x_.2))))], mkH []⟩) ?hybits_Len64_j2 ?hxbits_Len64_j2
    case hybits_Len64_j2 =>
      rintro ⟨x2, n1⟩ H0
      try dsimp only at H0 ⊢
      unfold bits_Len64_j2 at H0
      refine lok_join (fun x_ : Int × Int => bits_Len64_j1 x_.1 x_.2 = some r_) (fun x_ => ⟨25, mkS [(0, .x (.one (.p (.val (.int .u64 x_.1))))), (2, .x (.one (.p (pi x_.2))))], mkH []⟩) ?hybits_Len64_j1 ?hxbits_Len64_j1
      case hybits_Len64_j1 =>
        rintro ⟨x3, n2⟩ H0
        try dsimp only at H0 ⊢
        unfold bits_Len64_j1 at H0
        replace H0 := req_some H0
        obtain ⟨q_1, H0⟩ := H0
        replace H0 := bindV_some H0
        obtain ⟨n3, a_0, H0⟩ := H0
        refine lok_rtg E0 a_0 (⟨25, mkS [(2, .x (.one (.p (pi n3))))], mkH []⟩) ?_
        refine lok_ret ?_
        obtain rfl := Option.some.inj H0
        try simp only [thenL, blockL]
        exact fin_au _ (.inr rfl) [] (⟨25, mkS [(2, .x (.one (.p (pi n3))))], mkH []⟩) rfl rfl imp_au
      case hxbits_Len64_j1 =>
        refine lok_rt E0 (⟨25, mkS [(0, .x (.one (.p (.val (.int .u64 x2))))), (2, .x (.one (.p (pi n1)))), (14, .x (.one (.p (.val (.bool (decide ((256 : Int) ≤ x2)))))))], mkH []⟩) ?_
        refine lok_c (decide ((256 : Int) ≤ x2)) ?_ ?_
        · intro b_2
          replace H0 := cpos H0 b_2
          refine lok_rt E0 (⟨25, mkS [(0, .x (.one (.p (.val (.int .u64 (bShr .u64 x2 (8 : Int))))))), (2, .x (.one (.p (pi n1))))], mkH []⟩) ?_
          refine lok_rl E0 (⟨25, mkS [(0, .x (.one (.p (.val (.int .u64 (bShr .u64 x2 (8 : Int))))))), (2, .x (.one (.p (pi (IntKind.i64.wrap (n1 + (8 : Int)))))))], mkH []⟩) ?_
          try simp only [thenL, blockL, ↓reduceIte, reduceCtorEq]
          exact ⟨((bShr .u64 x2 (8 : Int)), (IntKind.i64.wrap (n1 + (8 : Int)))), H0, imp_au⟩
        · intro b_2
          replace H0 := cneg H0 b_2
          refine lok_skip ?_
          try simp only [thenL, blockL, ↓reduceIte, reduceCtorEq]
          exact ⟨(x2, n1), H0, imp_au⟩
    case hxbits_Len64_j2 =>
      refine lok_rt E0 (⟨25, mkS [(0, .x (.one (.p (.val (.int .u64 x1))))), (2, .x (.one (.p (pi n)))), (8, .x (.one (.p (.val (.bool (decide ((65536 : Int) ≤ x1)))))))], mkH []⟩) ?_
      refine lok_c (decide ((65536 : Int) ≤ x1)) ?_ ?_
      · intro b_3
        replace H0 := cpos H0 b_3
        refine lok_rt E0 (⟨25, mkS [(0, .x (.one (.p (.val (.int .u64 (bShr .u64 x1 (16 : Int))))))), (2, .x (.one (.p (pi n))))], mkH []⟩) ?_
        refine lok_rl E0 (⟨25, mkS [(0, .x (.one (.p (.val (.int .u64 (bShr .u64 x1 (16 : Int))))))), (2, .x (.one (.p (pi (IntKind.i64.wrap (n + (16 : Int)))))))], mkH []⟩) ?_
        try simp only [thenL, blockL, ↓reduceIte, reduceCtorEq]
        exact ⟨((bShr .u64 x1 (16 : Int)), (IntKind.i64.wrap (n + (16 : Int)))), H0, imp_au⟩
      · intro b_3
        replace H0 := cneg H0 b_3
        refine lok_skip ?_
        try simp only [thenL, blockL, ↓reduceIte, reduceCtorEq]
        exact ⟨(x1, n), H0, imp_au⟩
  case hxbits_Len64_j3 =>
    refine lok_rt E0 (⟨25, mkS [(0, .x (.one (.p (.val (.int .u64 x))))), (2, .x (.one (.p (pi (0 : Int))))), (4, .x (.one (.p (.val (.bool (decide ((4294967296 : Int) ≤ x)))))))], mkH []⟩) ?_
    refine lok_c (decide ((4294967296 : Int) ≤ x)) ?_ ?_
    · intro b_4
      replace H0 := cpos H0 b_4
      refine lok_rt E0 (⟨25, mkS [(0, .x (.one (.p (.val (.int .u64 (bShr .u64 x (32 : Int)))))))], mkH []⟩) ?_
      refine lok_rl E0 (⟨25, mkS [(0, .x (.one (.p (.val (.int .u64 (bShr .u64 x (32 : Int))))))), (2, .x (.one (.p (pi (32 : Int)))))], mkH []⟩) ?_
      try simp only [thenL, blockL, ↓reduceIte, reduceCtorEq]
      exact ⟨((bShr .u64 x (32 : Int)), (32 : Int)), H0, imp_au⟩
    · intro b_4
      replace H0 := cneg H0 b_4
      refine lok_skip ?_
      try simp only [thenL, blockL, ↓reduceIte, reduceCtorEq]
      exact ⟨(x, (0 : Int)), H0, imp_au⟩
theorem ok_bits_LeadingZeros64 (x : Int) (r_ : Int) (H0 : bits_LeadingZeros64 x = some r_) : CallOK Try.prog 84 [.one (.p (.val (.int .u64 x)))] [] [.one (.p (pi r_))] [] := by
  refine callOK (n := 6) (rs := [.tmp 2]) (nb := 0) (V := []) Try.func84 rfl (by kernel_rfl) rfl rfl rfl rfl (Nat.le_of_ble_eq_true rfl) (by decide) ?_
  unfold bits_LeadingZeros64 at H0
  refine lok_rt E0 (⟨6, mkS [(0, .x (.one (.p (.val (.int .u64 x)))))], mkH []⟩) ?_
  replace H0 := bind_some H0
  obtain ⟨y, h_0, H0⟩ := H0
  refine lok_rt (Env.of E0 [⟨some 4, 87, [.one (.p (.val (.int .u64 x)))], [], [.one (.p (pi y))], [], True, fun _ => ok_bits_Len64 x y h_0, []⟩]) (⟨6, mkS [(2, .x (.one (.p (pi (IntKind.i64.wrap ((64 : Int) - y))))))], mkH []⟩) ?_
  refine lok_ret ?_
  obtain rfl := Option.some.inj H0
  try simp only [thenL, blockL]
  exact fin_au _ (.inr rfl) [] (⟨6, mkS [(2, .x (.one (.p (pi (IntKind.i64.wrap ((64 : Int) - y))))))], mkH []⟩) rfl rfl imp_au
set_option maxHeartbeats 4000000 in
theorem ok_bits_Div64 (hi : Int) (lo : Int) (y : Int) (r_ : Int × Int) (H0 : bits_Div64 hi lo y = some r_) : CallOK Try.prog 78 [.one (.p (.val (.int .u64 hi))), .one (.p (.val (.int .u64 lo))), .one (.p (.val (.int .u64 y)))] [] [.one (.p (.val (.int .u64 r_.1))), .one (.p (.val (.int .u64 r_.2)))] [] := by
  refine callOK (n := 135) (rs := [.tmp 6, .tmp 7]) (nb := 0) (V := []) Try.func78 rfl (by kernel_rfl) rfl rfl rfl rfl (Nat.le_of_ble_eq_true rfl) (by decide) ?_
  unfold bits_Div64 at H0
  refine lok_rt E0 (⟨135, mkS [(0, .x (.one (.p (.val (.int .u64 hi))))), (1, .x (.one (.p (.val (.int .u64 lo))))), (2, .x (.one (.p (.val (.int .u64 y)))))], mkH []⟩) ?_
  refine lok_join (fun x_ : Unit => bits_Div64_j6 hi lo y = some r_) (fun x_ => ⟨135, mkS [(0, .x (.one (.p (.val (.int .u64 hi))))), (1, .x (.one (.p (.val (.int .u64 lo))))), (2, .x (.one (.p (.val (.int .u64 y)))))], mkH []⟩) ?hybits_Div64_j6 ?hxbits_Div64_j6
  case hybits_Div64_j6 =>
    rintro _ H0
    try dsimp only at H0 ⊢
    unfold bits_Div64_j6 at H0
    refine lok_join (fun x_ : Unit => bits_Div64_j5 hi lo y = some r_) (fun x_ => ⟨135, mkS [(0, .x (.one (.p (.val (.int .u64 hi))))), (1, .x (.one (.p (.val (.int .u64 lo))))), (2, .x (.one (.p (.val (.int .u64 y)))))], mkH []⟩) ?hybits_Div64_j5 ?hxbits_Div64_j5
    case hybits_Div64_j5 =>
      rintro _ H0
      try dsimp only at H0 ⊢
      unfold bits_Div64_j5 at H0
      refine lok_seq ?_
      refine lok_rt E0 (⟨135, mkS [(0, .x (.one (.p (.val (.int .u64 hi))))), (1, .x (.one (.p (.val (.int .u64 lo))))), (2, .x (.one (.p (.val (.int .u64 y))))), (27, .x (.one (.p (.val (.bool (hi == (0 : Int)))))))], mkH []⟩) ?_
      refine lok_c (hi == (0 : Int)) ?_ ?_
      · intro b_25
        replace H0 := cpos H0 b_25
        replace H0 := req_some H0
        obtain ⟨q_0, H0⟩ := H0
        refine lok_dt E0 7 (⟨135, mkS [(6, .x (.one (.p (.val (.int .u64 (IntKind.u64.wrap (Int.tdiv lo y))))))), (7, .x (.one (.p (.val (.int .u64 (Int.tmod lo y))))))], mkH []⟩) (by kernel_rfl) (by kernel_rfl) ?_
        refine lok_ret ?_
        obtain rfl := Option.some.inj H0
        try simp only [thenL, blockL]
        exact fin_au _ (.inr rfl) [] (⟨135, mkS [(6, .x (.one (.p (.val (.int .u64 (IntKind.u64.wrap (Int.tdiv lo y))))))), (7, .x (.one (.p (.val (.int .u64 (Int.tmod lo y))))))], mkH []⟩) rfl rfl imp_au
      · intro b_25
        replace H0 := cneg H0 b_25
        refine lok_skip ?_
        try simp only [thenL, blockL, ↓reduceIte, reduceCtorEq]
        replace H0 := bind_some H0
        obtain ⟨y1, h_1, H0⟩ := H0
        refine lok_rt (Env.of E0 [⟨some 35, 84, [.one (.p (.val (.int .u64 y)))], [], [.one (.p (pi y1))], [], True, fun _ => ok_bits_LeadingZeros64 y y1 h_1, []⟩]) (⟨135, mkS [(0, .x (.one (.p (.val (.int .u64 hi))))), (1, .x (.one (.p (.val (.int .u64 lo))))), (2, .x (.one (.p (.val (.int .u64 y))))), (8, .x (.one (.p (.val (.int .u64 (IntKind.u64.wrap y1))))))], mkH []⟩) ?_
        replace H0 := req_some H0
        obtain ⟨q_24, H0⟩ := H0
        refine lok_rt E0 (⟨135, mkS [(0, .x (.one (.p (.val (.int .u64 hi))))), (1, .x (.one (.p (.val (.int .u64 lo))))), (2, .x (.one (.p (.val (.int .u64 (bShl .u64 y (IntKind.u64.wrap y1))))))), (8, .x (.one (.p (.val (.int .u64 (IntKind.u64.wrap y1))))))], mkH []⟩) ?_
        refine lok_rt E0 (⟨135, mkS [(0, .x (.one (.p (.val (.int .u64 hi))))), (1, .x (.one (.p (.val (.int .u64 lo))))), (2, .x (.one (.p (.val (.int .u64 (bShl .u64 y (IntKind.u64.wrap y1))))))), (8, .x (.one (.p (.val (.int .u64 (IntKind.u64.wrap y1)))))), (9, .x (.one (.p (.val (.int .u64 (bShr .u64 (bShl .u64 y (IntKind.u64.wrap y1)) (32 : Int)))))))], mkH []⟩) ?_
        refine lok_rt E0 (⟨135, mkS [(0, .x (.one (.p (.val (.int .u64 hi))))), (1, .x (.one (.p (.val (.int .u64 lo))))), (2, .x (.one (.p (.val (.int .u64 (bShl .u64 y (IntKind.u64.wrap y1))))))), (8, .x (.one (.p (.val (.int .u64 (IntKind.u64.wrap y1)))))), (9, .x (.one (.p (.val (.int .u64 (bShr .u64 (bShl .u64 y (IntKind.u64.wrap y1)) (32 : Int))))))), (10, .x (.one (.p (.val (.int .u64 (bAnd .u64 (bShl .u64 y (IntKind.u64.wrap y1)) (4294967295 : Int)))))))], mkH []⟩) ?_
        replace H0 := req_some H0
        obtain ⟨⟨q_22, q_23⟩, H0⟩ := H0
        replace H0 := bindV_some H0
        obtain ⟨un32, a_2, H0⟩ := H0
        refine lok_rtg E0 a_2 (⟨135, mkS [(1, .x (.one (.p (.val (.int .u64 lo))))), (2, .x (.one (.p (.val (.int .u64 (bShl .u64 y (IntKind.u64.wrap y1))))))), (8, .x (.one (.p (.val (.int .u64 (IntKind.u64.wrap y1)))))), (9, .x (.one (.p (.val (.int .u64 (bShr .u64 (bShl .u64 y (IntKind.u64.wrap y1)) (32 : Int))))))), (10, .x (.one (.p (.val (.int .u64 (bAnd .u64 (bShl .u64 y (IntKind.u64.wrap y1)) (4294967295 : Int))))))), (11, .x (.one (.p (.val (.int .u64 un32)))))], mkH []⟩) ?_
        replace H0 := req_some H0
        obtain ⟨q_21, H0⟩ := H0
        refine lok_rt E0 (⟨135, mkS [(2, .x (.one (.p (.val (.int .u64 (bShl .u64 y (IntKind.u64.wrap y1))))))), (8, .x (.one (.p (.val (.int .u64 (IntKind.u64.wrap y1)))))), (9, .x (.one (.p (.val (.int .u64 (bShr .u64 (bShl .u64 y (IntKind.u64.wrap y1)) (32 : Int))))))), (10, .x (.one (.p (.val (.int .u64 (bAnd .u64 (bShl .u64 y (IntKind.u64.wrap y1)) (4294967295 : Int))))))), (11, .x (.one (.p (.val (.int .u64 un32))))), (12, .x (.one (.p (.val (.int .u64 (bShl .u64 lo (IntKind.u64.wrap y1)))))))], mkH []⟩) ?_
        refine lok_rt E0 (⟨135, mkS [(2, .x (.one (.p (.val (.int .u64 (bShl .u64 y (IntKind.u64.wrap y1))))))), (8, .x (.one (.p (.val (.int .u64 (IntKind.u64.wrap y1)))))), (9, .x (.one (.p (.val (.int .u64 (bShr .u64 (bShl .u64 y (IntKind.u64.wrap y1)) (32 : Int))))))), (10, .x (.one (.p (.val (.int .u64 (bAnd .u64 (bShl .u64 y (IntKind.u64.wrap y1)) (4294967295 : Int))))))), (11, .x (.one (.p (.val (.int .u64 un32))))), (12, .x (.one (.p (.val (.int .u64 (bShl .u64 lo (IntKind.u64.wrap y1))))))), (13, .x (.one (.p (.val (.int .u64 (bShr .u64 (bShl .u64 lo (IntKind.u64.wrap y1)) (32 : Int)))))))], mkH []⟩) ?_
        refine lok_rt E0 (⟨135, mkS [(2, .x (.one (.p (.val (.int .u64 (bShl .u64 y (IntKind.u64.wrap y1))))))), (8, .x (.one (.p (.val (.int .u64 (IntKind.u64.wrap y1)))))), (9, .x (.one (.p (.val (.int .u64 (bShr .u64 (bShl .u64 y (IntKind.u64.wrap y1)) (32 : Int))))))), (10, .x (.one (.p (.val (.int .u64 (bAnd .u64 (bShl .u64 y (IntKind.u64.wrap y1)) (4294967295 : Int))))))), (11, .x (.one (.p (.val (.int .u64 un32))))), (13, .x (.one (.p (.val (.int .u64 (bShr .u64 (bShl .u64 lo (IntKind.u64.wrap y1)) (32 : Int))))))), (14, .x (.one (.p (.val (.int .u64 (bAnd .u64 (bShl .u64 lo (IntKind.u64.wrap y1)) (4294967295 : Int)))))))], mkH []⟩) ?_
        replace H0 := req_some H0
        obtain ⟨q_20, H0⟩ := H0
        replace H0 := bindV_some H0
        obtain ⟨q1, a_3, H0⟩ := H0
        refine lok_rtg E0 a_3 (⟨135, mkS [(2, .x (.one (.p (.val (.int .u64 (bShl .u64 y (IntKind.u64.wrap y1))))))), (8, .x (.one (.p (.val (.int .u64 (IntKind.u64.wrap y1)))))), (9, .x (.one (.p (.val (.int .u64 (bShr .u64 (bShl .u64 y (IntKind.u64.wrap y1)) (32 : Int))))))), (10, .x (.one (.p (.val (.int .u64 (bAnd .u64 (bShl .u64 y (IntKind.u64.wrap y1)) (4294967295 : Int))))))), (11, .x (.one (.p (.val (.int .u64 un32))))), (13, .x (.one (.p (.val (.int .u64 (bShr .u64 (bShl .u64 lo (IntKind.u64.wrap y1)) (32 : Int))))))), (14, .x (.one (.p (.val (.int .u64 (bAnd .u64 (bShl .u64 lo (IntKind.u64.wrap y1)) (4294967295 : Int))))))), (15, .x (.one (.p (.val (.int .u64 q1)))))], mkH []⟩) ?_
        replace H0 := bindV_some H0
        obtain ⟨rhat, a_4, H0⟩ := H0
        refine lok_rtg E0 a_4 (⟨135, mkS [(2, .x (.one (.p (.val (.int .u64 (bShl .u64 y (IntKind.u64.wrap y1))))))), (8, .x (.one (.p (.val (.int .u64 (IntKind.u64.wrap y1)))))), (9, .x (.one (.p (.val (.int .u64 (bShr .u64 (bShl .u64 y (IntKind.u64.wrap y1)) (32 : Int))))))), (10, .x (.one (.p (.val (.int .u64 (bAnd .u64 (bShl .u64 y (IntKind.u64.wrap y1)) (4294967295 : Int))))))), (11, .x (.one (.p (.val (.int .u64 un32))))), (13, .x (.one (.p (.val (.int .u64 (bShr .u64 (bShl .u64 lo (IntKind.u64.wrap y1)) (32 : Int))))))), (14, .x (.one (.p (.val (.int .u64 (bAnd .u64 (bShl .u64 lo (IntKind.u64.wrap y1)) (4294967295 : Int))))))), (15, .x (.one (.p (.val (.int .u64 q1))))), (16, .x (.one (.p (.val (.int .u64 rhat)))))], mkH []⟩) ?_
        refine lok_join (fun x_ : Int => bits_Div64_j3 lo y y1 un32 x_ = some r_) (fun x_ => ⟨135, mkS [(2, .x (.one (.p (.val (.int .u64 (bShl .u64 y (IntKind.u64.wrap y1))))))), (8, .x (.one (.p (.val (.int .u64 (IntKind.u64.wrap y1)))))), (9, .x (.one (.p (.val (.int .u64 (bShr .u64 (bShl .u64 y (IntKind.u64.wrap y1)) (32 : Int))))))), (10, .x (.one (.p (.val (.int .u64 (bAnd .u64 (bShl .u64 y (IntKind.u64.wrap y1)) (4294967295 : Int))))))), (11, .x (.one (.p (.val (.int .u64 un32))))), (13, .x (.one (.p (.val (.int .u64 (bShr .u64 (bShl .u64 lo (IntKind.u64.wrap y1)) (32 : Int))))))), (14, .x (.one (.p (.val (.int .u64 (bAnd .u64 (bShl .u64 lo (IntKind.u64.wrap y1)) (4294967295 : Int))))))), (15, .x (.one (.p (.val (.int .u64 x_)))))], mkH []⟩) ?hybits_Div64_j3 ?hxbits_Div64_j3
        case hybits_Div64_j3 =>
          rintro q11 H0
          try dsimp only at H0 ⊢
          unfold bits_Div64_j3 at H0
          replace H0 := bindV_some H0
          obtain ⟨un21, a_5, H0⟩ := H0
          refine lok_rtg E0 a_5 (⟨135, mkS [(2, .x (.one (.p (.val (.int .u64 (bShl .u64 y (IntKind.u64.wrap y1))))))), (8, .x (.one (.p (.val (.int .u64 (IntKind.u64.wrap y1)))))), (9, .x (.one (.p (.val (.int .u64 (bShr .u64 (bShl .u64 y (IntKind.u64.wrap y1)) (32 : Int))))))), (10, .x (.one (.p (.val (.int .u64 (bAnd .u64 (bShl .u64 y (IntKind.u64.wrap y1)) (4294967295 : Int))))))), (14, .x (.one (.p (.val (.int .u64 (bAnd .u64 (bShl .u64 lo (IntKind.u64.wrap y1)) (4294967295 : Int))))))), (15, .x (.one (.p (.val (.int .u64 q11))))), (17, .x (.one (.p (.val (.int .u64 un21)))))], mkH []⟩) ?_
          replace H0 := req_some H0
          obtain ⟨q_15, H0⟩ := H0
          replace H0 := bindV_some H0
          obtain ⟨q0, a_6, H0⟩ := H0
          refine lok_rtg E0 a_6 (⟨135, mkS [(2, .x (.one (.p (.val (.int .u64 (bShl .u64 y (IntKind.u64.wrap y1))))))), (8, .x (.one (.p (.val (.int .u64 (IntKind.u64.wrap y1)))))), (9, .x (.one (.p (.val (.int .u64 (bShr .u64 (bShl .u64 y (IntKind.u64.wrap y1)) (32 : Int))))))), (10, .x (.one (.p (.val (.int .u64 (bAnd .u64 (bShl .u64 y (IntKind.u64.wrap y1)) (4294967295 : Int))))))), (14, .x (.one (.p (.val (.int .u64 (bAnd .u64 (bShl .u64 lo (IntKind.u64.wrap y1)) (4294967295 : Int))))))), (15, .x (.one (.p (.val (.int .u64 q11))))), (17, .x (.one (.p (.val (.int .u64 un21))))), (18, .x (.one (.p (.val (.int .u64 q0)))))], mkH []⟩) ?_
          replace H0 := bindV_some H0
          obtain ⟨rhat1, a_7, H0⟩ := H0
          refine lok_rtg E0 a_7 (⟨135, mkS [(2, .x (.one (.p (.val (.int .u64 (bShl .u64 y (IntKind.u64.wrap y1))))))), (8, .x (.one (.p (.val (.int .u64 (IntKind.u64.wrap y1)))))), (9, .x (.one (.p (.val (.int .u64 (bShr .u64 (bShl .u64 y (IntKind.u64.wrap y1)) (32 : Int))))))), (10, .x (.one (.p (.val (.int .u64 (bAnd .u64 (bShl .u64 y (IntKind.u64.wrap y1)) (4294967295 : Int))))))), (14, .x (.one (.p (.val (.int .u64 (bAnd .u64 (bShl .u64 lo (IntKind.u64.wrap y1)) (4294967295 : Int))))))), (15, .x (.one (.p (.val (.int .u64 q11))))), (16, .x (.one (.p (.val (.int .u64 rhat1))))), (17, .x (.one (.p (.val (.int .u64 un21))))), (18, .x (.one (.p (.val (.int .u64 q0)))))], mkH []⟩) ?_
          refine lok_join (fun x_ : Int => bits_Div64_j1 lo y y1 q11 un21 x_ = some r_) (fun x_ => ⟨135, mkS [(2, .x (.one (.p (.val (.int .u64 (bShl .u64 y (IntKind.u64.wrap y1))))))), (8, .x (.one (.p (.val (.int .u64 (IntKind.u64.wrap y1)))))), (14, .x (.one (.p (.val (.int .u64 (bAnd .u64 (bShl .u64 lo (IntKind.u64.wrap y1)) (4294967295 : Int))))))), (15, .x (.one (.p (.val (.int .u64 q11))))), (17, .x (.one (.p (.val (.int .u64 un21))))), (18, .x (.one (.p (.val (.int .u64 x_)))))], mkH []⟩) ?hybits_Div64_j1 ?hxbits_Div64_j1
          case hybits_Div64_j1 =>
            rintro q01 H0
            try dsimp only at H0 ⊢
            unfold bits_Div64_j1 at H0
            replace H0 := req_some H0
            obtain ⟨q_10, H0⟩ := H0
            replace H0 := bindV_some H0
            obtain ⟨quo, a_8, H0⟩ := H0
            replace H0 := bindV_some H0
            obtain ⟨rem, a_9, H0⟩ := H0
            refine lok_rtg E0 (And.intro a_8 a_9) (⟨135, mkS [(6, .x (.one (.p (.val (.int .u64 quo))))), (7, .x (.one (.p (.val (.int .u64 rem)))))], mkH []⟩) ?_
            refine lok_ret ?_
            obtain rfl := Option.some.inj H0
            try simp only [thenL, blockL]
            exact fin_au _ (.inr rfl) [] (⟨135, mkS [(6, .x (.one (.p (.val (.int .u64 quo))))), (7, .x (.one (.p (.val (.int .u64 rem)))))], mkH []⟩) rfl rfl imp_au
          case hxbits_Div64_j1 =>
            refine lok_block ?_
            replace H0 := bind_some H0
            obtain ⟨v_11, hv_11, H0⟩ := H0
            refine lok_iter (fun x_ => ⟨135, mkS [(2, .x (.one (.p (.val (.int .u64 (bShl .u64 y (IntKind.u64.wrap y1))))))), (8, .x (.one (.p (.val (.int .u64 (IntKind.u64.wrap y1)))))), (9, .x (.one (.p (.val (.int .u64 (bShr .u64 (bShl .u64 y (IntKind.u64.wrap y1)) (32 : Int))))))), (10, .x (.one (.p (.val (.int .u64 (bAnd .u64 (bShl .u64 y (IntKind.u64.wrap y1)) (4294967295 : Int))))))), (14, .x (.one (.p (.val (.int .u64 (bAnd .u64 (bShl .u64 lo (IntKind.u64.wrap y1)) (4294967295 : Int))))))), (15, .x (.one (.p (.val (.int .u64 q11))))), (16, .x (.one (.p (.val (.int .u64 x_.1))))), (17, .x (.one (.p (.val (.int .u64 un21))))), (18, .x (.one (.p (.val (.int .u64 x_.2)))))], mkH []⟩) hv_11 imp_au ?_
            · rintro ⟨rhat2, q02⟩ o_1 H1 k_1
              unfold bits_Div64_l2 at H1
              try dsimp only at H1 ⊢
              refine lok_seq ?_
              refine lok_rt E0 (⟨135, mkS [(2, .x (.one (.p (.val (.int .u64 (bShl .u64 y (IntKind.u64.wrap y1))))))), (8, .x (.one (.p (.val (.int .u64 (IntKind.u64.wrap y1)))))), (9, .x (.one (.p (.val (.int .u64 (bShr .u64 (bShl .u64 y (IntKind.u64.wrap y1)) (32 : Int))))))), (10, .x (.one (.p (.val (.int .u64 (bAnd .u64 (bShl .u64 y (IntKind.u64.wrap y1)) (4294967295 : Int))))))), (14, .x (.one (.p (.val (.int .u64 (bAnd .u64 (bShl .u64 lo (IntKind.u64.wrap y1)) (4294967295 : Int))))))), (15, .x (.one (.p (.val (.int .u64 q11))))), (16, .x (.one (.p (.val (.int .u64 rhat2))))), (17, .x (.one (.p (.val (.int .u64 un21))))), (18, .x (.one (.p (.val (.int .u64 q02))))), (113, .x (.one (.p (.val (.bool ((decide ((4294967296 : Int) ≤ q02)) || (decide ((IntKind.u64.wrap ((IntKind.u64.wrap ((4294967296 : Int) * rhat2)) + (bAnd .u64 (bShl .u64 lo (IntKind.u64.wrap y1)) (4294967295 : Int)))) < (IntKind.u64.wrap (q02 * (bAnd .u64 (bShl .u64 y (IntKind.u64.wrap y1)) (4294967295 : Int))))))))))))], mkH []⟩) ?_
              refine lok_c ((decide ((4294967296 : Int) ≤ q02)) || (decide ((IntKind.u64.wrap ((IntKind.u64.wrap ((4294967296 : Int) * rhat2)) + (bAnd .u64 (bShl .u64 lo (IntKind.u64.wrap y1)) (4294967295 : Int)))) < (IntKind.u64.wrap (q02 * (bAnd .u64 (bShl .u64 y (IntKind.u64.wrap y1)) (4294967295 : Int))))))) ?_ ?_
              · intro b_14
                replace H1 := cpos H1 b_14
                refine lok_skip ?_
                try simp only [thenL, blockL, ↓reduceIte, reduceCtorEq]
                refine lok_block ?_
                refine lok_rt E0 (⟨135, mkS [(2, .x (.one (.p (.val (.int .u64 (bShl .u64 y (IntKind.u64.wrap y1))))))), (8, .x (.one (.p (.val (.int .u64 (IntKind.u64.wrap y1)))))), (9, .x (.one (.p (.val (.int .u64 (bShr .u64 (bShl .u64 y (IntKind.u64.wrap y1)) (32 : Int))))))), (10, .x (.one (.p (.val (.int .u64 (bAnd .u64 (bShl .u64 y (IntKind.u64.wrap y1)) (4294967295 : Int))))))), (14, .x (.one (.p (.val (.int .u64 (bAnd .u64 (bShl .u64 lo (IntKind.u64.wrap y1)) (4294967295 : Int))))))), (15, .x (.one (.p (.val (.int .u64 q11))))), (16, .x (.one (.p (.val (.int .u64 rhat2))))), (17, .x (.one (.p (.val (.int .u64 un21))))), (18, .x (.one (.p (.val (.int .u64 (IntKind.u64.wrap (q02 - (1 : Int))))))))], mkH []⟩) ?_
                replace H1 := bindV_some H1
                obtain ⟨rhat3, a_12, H1⟩ := H1
                refine lok_rtg E0 a_12 (⟨135, mkS [(2, .x (.one (.p (.val (.int .u64 (bShl .u64 y (IntKind.u64.wrap y1))))))), (8, .x (.one (.p (.val (.int .u64 (IntKind.u64.wrap y1)))))), (9, .x (.one (.p (.val (.int .u64 (bShr .u64 (bShl .u64 y (IntKind.u64.wrap y1)) (32 : Int))))))), (10, .x (.one (.p (.val (.int .u64 (bAnd .u64 (bShl .u64 y (IntKind.u64.wrap y1)) (4294967295 : Int))))))), (14, .x (.one (.p (.val (.int .u64 (bAnd .u64 (bShl .u64 lo (IntKind.u64.wrap y1)) (4294967295 : Int))))))), (15, .x (.one (.p (.val (.int .u64 q11))))), (16, .x (.one (.p (.val (.int .u64 rhat3))))), (17, .x (.one (.p (.val (.int .u64 un21))))), (18, .x (.one (.p (.val (.int .u64 (IntKind.u64.wrap (q02 - (1 : Int))))))))], mkH []⟩) ?_
                refine lok_rt E0 (⟨135, mkS [(2, .x (.one (.p (.val (.int .u64 (bShl .u64 y (IntKind.u64.wrap y1))))))), (8, .x (.one (.p (.val (.int .u64 (IntKind.u64.wrap y1)))))), (9, .x (.one (.p (.val (.int .u64 (bShr .u64 (bShl .u64 y (IntKind.u64.wrap y1)) (32 : Int))))))), (10, .x (.one (.p (.val (.int .u64 (bAnd .u64 (bShl .u64 y (IntKind.u64.wrap y1)) (4294967295 : Int))))))), (14, .x (.one (.p (.val (.int .u64 (bAnd .u64 (bShl .u64 lo (IntKind.u64.wrap y1)) (4294967295 : Int))))))), (15, .x (.one (.p (.val (.int .u64 q11))))), (16, .x (.one (.p (.val (.int .u64 rhat3))))), (17, .x (.one (.p (.val (.int .u64 un21))))), (18, .x (.one (.p (.val (.int .u64 (IntKind.u64.wrap (q02 - (1 : Int)))))))), (120, .x (.one (.p (.val (.bool (decide ((4294967296 : Int) ≤ rhat3)))))))], mkH []⟩) ?_
                refine lok_c (decide ((4294967296 : Int) ≤ rhat3)) ?_ ?_
                · intro b_13
                  replace H1 := cpos H1 b_13
                  refine lok_exit ?_
                  try simp only [thenL, blockL, ↓reduceIte, reduceCtorEq]
                  have e_1 := k_1 _ (Option.some.inj H1).symm
                  subst e_1
                  try dsimp only at H0
                  try simp only [thenL, blockL, ↓reduceIte, reduceCtorEq]
                  exact ⟨(IntKind.u64.wrap (q02 - (1 : Int))), H0, imp_au⟩
                · intro b_13
                  replace H1 := cneg H1 b_13
                  refine lok_skip ?_
                  try simp only [thenL, blockL, ↓reduceIte, reduceCtorEq]
                  exact ⟨(rhat3, (IntKind.u64.wrap (q02 - (1 : Int)))), (Option.some.inj H1).symm, imp_au⟩
              · intro b_14
                replace H1 := cneg H1 b_14
                refine lok_exit ?_
                try simp only [thenL, blockL, ↓reduceIte, reduceCtorEq]
                have e_1 := k_1 _ (Option.some.inj H1).symm
                subst e_1
                try dsimp only at H0
                try simp only [thenL, blockL, ↓reduceIte, reduceCtorEq]
                exact ⟨q02, H0, imp_au⟩
        case hxbits_Div64_j3 =>
          refine lok_block ?_
          replace H0 := bind_some H0
          obtain ⟨v_16, hv_16, H0⟩ := H0
          refine lok_iter (fun x_ => ⟨135, mkS [(2, .x (.one (.p (.val (.int .u64 (bShl .u64 y (IntKind.u64.wrap y1))))))), (8, .x (.one (.p (.val (.int .u64 (IntKind.u64.wrap y1)))))), (9, .x (.one (.p (.val (.int .u64 (bShr .u64 (bShl .u64 y (IntKind.u64.wrap y1)) (32 : Int))))))), (10, .x (.one (.p (.val (.int .u64 (bAnd .u64 (bShl .u64 y (IntKind.u64.wrap y1)) (4294967295 : Int))))))), (11, .x (.one (.p (.val (.int .u64 un32))))), (13, .x (.one (.p (.val (.int .u64 (bShr .u64 (bShl .u64 lo (IntKind.u64.wrap y1)) (32 : Int))))))), (14, .x (.one (.p (.val (.int .u64 (bAnd .u64 (bShl .u64 lo (IntKind.u64.wrap y1)) (4294967295 : Int))))))), (15, .x (.one (.p (.val (.int .u64 x_.1))))), (16, .x (.one (.p (.val (.int .u64 x_.2)))))], mkH []⟩) hv_16 imp_au ?_
          · rintro ⟨q12, rhat4⟩ o_1 H1 k_1
            unfold bits_Div64_l4 at H1
            try dsimp only at H1 ⊢
            refine lok_seq ?_
            refine lok_rt E0 (⟨135, mkS [(2, .x (.one (.p (.val (.int .u64 (bShl .u64 y (IntKind.u64.wrap y1))))))), (8, .x (.one (.p (.val (.int .u64 (IntKind.u64.wrap y1)))))), (9, .x (.one (.p (.val (.int .u64 (bShr .u64 (bShl .u64 y (IntKind.u64.wrap y1)) (32 : Int))))))), (10, .x (.one (.p (.val (.int .u64 (bAnd .u64 (bShl .u64 y (IntKind.u64.wrap y1)) (4294967295 : Int))))))), (11, .x (.one (.p (.val (.int .u64 un32))))), (13, .x (.one (.p (.val (.int .u64 (bShr .u64 (bShl .u64 lo (IntKind.u64.wrap y1)) (32 : Int))))))), (14, .x (.one (.p (.val (.int .u64 (bAnd .u64 (bShl .u64 lo (IntKind.u64.wrap y1)) (4294967295 : Int))))))), (15, .x (.one (.p (.val (.int .u64 q12))))), (16, .x (.one (.p (.val (.int .u64 rhat4))))), (78, .x (.one (.p (.val (.bool ((decide ((4294967296 : Int) ≤ q12)) || (decide ((IntKind.u64.wrap ((IntKind.u64.wrap ((4294967296 : Int) * rhat4)) + (bShr .u64 (bShl .u64 lo (IntKind.u64.wrap y1)) (32 : Int)))) < (IntKind.u64.wrap (q12 * (bAnd .u64 (bShl .u64 y (IntKind.u64.wrap y1)) (4294967295 : Int))))))))))))], mkH []⟩) ?_
            refine lok_c ((decide ((4294967296 : Int) ≤ q12)) || (decide ((IntKind.u64.wrap ((IntKind.u64.wrap ((4294967296 : Int) * rhat4)) + (bShr .u64 (bShl .u64 lo (IntKind.u64.wrap y1)) (32 : Int)))) < (IntKind.u64.wrap (q12 * (bAnd .u64 (bShl .u64 y (IntKind.u64.wrap y1)) (4294967295 : Int))))))) ?_ ?_
            · intro b_19
              replace H1 := cpos H1 b_19
              refine lok_skip ?_
              try simp only [thenL, blockL, ↓reduceIte, reduceCtorEq]
              refine lok_block ?_
              refine lok_rt E0 (⟨135, mkS [(2, .x (.one (.p (.val (.int .u64 (bShl .u64 y (IntKind.u64.wrap y1))))))), (8, .x (.one (.p (.val (.int .u64 (IntKind.u64.wrap y1)))))), (9, .x (.one (.p (.val (.int .u64 (bShr .u64 (bShl .u64 y (IntKind.u64.wrap y1)) (32 : Int))))))), (10, .x (.one (.p (.val (.int .u64 (bAnd .u64 (bShl .u64 y (IntKind.u64.wrap y1)) (4294967295 : Int))))))), (11, .x (.one (.p (.val (.int .u64 un32))))), (13, .x (.one (.p (.val (.int .u64 (bShr .u64 (bShl .u64 lo (IntKind.u64.wrap y1)) (32 : Int))))))), (14, .x (.one (.p (.val (.int .u64 (bAnd .u64 (bShl .u64 lo (IntKind.u64.wrap y1)) (4294967295 : Int))))))), (15, .x (.one (.p (.val (.int .u64 (IntKind.u64.wrap (q12 - (1 : Int)))))))), (16, .x (.one (.p (.val (.int .u64 rhat4)))))], mkH []⟩) ?_
              replace H1 := bindV_some H1
              obtain ⟨rhat5, a_17, H1⟩ := H1
              refine lok_rtg E0 a_17 (⟨135, mkS [(2, .x (.one (.p (.val (.int .u64 (bShl .u64 y (IntKind.u64.wrap y1))))))), (8, .x (.one (.p (.val (.int .u64 (IntKind.u64.wrap y1)))))), (9, .x (.one (.p (.val (.int .u64 (bShr .u64 (bShl .u64 y (IntKind.u64.wrap y1)) (32 : Int))))))), (10, .x (.one (.p (.val (.int .u64 (bAnd .u64 (bShl .u64 y (IntKind.u64.wrap y1)) (4294967295 : Int))))))), (11, .x (.one (.p (.val (.int .u64 un32))))), (13, .x (.one (.p (.val (.int .u64 (bShr .u64 (bShl .u64 lo (IntKind.u64.wrap y1)) (32 : Int))))))), (14, .x (.one (.p (.val (.int .u64 (bAnd .u64 (bShl .u64 lo (IntKind.u64.wrap y1)) (4294967295 : Int))))))), (15, .x (.one (.p (.val (.int .u64 (IntKind.u64.wrap (q12 - (1 : Int)))))))), (16, .x (.one (.p (.val (.int .u64 rhat5)))))], mkH []⟩) ?_
              refine lok_rt E0 (⟨135, mkS [(2, .x (.one (.p (.val (.int .u64 (bShl .u64 y (IntKind.u64.wrap y1))))))), (8, .x (.one (.p (.val (.int .u64 (IntKind.u64.wrap y1)))))), (9, .x (.one (.p (.val (.int .u64 (bShr .u64 (bShl .u64 y (IntKind.u64.wrap y1)) (32 : Int))))))), (10, .x (.one (.p (.val (.int .u64 (bAnd .u64 (bShl .u64 y (IntKind.u64.wrap y1)) (4294967295 : Int))))))), (11, .x (.one (.p (.val (.int .u64 un32))))), (13, .x (.one (.p (.val (.int .u64 (bShr .u64 (bShl .u64 lo (IntKind.u64.wrap y1)) (32 : Int))))))), (14, .x (.one (.p (.val (.int .u64 (bAnd .u64 (bShl .u64 lo (IntKind.u64.wrap y1)) (4294967295 : Int))))))), (15, .x (.one (.p (.val (.int .u64 (IntKind.u64.wrap (q12 - (1 : Int)))))))), (16, .x (.one (.p (.val (.int .u64 rhat5))))), (85, .x (.one (.p (.val (.bool (decide ((4294967296 : Int) ≤ rhat5)))))))], mkH []⟩) ?_
              refine lok_c (decide ((4294967296 : Int) ≤ rhat5)) ?_ ?_
              · intro b_18
                replace H1 := cpos H1 b_18
                refine lok_exit ?_
                try simp only [thenL, blockL, ↓reduceIte, reduceCtorEq]
                have e_1 := k_1 _ (Option.some.inj H1).symm
                subst e_1
                try dsimp only at H0
                try simp only [thenL, blockL, ↓reduceIte, reduceCtorEq]
                exact ⟨(IntKind.u64.wrap (q12 - (1 : Int))), H0, imp_au⟩
              · intro b_18
                replace H1 := cneg H1 b_18
                refine lok_skip ?_
                try simp only [thenL, blockL, ↓reduceIte, reduceCtorEq]
                exact ⟨((IntKind.u64.wrap (q12 - (1 : Int))), rhat5), (Option.some.inj H1).symm, imp_au⟩
            · intro b_19
              replace H1 := cneg H1 b_19
              refine lok_exit ?_
              try simp only [thenL, blockL, ↓reduceIte, reduceCtorEq]
              have e_1 := k_1 _ (Option.some.inj H1).symm
              subst e_1
              try dsimp only at H0
              try simp only [thenL, blockL, ↓reduceIte, reduceCtorEq]
              exact ⟨q12, H0, imp_au⟩
    case hxbits_Div64_j5 =>
      refine lok_rt E0 (⟨135, mkS [(0, .x (.one (.p (.val (.int .u64 hi))))), (1, .x (.one (.p (.val (.int .u64 lo))))), (2, .x (.one (.p (.val (.int .u64 y))))), (24, .x (.one (.p (.val (.bool (decide (y ≤ hi)))))))], mkH []⟩) ?_
      refine lok_c (decide (y ≤ hi)) ?_ ?_
      · intro b_26
        replace H0 := cpos H0 b_26
        cases H0
      · intro b_26
        replace H0 := cneg H0 b_26
        refine lok_skip ?_
        try simp only [thenL, blockL, ↓reduceIte, reduceCtorEq]
        exact ⟨(), H0, imp_au⟩
  case hxbits_Div64_j6 =>
    refine lok_rt E0 (⟨135, mkS [(0, .x (.one (.p (.val (.int .u64 hi))))), (1, .x (.one (.p (.val (.int .u64 lo))))), (2, .x (.one (.p (.val (.int .u64 y))))), (20, .x (.one (.p (.val (.bool (y == (0 : Int)))))))], mkH []⟩) ?_
    refine lok_c (y == (0 : Int)) ?_ ?_
    · intro b_27
      replace H0 := cpos H0 b_27
      cases H0
    · intro b_27
      replace H0 := cneg H0 b_27
      refine lok_skip ?_
      try simp only [thenL, blockL, ↓reduceIte, reduceCtorEq]
      exact ⟨(), H0, imp_au⟩
theorem ok_bits_Rem64 (hi : Int) (lo : Int) (y : Int) (r_ : Int) (H0 : bits_Rem64 hi lo y = some r_) : CallOK Try.prog 77 [.one (.p (.val (.int .u64 hi))), .one (.p (.val (.int .u64 lo))), .one (.p (.val (.int .u64 y)))] [] [.one (.p (.val (.int .u64 r_)))] [] := by
  refine callOK (n := 19) (rs := [.tmp 6]) (nb := 0) (V := []) Try.func77 rfl (by kernel_rfl) rfl rfl rfl rfl (Nat.le_of_ble_eq_true rfl) (by decide) ?_
  unfold bits_Rem64 at H0
  refine lok_rt E0 (⟨19, mkS [(0, .x (.one (.p (.val (.int .u64 hi))))), (1, .x (.one (.p (.val (.int .u64 lo))))), (2, .x (.one (.p (.val (.int .u64 y)))))], mkH []⟩) ?_
  replace H0 := req_some H0
  obtain ⟨q_1, H0⟩ := H0
  replace H0 := bind_some H0
  obtain ⟨⟨y1, y2⟩, h_0, H0⟩ := H0
  try dsimp only at H0
  refine lok_rt (Env.of E0 [⟨some 15, 78, [.one (.p (.val (.int .u64 (Int.tmod hi y)))), .one (.p (.val (.int .u64 lo))), .one (.p (.val (.int .u64 y)))], [], [.one (.p (.val (.int .u64 y1))), .one (.p (.val (.int .u64 y2)))], [], True, fun _ => ok_bits_Div64 (Int.tmod hi y) lo y (y1, y2) h_0, []⟩]) (⟨19, mkS [(8, .x (.one (.p (.val (.int .u64 y2)))))], mkH []⟩) ?_
  refine lok_rt E0 (⟨19, mkS [(6, .x (.one (.p (.val (.int .u64 y2)))))], mkH []⟩) ?_
  refine lok_ret ?_
  obtain rfl := Option.some.inj H0
  try simp only [thenL, blockL]
  exact fin_au _ (.inr rfl) [] (⟨19, mkS [(6, .x (.one (.p (.val (.int .u64 y2)))))], mkH []⟩) rfl rfl imp_au
theorem ok_ratio_wide_mod (a : ratio_wide) (d : Int) (r_ : Int) (H0 : ratio_wide_mod a d = some r_) : CallOK Try.prog 63 [.agg [.p (.val (.int .u64 a.hi)), .p (.val (.int .u64 a.lo))], .one (.p (.val (.int .u64 d)))] [] [.one (.p (.val (.int .u64 r_)))] [] := by
  refine callOK (n := 11) (rs := [.tmp 4]) (nb := 0) (V := []) Try.func63 rfl (by kernel_rfl) rfl rfl rfl rfl (Nat.le_of_ble_eq_true rfl) (by decide) ?_
  unfold ratio_wide_mod at H0
  refine lok_rt E0 (⟨11, mkS [(1, .x (.one (.p (.val (.int .u64 d))))), (2, .x (.one (.ptr 102 0)))], mkH [(102, .var [.p (.val (.int .u64 a.hi)), .p (.val (.int .u64 a.lo))])]⟩) ?_
  replace H0 := bind_some H0
  obtain ⟨y, h_0, H0⟩ := H0
  refine lok_rt (Env.of E0 [⟨some 10, 77, [.one (.p (.val (.int .u64 a.hi))), .one (.p (.val (.int .u64 a.lo))), .one (.p (.val (.int .u64 d)))], [], [.one (.p (.val (.int .u64 y)))], [], True, fun _ => ok_bits_Rem64 a.hi a.lo d y h_0, []⟩]) (⟨11, mkS [(4, .x (.one (.p (.val (.int .u64 y)))))], mkH []⟩) ?_
  refine lok_ret ?_
  obtain rfl := Option.some.inj H0
  try simp only [thenL, blockL]
  exact fin_au _ (.inr rfl) [] (⟨11, mkS [(4, .x (.one (.p (.val (.int .u64 y)))))], mkH []⟩) rfl rfl imp_au
theorem ok_ratio_fitted (neg : Bool) (num : ratio_wide) (den : ratio_wide) (r_ : api_Ratio × Int) (H0 : ratio_fitted neg num den = some r_) : CallOK Try.prog 64 [.one (.p (.val (.bool neg))), .agg [.p (.val (.int .u64 num.hi)), .p (.val (.int .u64 num.lo))], .agg [.p (.val (.int .u64 den.hi)), .p (.val (.int .u64 den.lo))]] [] [.agg [.p (pi r_.1.Num), .p (pi r_.1.Den)], .one (.p (pi r_.2))] [] := by
  refine callOK (n := 39) (rs := [.cell 6 40, .tmp 7]) (nb := 0) (V := []) Try.func64 rfl (by kernel_rfl) rfl rfl rfl rfl (Nat.le_of_ble_eq_true rfl) (by decide) ?_
  unfold ratio_fitted at H0
  refine lok_rt E0 (⟨39, mkS [(0, .x (.one (.p (.val (.bool neg))))), (4, .x (.one (.ptr 104 0))), (5, .x (.one (.ptr 105 0))), (6, .x (.one (.ptr 106 0)))], mkH [(104, .var [.p (.val (.int .u64 num.hi)), .p (.val (.int .u64 num.lo))]), (105, .var [.p (.val (.int .u64 den.hi)), .p (.val (.int .u64 den.lo))]), (106, .var [.p (pi (0 : Int)), .p (pi (0 : Int))])]⟩) ?_
  refine lok_seq ?_
  refine lok_rt E0 (⟨39, mkS [(0, .x (.one (.p (.val (.bool neg))))), (4, .x (.one (.ptr 104 0))), (5, .x (.one (.ptr 105 0))), (6, .x (.one (.ptr 106 0))), (26, .x (.one (.p (.val (.bool ((((num.hi != (0 : Int)) || (den.hi != (0 : Int))) || (decide ((1152921504606846976 : Int) < num.lo))) || (decide ((1152921504606846976 : Int) < den.lo))))))))], mkH [(104, .var [.p (.val (.int .u64 num.hi)), .p (.val (.int .u64 num.lo))]), (105, .var [.p (.val (.int .u64 den.hi)), .p (.val (.int .u64 den.lo))]), (106, .var [.p (pi (0 : Int)), .p (pi (0 : Int))])]⟩) ?_
  refine lok_c ((((num.hi != (0 : Int)) || (den.hi != (0 : Int))) || (decide ((1152921504606846976 : Int) < num.lo))) || (decide ((1152921504606846976 : Int) < den.lo))) ?_ ?_
  · intro b_1
    replace H0 := cpos H0 b_1
    refine lok_rt E0 (⟨39, mkS [(6, .x (.one (.ptr 106 0))), (7, .x (.one (.p (pi (6 : Int)))))], mkH [(106, .var [.p (pi (0 : Int)), .p (pi (0 : Int))])]⟩) ?_
    refine lok_ret ?_
    obtain rfl := Option.some.inj H0
    try simp only [thenL, blockL]
    exact fin_au _ (.inr rfl) [] (⟨39, mkS [(6, .x (.one (.ptr 106 0))), (7, .x (.one (.p (pi (6 : Int)))))], mkH [(106, .var [.p (pi (0 : Int)), .p (pi (0 : Int))])]⟩) rfl rfl imp_au
  · intro b_1
    replace H0 := cneg H0 b_1
    refine lok_skip ?_
    try simp only [thenL, blockL, ↓reduceIte, reduceCtorEq]
    refine lok_rt E0 (⟨39, mkS [(0, .x (.one (.p (.val (.bool neg))))), (5, .x (.one (.ptr 105 0))), (6, .x (.one (.ptr 106 0))), (8, .x (.one (.p (pi (IntKind.i64.wrap num.lo)))))], mkH [(105, .var [.p (.val (.int .u64 den.hi)), .p (.val (.int .u64 den.lo))]), (106, .var [.p (pi (0 : Int)), .p (pi (0 : Int))])]⟩) ?_
    refine lok_join (fun x_ : Int => ratio_fitted_j1 den x_ = some r_) (fun x_ => ⟨39, mkS [(5, .x (.one (.ptr 105 0))), (6, .x (.one (.ptr 106 0))), (8, .x (.one (.p (pi x_))))], mkH [(105, .var [.p (.val (.int .u64 den.hi)), .p (.val (.int .u64 den.lo))]), (106, .var [.p (pi (0 : Int)), .p (pi (0 : Int))])]⟩) ?hyratio_fitted_j1 ?hxratio_fitted_j1
    case hyratio_fitted_j1 =>
      rintro n H0
      try dsimp only at H0 ⊢
      unfold ratio_fitted_j1 at H0
      refine lok_rt E0 (⟨39, mkS [(6, .x (.one (.ptr 106 0))), (7, .x (.one (.p (pi (0 : Int)))))], mkH [(106, .var [.p (pi n), .p (pi (IntKind.i64.wrap den.lo))])]⟩) ?_
      refine lok_ret ?_
      obtain rfl := Option.some.inj H0
      try simp only [thenL, blockL]
      exact fin_au _ (.inr rfl) [] (⟨39, mkS [(6, .x (.one (.ptr 106 0))), (7, .x (.one (.p (pi (0 : Int)))))], mkH [(106, .var [.p (pi n), .p (pi (IntKind.i64.wrap den.lo))])]⟩) rfl rfl imp_au
    case hxratio_fitted_j1 =>
      refine lok_rt E0 (⟨39, mkS [(5, .x (.one (.ptr 105 0))), (6, .x (.one (.ptr 106 0))), (8, .x (.one (.p (pi (IntKind.i64.wrap num.lo))))), (31, .x (.one (.p (.val (.bool neg)))))], mkH [(105, .var [.p (.val (.int .u64 den.hi)), .p (.val (.int .u64 den.lo))]), (106, .var [.p (pi (0 : Int)), .p (pi (0 : Int))])]⟩) ?_
      refine lok_c neg ?_ ?_
      · intro b_0
        replace H0 := cpos H0 b_0
        refine lok_rl E0 (⟨39, mkS [(5, .x (.one (.ptr 105 0))), (6, .x (.one (.ptr 106 0))), (8, .x (.one (.p (pi (IntKind.i64.wrap (0 - (IntKind.i64.wrap num.lo)))))))], mkH [(105, .var [.p (.val (.int .u64 den.hi)), .p (.val (.int .u64 den.lo))]), (106, .var [.p (pi (0 : Int)), .p (pi (0 : Int))])]⟩) ?_
        try simp only [thenL, blockL, ↓reduceIte, reduceCtorEq]
        exact ⟨(IntKind.i64.wrap (0 - (IntKind.i64.wrap num.lo))), H0, imp_au⟩
      · intro b_0
        replace H0 := cneg H0 b_0
        refine lok_skip ?_
        try simp only [thenL, blockL, ↓reduceIte, reduceCtorEq]
        exact ⟨(IntKind.i64.wrap num.lo), H0, imp_au⟩
theorem ok_ratio_wide_over (a : ratio_wide) (d : Int) (r_ : ratio_wide) (H0 : ratio_wide_over a d = some r_) : CallOK Try.prog 65 [.agg [.p (.val (.int .u64 a.hi)), .p (.val (.int .u64 a.lo))], .one (.p (.val (.int .u64 d)))] [] [.agg [.p (.val (.int .u64 r_.hi)), .p (.val (.int .u64 r_.lo))]] [] := by
  refine callOK (n := 28) (rs := [.cell 4 82]) (nb := 0) (V := []) Try.func65 rfl (by kernel_rfl) rfl rfl rfl rfl (Nat.le_of_ble_eq_true rfl) (by decide) ?_
  unfold ratio_wide_over at H0
  refine lok_rt E0 (⟨28, mkS [(1, .x (.one (.p (.val (.int .u64 d))))), (2, .x (.one (.ptr 102 0))), (4, .x (.one (.ptr 104 0)))], mkH [(102, .var [.p (.val (.int .u64 a.hi)), .p (.val (.int .u64 a.lo))]), (104, .var [.p (.val (.int .u64 (0 : Int))), .p (.val (.int .u64 (0 : Int)))])]⟩) ?_
  replace H0 := req_some H0
  obtain ⟨q_1, H0⟩ := H0
  refine lok_dt E0 9 (⟨28, mkS [(1, .x (.one (.p (.val (.int .u64 d))))), (2, .x (.one (.ptr 102 0))), (4, .x (.one (.ptr 104 0))), (5, .x (.one (.p (.val (.int .u64 (IntKind.u64.wrap (Int.tdiv a.hi d))))))), (6, .x (.one (.p (.val (.int .u64 (Int.tmod a.hi d))))))], mkH [(102, .var [.p (.val (.int .u64 a.hi)), .p (.val (.int .u64 a.lo))]), (104, .var [.p (.val (.int .u64 (0 : Int))), .p (.val (.int .u64 (0 : Int)))])]⟩) (by kernel_rfl) (by kernel_rfl) ?_
  replace H0 := bind_some H0
  obtain ⟨⟨y, y1⟩, h_0, H0⟩ := H0
  try dsimp only at H0
  refine lok_rt (Env.of E0 [⟨some 22, 78, [.one (.p (.val (.int .u64 (Int.tmod a.hi d)))), .one (.p (.val (.int .u64 a.lo))), .one (.p (.val (.int .u64 d)))], [], [.one (.p (.val (.int .u64 y))), .one (.p (.val (.int .u64 y1)))], [], True, fun _ => ok_bits_Div64 (Int.tmod a.hi d) a.lo d (y, y1) h_0, []⟩]) (⟨28, mkS [(4, .x (.one (.ptr 104 0))), (5, .x (.one (.p (.val (.int .u64 (IntKind.u64.wrap (Int.tdiv a.hi d))))))), (7, .x (.one (.p (.val (.int .u64 y)))))], mkH [(104, .var [.p (.val (.int .u64 (0 : Int))), .p (.val (.int .u64 (0 : Int)))])]⟩) ?_
  refine lok_rt E0 (⟨28, mkS [(4, .x (.one (.ptr 104 0)))], mkH [(104, .var [.p (.val (.int .u64 (IntKind.u64.wrap (Int.tdiv a.hi d)))), .p (.val (.int .u64 y))])]⟩) ?_
  refine lok_ret ?_
  obtain rfl := Option.some.inj H0
  try simp only [thenL, blockL]
  exact fin_au _ (.inr rfl) [] (⟨28, mkS [(4, .x (.one (.ptr 104 0)))], mkH [(104, .var [.p (.val (.int .u64 (IntKind.u64.wrap (Int.tdiv a.hi d)))), .p (.val (.int .u64 y))])]⟩) rfl rfl imp_au
theorem ok_bits_Add64 (x y carry : Int) (r_ : Int × Int) (H0 : bits_Add64 x y carry = some r_) : CallOK Try.prog 88 [.int .u64 x, .int .u64 y, .int .u64 carry] [] [.int .u64 r_.1, .int .u64 r_.2] [] :=
  okAdd64 Try.func88 (by kernel_rfl) (by kernel_rfl) (by kernel_rfl) (by kernel_rfl) _ _ _ r_ H0
end Go.LS
