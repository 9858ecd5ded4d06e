/-
  The walks: the functions compute what the plain ones say. Condition: the plain function has a value.
-/
import Derived.Test.YtdfbbiahpcelmaaK0
import Derived.Test.YtdfbbiahpcelmaaD1
namespace Go.LS
open Go.Proofs
set_option linter.all false
set_option linter.unusedSimpArgs false
set_option linter.unusedVariables false
set_option maxRecDepth 20000

theorem ok_distribution_Valid (d : api_Distribution) (r_ : Bool) (H0 : distribution_Valid d = some r_) : CallOK Try.prog 28 [.agg [.p (.sl 1 (List.map encI d.Counts))]] [] [.one (.p (.val (.bool r_)))] [] := by
  refine callOK (n := 35) (rs := [.tmp 2]) (nb := 0) (V := []) Try.func28 rfl (by kernel_rfl) rfl rfl rfl rfl (Nat.le_of_ble_eq_true rfl) (by decide) ?_
  unfold distribution_Valid at H0
  refine lok_rt E0 (⟨35, mkS [(1, .x (.one (.ptr 101 0)))], mkH [(101, .var [.p (.sl 1 (List.map encI d.Counts))])]⟩) ?_
  refine lok_seq ?_
  refine lok_rt E0 (⟨35, mkS [(1, .x (.one (.ptr 101 0))), (15, .x (.one (.p (.val (.bool ((decide ((d.Counts.length : Int) < (1 : Int))) || (decide ((201 : Int) < (d.Counts.length : Int)))))))))], mkH [(101, .var [.p (.sl 1 (List.map encI d.Counts))])]⟩) ?_
  refine lok_c ((decide ((d.Counts.length : Int) < (1 : Int))) || (decide ((201 : Int) < (d.Counts.length : Int)))) ?_ ?_
  · intro b_4
    replace H0 := cpos H0 b_4
    refine lok_rt E0 (⟨35, mkS [(2, .x (.one (.p (.val (.bool false)))))], mkH []⟩) ?_
    refine lok_ret ?_
    obtain rfl := Option.some.inj H0
    try simp only [thenL, blockL]
    exact fin_au _ (.inr rfl) [] (⟨35, mkS [(2, .x (.one (.p (.val (.bool false)))))], mkH []⟩) rfl rfl imp_au
  · intro b_4
    replace H0 := cneg H0 b_4
    refine lok_skip ?_
    try simp only [thenL, blockL, ↓reduceIte, reduceCtorEq]
    refine lok_rt E0 (⟨35, mkS [(1, .x (.one (.ptr 101 0))), (3, .x (.one (.p (pi (0 : Int)))))], mkH [(101, .var [.p (.sl 1 (List.map encI d.Counts))])]⟩) ?_
    refine lok_join (fun x_ : Int => distribution_Valid_j1 x_ = some r_) (fun x_ => ⟨35, mkS [(3, .x (.one (.p (pi x_))))], mkH []⟩) ?hydistribution_Valid_j1 ?hxdistribution_Valid_j1
    case hydistribution_Valid_j1 =>
      rintro sum H0
      try dsimp only at H0 ⊢
      unfold distribution_Valid_j1 at H0
      refine lok_rt E0 (⟨35, mkS [(2, .x (.one (.p (.val (.bool (decide (sum ≤ (1048576 : Int))))))))], mkH []⟩) ?_
      refine lok_ret ?_
      obtain rfl := Option.some.inj H0
      try simp only [thenL, blockL]
      exact fin_au _ (.inr rfl) [] (⟨35, mkS [(2, .x (.one (.p (.val (.bool (decide (sum ≤ (1048576 : Int))))))))], mkH []⟩) rfl rfl imp_au
    case hxdistribution_Valid_j1 =>
      refine lok_rt E0 (⟨35, mkS [(3, .x (.one (.p (pi (0 : Int))))), (17, .x (.one (.p (.sl 1 (List.map encI d.Counts))))), (18, .x (.one (.p (pi (d.Counts.length : Int))))), (19, .x (.one (.p (pi (0 : Int)))))], mkH []⟩) ?_
      refine lok_block ?_
      replace H0 := bind_some H0
      obtain ⟨v_0, hv_0, H0⟩ := H0
      refine lok_iter (fun x_ => ⟨35, mkS [(3, .x (.one (.p (pi x_.1)))), (17, .x (.one (.p (.sl 1 (List.map encI d.Counts))))), (18, .x (.one (.p (pi (d.Counts.length : Int))))), (19, .x (.one (.p (pi x_.2))))], mkH []⟩) hv_0 imp_au ?_
      · rintro ⟨sum1, v⟩ o_1 H1 k_1
        unfold distribution_Valid_l2 at H1
        try dsimp only at H1 ⊢
        refine lok_rt E0 (⟨35, mkS [(3, .x (.one (.p (pi sum1)))), (17, .x (.one (.p (.sl 1 (List.map encI d.Counts))))), (18, .x (.one (.p (pi (d.Counts.length : Int))))), (19, .x (.one (.p (pi v)))), (20, .x (.one (.p (.val (.bool (decide (v < (d.Counts.length : Int))))))))], mkH []⟩) ?_
        refine lok_seq ?_
        refine lok_c (decide (v < (d.Counts.length : Int))) ?_ ?_
        · intro b_3
          replace H1 := cpos H1 b_3
          refine lok_skip ?_
          try simp only [thenL, blockL, ↓reduceIte, reduceCtorEq]
          refine lok_seq ?_
          refine lok_block ?_
          replace H1 := req_some H1
          obtain ⟨q_2, H1⟩ := H1
          refine lok_rt E0 (⟨35, mkS [(3, .x (.one (.p (pi sum1)))), (5, .x (.one (.p (pi (ix d.Counts v))))), (17, .x (.one (.p (.sl 1 (List.map encI d.Counts))))), (18, .x (.one (.p (pi (d.Counts.length : Int))))), (19, .x (.one (.p (pi v))))], mkH []⟩) ?_
          refine lok_seq ?_
          refine lok_rt E0 (⟨35, mkS [(3, .x (.one (.p (pi sum1)))), (5, .x (.one (.p (pi (ix d.Counts v))))), (17, .x (.one (.p (.sl 1 (List.map encI d.Counts))))), (18, .x (.one (.p (pi (d.Counts.length : Int))))), (19, .x (.one (.p (pi v)))), (28, .x (.one (.p (.val (.bool ((decide ((ix d.Counts v) < (0 : Int))) || (decide ((1048576 : Int) < (ix d.Counts v)))))))))], mkH []⟩) ?_
          refine lok_c ((decide ((ix d.Counts v) < (0 : Int))) || (decide ((1048576 : Int) < (ix d.Counts v)))) ?_ ?_
          · intro b_1
            replace H1 := cpos H1 b_1
            refine lok_rt E0 (⟨35, mkS [(2, .x (.one (.p (.val (.bool false)))))], mkH []⟩) ?_
            refine lok_ret ?_
            try simp only [thenL, blockL, ↓reduceIte, reduceCtorEq]
            have e_1 := k_1 _ (Option.some.inj H1).symm
            subst e_1
            try dsimp only at H0
            obtain rfl := Option.some.inj H0
            try simp only [thenL, blockL]
            exact fin_au _ (.inr rfl) [] (⟨35, mkS [(2, .x (.one (.p (.val (.bool false)))))], mkH []⟩) rfl rfl imp_au
          · intro b_1
            replace H1 := cneg H1 b_1
            refine lok_skip ?_
            try simp only [thenL, blockL, ↓reduceIte, reduceCtorEq]
            refine lok_rl E0 (⟨35, mkS [(3, .x (.one (.p (pi (IntKind.i64.wrap (sum1 + (ix d.Counts v))))))), (17, .x (.one (.p (.sl 1 (List.map encI d.Counts))))), (18, .x (.one (.p (pi (d.Counts.length : Int))))), (19, .x (.one (.p (pi v))))], mkH []⟩) ?_
            try simp only [thenL, blockL, ↓reduceIte, reduceCtorEq]
            refine lok_rl E0 (⟨35, mkS [(3, .x (.one (.p (pi (IntKind.i64.wrap (sum1 + (ix d.Counts v))))))), (17, .x (.one (.p (.sl 1 (List.map encI d.Counts))))), (18, .x (.one (.p (pi (d.Counts.length : Int))))), (19, .x (.one (.p (pi (IntKind.i64.wrap (v + (1 : Int)))))))], mkH []⟩) ?_
            try simp only [thenL, blockL, ↓reduceIte, reduceCtorEq]
            exact ⟨((IntKind.i64.wrap (sum1 + (ix d.Counts v))), (IntKind.i64.wrap (v + (1 : Int)))), (Option.some.inj H1).symm, imp_au⟩
        · intro b_3
          replace H1 := cneg H1 b_3
          refine lok_exit ?_
          try simp only [thenL, blockL, ↓reduceIte, reduceCtorEq]
          have e_1 := k_1 _ (Option.some.inj H1).symm
          subst e_1
          try dsimp only at H0
          try simp only [thenL, blockL, ↓reduceIte, reduceCtorEq]
          exact ⟨sum1, H0, imp_au⟩
theorem ok_ratio_gcd (a : Int) (b : Int) (r_ : Int) (H0 : ratio_gcd a b = some r_) : CallOK Try.prog 56 [.one (.p (.val (.int .u64 a))), .one (.p (.val (.int .u64 b)))] [] [.one (.p (.val (.int .u64 r_)))] [] := by
  refine callOK (n := 12) (rs := [.tmp 4]) (nb := 0) (V := []) Try.func56 rfl (by kernel_rfl) rfl rfl rfl rfl (Nat.le_of_ble_eq_true rfl) (by decide) ?_
  unfold ratio_gcd at H0
  refine lok_rt E0 (⟨12, mkS [(0, .x (.one (.p (.val (.int .u64 a))))), (1, .x (.one (.p (.val (.int .u64 b)))))], mkH []⟩) ?_
  refine lok_join (fun x_ : Int => ratio_gcd_j1 x_ = some r_) (fun x_ => ⟨12, mkS [(0, .x (.one (.p (.val (.int .u64 x_)))))], mkH []⟩) ?hyratio_gcd_j1 ?hxratio_gcd_j1
  case hyratio_gcd_j1 =>
    rintro a1 H0
    try dsimp only at H0 ⊢
    unfold ratio_gcd_j1 at H0
    refine lok_rt E0 (⟨12, mkS [(4, .x (.one (.p (.val (.int .u64 a1)))))], mkH []⟩) ?_
    refine lok_ret ?_
    obtain rfl := Option.some.inj H0
    try simp only [thenL, blockL]
    exact fin_au _ (.inr rfl) [] (⟨12, mkS [(4, .x (.one (.p (.val (.int .u64 a1)))))], mkH []⟩) rfl rfl imp_au
  case hxratio_gcd_j1 =>
    refine lok_block ?_
    replace H0 := bind_some H0
    obtain ⟨v_0, hv_0, H0⟩ := H0
    refine lok_iter (fun x_ => ⟨12, mkS [(0, .x (.one (.p (.val (.int .u64 x_.1))))), (1, .x (.one (.p (.val (.int .u64 x_.2)))))], mkH []⟩) hv_0 imp_au ?_
    · rintro ⟨a2, b1⟩ o_1 H1 k_1
      unfold ratio_gcd_l2 at H1
      try dsimp only at H1 ⊢
      refine lok_seq ?_
      refine lok_rt E0 (⟨12, mkS [(0, .x (.one (.p (.val (.int .u64 a2))))), (1, .x (.one (.p (.val (.int .u64 b1))))), (6, .x (.one (.p (.val (.bool (b1 != (0 : Int)))))))], mkH []⟩) ?_
      refine lok_c (b1 != (0 : Int)) ?_ ?_
      · intro b_2
        replace H1 := cpos H1 b_2
        refine lok_skip ?_
        try simp only [thenL, blockL, ↓reduceIte, reduceCtorEq]
        refine lok_block ?_
        replace H1 := req_some H1
        obtain ⟨q_1, H1⟩ := H1
        refine lok_dl E0 5 (⟨12, mkS [(0, .x (.one (.p (.val (.int .u64 b1))))), (1, .x (.one (.p (.val (.int .u64 (Int.tmod a2 b1))))))], mkH []⟩) (by kernel_rfl) (by kernel_rfl) ?_
        try simp only [thenL, blockL, ↓reduceIte, reduceCtorEq]
        exact ⟨(b1, (Int.tmod a2 b1)), (Option.some.inj H1).symm, imp_au⟩
      · intro b_2
        replace H1 := cneg H1 b_2
        refine lok_exit ?_
        try simp only [thenL, blockL, ↓reduceIte, reduceCtorEq]
        have e_1 := k_1 _ (Option.some.inj H1).symm
        subst e_1
        try dsimp only at H0
        try simp only [thenL, blockL, ↓reduceIte, reduceCtorEq]
        exact ⟨a2, H0, imp_au⟩
theorem ok_ratio_magnitude (n : Int) (r_ : Int) (H0 : ratio_magnitude n = some r_) : CallOK Try.prog 57 [.one (.p (pi n))] [] [.one (.p (.val (.int .u64 r_)))] [] := by
  refine callOK (n := 10) (rs := [.tmp 2]) (nb := 0) (V := []) Try.func57 rfl (by kernel_rfl) rfl rfl rfl rfl (Nat.le_of_ble_eq_true rfl) (by decide) ?_
  unfold ratio_magnitude at H0
  refine lok_rt E0 (⟨10, mkS [(0, .x (.one (.p (pi n))))], mkH []⟩) ?_
  refine lok_seq ?_
  refine lok_rt E0 (⟨10, mkS [(0, .x (.one (.p (pi n)))), (4, .x (.one (.p (.val (.bool (decide (n < (0 : Int))))))))], mkH []⟩) ?_
  refine lok_c (decide (n < (0 : Int))) ?_ ?_
  · intro b_0
    replace H0 := cpos H0 b_0
    refine lok_rt E0 (⟨10, mkS [(2, .x (.one (.p (.val (.int .u64 (IntKind.u64.wrap (0 - (IntKind.u64.wrap n))))))))], mkH []⟩) ?_
    refine lok_ret ?_
    obtain rfl := Option.some.inj H0
    try simp only [thenL, blockL]
    exact fin_au _ (.inr rfl) [] (⟨10, mkS [(2, .x (.one (.p (.val (.int .u64 (IntKind.u64.wrap (0 - (IntKind.u64.wrap n))))))))], mkH []⟩) rfl rfl imp_au
  · intro b_0
    replace H0 := cneg H0 b_0
    refine lok_skip ?_
    try simp only [thenL, blockL, ↓reduceIte, reduceCtorEq]
    refine lok_rt E0 (⟨10, mkS [(2, .x (.one (.p (.val (.int .u64 (IntKind.u64.wrap n))))))], mkH []⟩) ?_
    refine lok_ret ?_
    obtain rfl := Option.some.inj H0
    try simp only [thenL, blockL]
    exact fin_au _ (.inr rfl) [] (⟨10, mkS [(2, .x (.one (.p (.val (.int .u64 (IntKind.u64.wrap n))))))], mkH []⟩) rfl rfl imp_au
theorem ok_ratio_Valid (a : api_Ratio) (r_ : Bool) (H0 : ratio_Valid a = some r_) : CallOK Try.prog 43 [.agg [.p (pi a.Num), .p (pi a.Den)]] [] [.one (.p (.val (.bool r_)))] [] := by
  refine callOK (n := 29) (rs := [.tmp 2]) (nb := 0) (V := []) Try.func43 rfl (by kernel_rfl) rfl rfl rfl rfl (Nat.le_of_ble_eq_true rfl) (by decide) ?_
  unfold ratio_Valid at H0
  refine lok_rt E0 (⟨29, mkS [(1, .x (.one (.ptr 101 0)))], mkH [(101, .var [.p (pi a.Num), .p (pi a.Den)])]⟩) ?_
  refine lok_seq ?_
  refine lok_rt E0 (⟨29, mkS [(1, .x (.one (.ptr 101 0))), (20, .x (.one (.p (.val (.bool ((((decide (a.Den < (1 : Int))) || (decide ((1152921504606846976 : Int) < a.Den))) || (decide (a.Num < (-1152921504606846976 : Int)))) || (decide ((1152921504606846976 : Int) < a.Num))))))))], mkH [(101, .var [.p (pi a.Num), .p (pi a.Den)])]⟩) ?_
  refine lok_c ((((decide (a.Den < (1 : Int))) || (decide ((1152921504606846976 : Int) < a.Den))) || (decide (a.Num < (-1152921504606846976 : Int)))) || (decide ((1152921504606846976 : Int) < a.Num))) ?_ ?_
  · intro b_2
    replace H0 := cpos H0 b_2
    refine lok_rt E0 (⟨29, mkS [(2, .x (.one (.p (.val (.bool false)))))], mkH []⟩) ?_
    refine lok_ret ?_
    obtain rfl := Option.some.inj H0
    try simp only [thenL, blockL]
    exact fin_au _ (.inr rfl) [] (⟨29, mkS [(2, .x (.one (.p (.val (.bool false)))))], mkH []⟩) rfl rfl imp_au
  · intro b_2
    replace H0 := cneg H0 b_2
    refine lok_skip ?_
    try simp only [thenL, blockL, ↓reduceIte, reduceCtorEq]
    replace H0 := bind_some H0
    obtain ⟨y, h_0, H0⟩ := H0
    replace H0 := bind_some H0
    obtain ⟨y1, h_1, H0⟩ := H0
    refine lok_dt (Env.of E0 [⟨some 23, 57, [.one (.p (pi a.Num))], [], [.one (.p (.val (.int .u64 y)))], [], True, fun _ => ok_ratio_magnitude a.Num y h_0, []⟩,
      ⟨some 27, 56, [.one (.p (.val (.int .u64 y))), .one (.p (.val (.int .u64 (IntKind.u64.wrap a.Den))))], [], [.one (.p (.val (.int .u64 y1)))], [], True, fun _ => ok_ratio_gcd y (IntKind.u64.wrap a.Den) y1 h_1, []⟩]) 6 (⟨29, mkS [(2, .x (.one (.p (.val (.bool (y1 == (1 : Int)))))))], mkH []⟩) (by kernel_rfl) (by kernel_rfl) ?_
    refine lok_ret ?_
    obtain rfl := Option.some.inj H0
    try simp only [thenL, blockL]
    exact fin_au _ (.inr rfl) [] (⟨29, mkS [(2, .x (.one (.p (.val (.bool (y1 == (1 : Int)))))))], mkH []⟩) rfl rfl imp_au
theorem ok_distribution_Below (d : api_Distribution) (score : Int) (r_ : Int) (H0 : distribution_Below d score = some r_) : CallOK Try.prog 16 [.agg [.p (.sl 1 (List.map encI d.Counts))], .one (.p (pi score))] [] [.one (.p (pi r_))] [] := by
  refine callOK (n := 30) (rs := [.tmp 4]) (nb := 0) (V := []) Try.func16 rfl (by kernel_rfl) rfl rfl rfl rfl (Nat.le_of_ble_eq_true rfl) (by decide) ?_
  unfold distribution_Below at H0
  refine lok_rt E0 (⟨30, mkS [(1, .x (.one (.p (pi score)))), (2, .x (.one (.ptr 102 0)))], mkH [(102, .var [.p (.sl 1 (List.map encI d.Counts))])]⟩) ?_
  refine lok_seq ?_
  replace H0 := bind_some H0
  obtain ⟨y, h_0, H0⟩ := H0
  refine lok_rt (Env.of E0 [⟨some 8, 28, [.agg [.p (.sl 1 (List.map encI d.Counts))]], [], [.one (.p (.val (.bool y)))], [], True, fun _ => ok_distribution_Valid d y h_0, []⟩]) (⟨30, mkS [(1, .x (.one (.p (pi score)))), (2, .x (.one (.ptr 102 0))), (9, .x (.one (.p (.val (.bool (!y))))))], mkH [(102, .var [.p (.sl 1 (List.map encI d.Counts))])]⟩) ?_
  refine lok_c (!y) ?_ ?_
  · intro b_4
    replace H0 := cpos H0 b_4
    refine lok_rt E0 (⟨30, mkS [(4, .x (.one (.p (pi (0 : Int)))))], mkH []⟩) ?_
    refine lok_ret ?_
    obtain rfl := Option.some.inj H0
    try simp only [thenL, blockL]
    exact fin_au _ (.inr rfl) [] (⟨30, mkS [(4, .x (.one (.p (pi (0 : Int)))))], mkH []⟩) rfl rfl imp_au
  · intro b_4
    replace H0 := cneg H0 b_4
    refine lok_skip ?_
    try simp only [thenL, blockL, ↓reduceIte, reduceCtorEq]
    refine lok_rt E0 (⟨30, mkS [(1, .x (.one (.p (pi score)))), (2, .x (.one (.ptr 102 0))), (5, .x (.one (.p (pi (0 : Int)))))], mkH [(102, .var [.p (.sl 1 (List.map encI d.Counts))])]⟩) ?_
    refine lok_join (fun x_ : Int => distribution_Below_j1 x_ = some r_) (fun x_ => ⟨30, mkS [(5, .x (.one (.p (pi x_))))], mkH []⟩) ?hydistribution_Below_j1 ?hxdistribution_Below_j1
    case hydistribution_Below_j1 =>
      rintro sum H0
      try dsimp only at H0 ⊢
      unfold distribution_Below_j1 at H0
      refine lok_rt E0 (⟨30, mkS [(4, .x (.one (.p (pi sum))))], mkH []⟩) ?_
      refine lok_ret ?_
      obtain rfl := Option.some.inj H0
      try simp only [thenL, blockL]
      exact fin_au _ (.inr rfl) [] (⟨30, mkS [(4, .x (.one (.p (pi sum))))], mkH []⟩) rfl rfl imp_au
    case hxdistribution_Below_j1 =>
      refine lok_rt E0 (⟨30, mkS [(1, .x (.one (.p (pi score)))), (2, .x (.one (.ptr 102 0))), (5, .x (.one (.p (pi (0 : Int))))), (6, .x (.one (.p (pi (0 : Int)))))], mkH [(102, .var [.p (.sl 1 (List.map encI d.Counts))])]⟩) ?_
      refine lok_block ?_
      replace H0 := bind_some H0
      obtain ⟨v_1, hv_1, H0⟩ := H0
      refine lok_iter (fun x_ => ⟨30, mkS [(1, .x (.one (.p (pi score)))), (2, .x (.one (.ptr 102 0))), (5, .x (.one (.p (pi x_.1)))), (6, .x (.one (.p (pi x_.2))))], mkH [(102, .var [.p (.sl 1 (List.map encI d.Counts))])]⟩) hv_1 imp_au ?_
      · rintro ⟨sum1, i⟩ o_1 H1 k_1
        unfold distribution_Below_l2 at H1
        try dsimp only at H1 ⊢
        refine lok_seq ?_
        refine lok_rt E0 (⟨30, mkS [(1, .x (.one (.p (pi score)))), (2, .x (.one (.ptr 102 0))), (5, .x (.one (.p (pi sum1)))), (6, .x (.one (.p (pi i)))), (19, .x (.one (.p (.val (.bool ((decide (i < (d.Counts.length : Int))) && (decide (i < score))))))))], mkH [(102, .var [.p (.sl 1 (List.map encI d.Counts))])]⟩) ?_
        refine lok_c ((decide (i < (d.Counts.length : Int))) && (decide (i < score))) ?_ ?_
        · intro b_3
          replace H1 := cpos H1 b_3
          refine lok_skip ?_
          try simp only [thenL, blockL, ↓reduceIte, reduceCtorEq]
          refine lok_seq ?_
          refine lok_block ?_
          replace H1 := req_some H1
          obtain ⟨q_2, H1⟩ := H1
          refine lok_rl E0 (⟨30, mkS [(1, .x (.one (.p (pi score)))), (2, .x (.one (.ptr 102 0))), (5, .x (.one (.p (pi (IntKind.i64.wrap (sum1 + (ix d.Counts i))))))), (6, .x (.one (.p (pi i))))], mkH [(102, .var [.p (.sl 1 (List.map encI d.Counts))])]⟩) ?_
          try simp only [thenL, blockL, ↓reduceIte, reduceCtorEq]
          refine lok_rl E0 (⟨30, mkS [(1, .x (.one (.p (pi score)))), (2, .x (.one (.ptr 102 0))), (5, .x (.one (.p (pi (IntKind.i64.wrap (sum1 + (ix d.Counts i))))))), (6, .x (.one (.p (pi (IntKind.i64.wrap (i + (1 : Int)))))))], mkH [(102, .var [.p (.sl 1 (List.map encI d.Counts))])]⟩) ?_
          try simp only [thenL, blockL, ↓reduceIte, reduceCtorEq]
          exact ⟨((IntKind.i64.wrap (sum1 + (ix d.Counts i))), (IntKind.i64.wrap (i + (1 : Int)))), (Option.some.inj H1).symm, imp_au⟩
        · intro b_3
          replace H1 := cneg H1 b_3
          refine lok_exit ?_
          try simp only [thenL, blockL, ↓reduceIte, reduceCtorEq]
          have e_1 := k_1 _ (Option.some.inj H1).symm
          subst e_1
          try dsimp only at H0
          try simp only [thenL, blockL, ↓reduceIte, reduceCtorEq]
          exact ⟨sum1, H0, imp_au⟩
theorem ok_distribution_Count (d : api_Distribution) (r_ : Int) (H0 : distribution_Count d = some r_) : CallOK Try.prog 15 [.agg [.p (.sl 1 (List.map encI d.Counts))]] [] [.one (.p (pi r_))] [] := by
  refine callOK (n := 8) (rs := [.tmp 2]) (nb := 0) (V := []) Try.func15 rfl (by kernel_rfl) rfl rfl rfl rfl (Nat.le_of_ble_eq_true rfl) (by decide) ?_
  unfold distribution_Count at H0
  refine lok_rt E0 (⟨8, mkS [(1, .x (.one (.ptr 101 0)))], mkH [(101, .var [.p (.sl 1 (List.map encI d.Counts))])]⟩) ?_
  replace H0 := bind_some H0
  obtain ⟨y, h_0, H0⟩ := H0
  refine lok_rt (Env.of E0 [⟨some 7, 16, [.agg [.p (.sl 1 (List.map encI d.Counts))], .one (.p (pi (d.Counts.length : Int)))], [], [.one (.p (pi y))], [], True, fun _ => ok_distribution_Below d (d.Counts.length : Int) y h_0, []⟩]) (⟨8, mkS [(2, .x (.one (.p (pi y))))], mkH []⟩) ?_
  refine lok_ret ?_
  obtain rfl := Option.some.inj H0
  try simp only [thenL, blockL]
  exact fin_au _ (.inr rfl) [] (⟨8, mkS [(2, .x (.one (.p (pi y))))], mkH []⟩) rfl rfl imp_au
theorem ok_distribution_check (d : api_Distribution) (r_ : Int × Int) (H0 : distribution_check d = some r_) : CallOK Try.prog 44 [.agg [.p (.sl 1 (List.map encI d.Counts))]] [] [.one (.p (pi r_.1)), .one (.p (pi r_.2))] [] := by
  refine callOK (n := 13) (rs := [.tmp 2, .tmp 3]) (nb := 0) (V := []) Try.func44 rfl (by kernel_rfl) rfl rfl rfl rfl (Nat.le_of_ble_eq_true rfl) (by decide) ?_
  unfold distribution_check at H0
  refine lok_rt E0 (⟨13, mkS [(1, .x (.one (.ptr 101 0)))], mkH [(101, .var [.p (.sl 1 (List.map encI d.Counts))])]⟩) ?_
  refine lok_seq ?_
  replace H0 := bind_some H0
  obtain ⟨y, h_0, H0⟩ := H0
  refine lok_rt (Env.of E0 [⟨some 6, 28, [.agg [.p (.sl 1 (List.map encI d.Counts))]], [], [.one (.p (.val (.bool y)))], [], True, fun _ => ok_distribution_Valid d y h_0, []⟩]) (⟨13, mkS [(1, .x (.one (.ptr 101 0))), (7, .x (.one (.p (.val (.bool (!y))))))], mkH [(101, .var [.p (.sl 1 (List.map encI d.Counts))])]⟩) ?_
  refine lok_c (!y) ?_ ?_
  · intro b_3
    replace H0 := cpos H0 b_3
    refine lok_rt E0 (⟨13, mkS [(2, .x (.one (.p (pi (0 : Int))))), (3, .x (.one (.p (pi (1 : Int)))))], mkH []⟩) ?_
    refine lok_ret ?_
    obtain rfl := Option.some.inj H0
    try simp only [thenL, blockL]
    exact fin_au _ (.inr rfl) [] (⟨13, mkS [(2, .x (.one (.p (pi (0 : Int))))), (3, .x (.one (.p (pi (1 : Int)))))], mkH []⟩) rfl rfl imp_au
  · intro b_3
    replace H0 := cneg H0 b_3
    refine lok_skip ?_
    try simp only [thenL, blockL, ↓reduceIte, reduceCtorEq]
    replace H0 := bind_some H0
    obtain ⟨y1, h_1, H0⟩ := H0
    refine lok_rt (Env.of E0 [⟨some 9, 15, [.agg [.p (.sl 1 (List.map encI d.Counts))]], [], [.one (.p (pi y1))], [], True, fun _ => ok_distribution_Count d y1 h_1, []⟩]) (⟨13, mkS [(4, .x (.one (.p (pi y1))))], mkH []⟩) ?_
    refine lok_seq ?_
    refine lok_rt E0 (⟨13, mkS [(4, .x (.one (.p (pi y1)))), (11, .x (.one (.p (.val (.bool (y1 == (0 : Int)))))))], mkH []⟩) ?_
    refine lok_c (y1 == (0 : Int)) ?_ ?_
    · intro b_2
      replace H0 := cpos H0 b_2
      refine lok_rt E0 (⟨13, mkS [(2, .x (.one (.p (pi (0 : Int))))), (3, .x (.one (.p (pi (10 : Int)))))], mkH []⟩) ?_
      refine lok_ret ?_
      obtain rfl := Option.some.inj H0
      try simp only [thenL, blockL]
      exact fin_au _ (.inr rfl) [] (⟨13, mkS [(2, .x (.one (.p (pi (0 : Int))))), (3, .x (.one (.p (pi (10 : Int)))))], mkH []⟩) rfl rfl imp_au
    · intro b_2
      replace H0 := cneg H0 b_2
      refine lok_skip ?_
      try simp only [thenL, blockL, ↓reduceIte, reduceCtorEq]
      refine lok_rt E0 (⟨13, mkS [(2, .x (.one (.p (pi y1)))), (3, .x (.one (.p (pi (0 : Int)))))], mkH []⟩) ?_
      refine lok_ret ?_
      obtain rfl := Option.some.inj H0
      try simp only [thenL, blockL]
      exact fin_au _ (.inr rfl) [] (⟨13, mkS [(2, .x (.one (.p (pi y1)))), (3, .x (.one (.p (pi (0 : Int)))))], mkH []⟩) rfl rfl imp_au
theorem ok_bits_Len64 (x : Int) (r_ : Int) (H0 : bits_Len64 x = some r_) : CallOK Try.prog 79 [.one (.p (.val (.int .u64 x)))] [] [.one (.p (pi r_))] [] := by
  refine callOK (n := 25) (rs := [.tmp 2]) (nb := 0) (V := []) Try.func79 rfl (by kernel_rfl) rfl rfl rfl rfl (Nat.le_of_ble_eq_true rfl) (by decide) ?_
  unfold bits_Len64 at H0
  refine lok_rt E0 (⟨25, mkS [(0, .x (.one (.p (.val (.int .u64 x))))), (2, .x (.one (.p (pi (0 : Int)))))], mkH []⟩) ?_
  refine lok_join (fun x_ : Int × Int => bits_Len64_j3 x_.1 x_.2 = some r_) (fun x_ => ⟨25, mkS [(0, .x (.one (.p (.val (.int .u64 x_.1))))), (2, .x (.one (.p (pi x_.2))))], mkH []⟩) ?hybits_Len64_j3 ?hxbits_Len64_j3
  case hybits_Len64_j3 =>
    rintro ⟨x1, n⟩ H0
    try dsimp only at H0 ⊢
    unfold bits_Len64_j3 at H0
    refine lok_join (fun x_ : Int × Int => bits_Len64_j2 x_.1 x_.2 = some r_) (fun x_ => ⟨25, mkS [(0, .x (.one (.p (.val (.int .u64 x_.1))))), (2, .x (.one (.p (pi x_.2))))], mkH []⟩) ?hybits_Len64_j2 ?hxbits_Len64_j2
    case hybits_Len64_j2 =>
      rintro ⟨x2, n1⟩ H0
      try dsimp only at H0 ⊢
      unfold bits_Len64_j2 at H0
      refine lok_join (fun x_ : Int × Int => bits_Len64_j1 x_.1 x_.2 = some r_) (fun x_ => ⟨25, mkS [(0, .x (.one (.p (.val (.int .u64 x_.1))))), (2, .x (.one (.p (pi x_.2))))], mkH []⟩) ?hybits_Len64_j1 ?hxbits_Len64_j1
      case hybits_Len64_j1 =>
        rintro ⟨x3, n2⟩ H0
        try dsimp only at H0 ⊢
        unfold bits_Len64_j1 at H0
        replace H0 := req_some H0
        obtain ⟨q_1, H0⟩ := H0
        replace H0 := bindV_some H0
        obtain ⟨n3, a_0, H0⟩ := H0
        refine lok_rtg E0 a_0 (⟨25, mkS [(2, .x (.one (.p (pi n3))))], mkH []⟩) ?_
        refine lok_ret ?_
        obtain rfl := Option.some.inj H0
        try simp only [thenL, blockL]
        exact fin_au _ (.inr rfl) [] (⟨25, mkS [(2, .x (.one (.p (pi n3))))], mkH []⟩) rfl rfl imp_au
      case hxbits_Len64_j1 =>
        refine lok_rt E0 (⟨25, mkS [(0, .x (.one (.p (.val (.int .u64 x2))))), (2, .x (.one (.p (pi n1)))), (14, .x (.one (.p (.val (.bool (decide ((256 : Int) ≤ x2)))))))], mkH []⟩) ?_
        refine lok_c (decide ((256 : Int) ≤ x2)) ?_ ?_
        · intro b_2
          replace H0 := cpos H0 b_2
          refine lok_rt E0 (⟨25, mkS [(0, .x (.one (.p (.val (.int .u64 (bShr .u64 x2 (8 : Int))))))), (2, .x (.one (.p (pi n1))))], mkH []⟩) ?_
          refine lok_rl E0 (⟨25, mkS [(0, .x (.one (.p (.val (.int .u64 (bShr .u64 x2 (8 : Int))))))), (2, .x (.one (.p (pi (IntKind.i64.wrap (n1 + (8 : Int)))))))], mkH []⟩) ?_
          try simp only [thenL, blockL, ↓reduceIte, reduceCtorEq]
          exact ⟨((bShr .u64 x2 (8 : Int)), (IntKind.i64.wrap (n1 + (8 : Int)))), H0, imp_au⟩
        · intro b_2
          replace H0 := cneg H0 b_2
          refine lok_skip ?_
          try simp only [thenL, blockL, ↓reduceIte, reduceCtorEq]
          exact ⟨(x2, n1), H0, imp_au⟩
    case hxbits_Len64_j2 =>
      refine lok_rt E0 (⟨25, mkS [(0, .x (.one (.p (.val (.int .u64 x1))))), (2, .x (.one (.p (pi n)))), (8, .x (.one (.p (.val (.bool (decide ((65536 : Int) ≤ x1)))))))], mkH []⟩) ?_
      refine lok_c (decide ((65536 : Int) ≤ x1)) ?_ ?_
      · intro b_3
        replace H0 := cpos H0 b_3
        refine lok_rt E0 (⟨25, mkS [(0, .x (.one (.p (.val (.int .u64 (bShr .u64 x1 (16 : Int))))))), (2, .x (.one (.p (pi n))))], mkH []⟩) ?_
        refine lok_rl E0 (⟨25, mkS [(0, .x (.one (.p (.val (.int .u64 (bShr .u64 x1 (16 : Int))))))), (2, .x (.one (.p (pi (IntKind.i64.wrap (n + (16 : Int)))))))], mkH []⟩) ?_
        try simp only [thenL, blockL, ↓reduceIte, reduceCtorEq]
        exact ⟨((bShr .u64 x1 (16 : Int)), (IntKind.i64.wrap (n + (16 : Int)))), H0, imp_au⟩
      · intro b_3
        replace H0 := cneg H0 b_3
        refine lok_skip ?_
        try simp only [thenL, blockL, ↓reduceIte, reduceCtorEq]
        exact ⟨(x1, n), H0, imp_au⟩
  case hxbits_Len64_j3 =>
    refine lok_rt E0 (⟨25, mkS [(0, .x (.one (.p (.val (.int .u64 x))))), (2, .x (.one (.p (pi (0 : Int))))), (4, .x (.one (.p (.val (.bool (decide ((4294967296 : Int) ≤ x)))))))], mkH []⟩) ?_
    refine lok_c (decide ((4294967296 : Int) ≤ x)) ?_ ?_
    · intro b_4
      replace H0 := cpos H0 b_4
      refine lok_rt E0 (⟨25, mkS [(0, .x (.one (.p (.val (.int .u64 (bShr .u64 x (32 : Int)))))))], mkH []⟩) ?_
      refine lok_rl E0 (⟨25, mkS [(0, .x (.one (.p (.val (.int .u64 (bShr .u64 x (32 : Int))))))), (2, .x (.one (.p (pi (32 : Int)))))], mkH []⟩) ?_
      try simp only [thenL, blockL, ↓reduceIte, reduceCtorEq]
      exact ⟨((bShr .u64 x (32 : Int)), (32 : Int)), H0, imp_au⟩
    · intro b_4
      replace H0 := cneg H0 b_4
      refine lok_skip ?_
      try simp only [thenL, blockL, ↓reduceIte, reduceCtorEq]
      exact ⟨(x, (0 : Int)), H0, imp_au⟩
theorem ok_bits_LeadingZeros64 (x : Int) (r_ : Int) (H0 : bits_LeadingZeros64 x = some r_) : CallOK Try.prog 78 [.one (.p (.val (.int .u64 x)))] [] [.one (.p (pi r_))] [] := by
  refine callOK (n := 6) (rs := [.tmp 2]) (nb := 0) (V := []) Try.func78 rfl (by kernel_rfl) rfl rfl rfl rfl (Nat.le_of_ble_eq_true rfl) (by decide) ?_
  unfold bits_LeadingZeros64 at H0
  refine lok_rt E0 (⟨6, mkS [(0, .x (.one (.p (.val (.int .u64 x)))))], mkH []⟩) ?_
  replace H0 := bind_some H0
  obtain ⟨y, h_0, H0⟩ := H0
  refine lok_rt (Env.of E0 [⟨some 4, 79, [.one (.p (.val (.int .u64 x)))], [], [.one (.p (pi y))], [], True, fun _ => ok_bits_Len64 x y h_0, []⟩]) (⟨6, mkS [(2, .x (.one (.p (pi (IntKind.i64.wrap ((64 : Int) - y))))))], mkH []⟩) ?_
  refine lok_ret ?_
  obtain rfl := Option.some.inj H0
  try simp only [thenL, blockL]
  exact fin_au _ (.inr rfl) [] (⟨6, mkS [(2, .x (.one (.p (pi (IntKind.i64.wrap ((64 : Int) - y))))))], mkH []⟩) rfl rfl imp_au
set_option maxHeartbeats 4000000 in
theorem ok_bits_Div64 (hi : Int) (lo : Int) (y : Int) (r_ : Int × Int) (H0 : bits_Div64 hi lo y = some r_) : CallOK Try.prog 75 [.one (.p (.val (.int .u64 hi))), .one (.p (.val (.int .u64 lo))), .one (.p (.val (.int .u64 y)))] [] [.one (.p (.val (.int .u64 r_.1))), .one (.p (.val (.int .u64 r_.2)))] [] := by
  refine callOK (n := 135) (rs := [.tmp 6, .tmp 7]) (nb := 0) (V := []) Try.func75 rfl (by kernel_rfl) rfl rfl rfl rfl (Nat.le_of_ble_eq_true rfl) (by decide) ?_
  unfold bits_Div64 at H0
  refine lok_rt E0 (⟨135, mkS [(0, .x (.one (.p (.val (.int .u64 hi))))), (1, .x (.one (.p (.val (.int .u64 lo))))), (2, .x (.one (.p (.val (.int .u64 y)))))], mkH []⟩) ?_
  refine lok_join (fun x_ : Unit => bits_Div64_j6 hi lo y = some r_) (fun x_ => ⟨135, mkS [(0, .x (.one (.p (.val (.int .u64 hi))))), (1, .x (.one (.p (.val (.int .u64 lo))))), (2, .x (.one (.p (.val (.int .u64 y)))))], mkH []⟩) ?hybits_Div64_j6 ?hxbits_Div64_j6
  case hybits_Div64_j6 =>
    rintro _ H0
    try dsimp only at H0 ⊢
    unfold bits_Div64_j6 at H0
    refine lok_join (fun x_ : Unit => bits_Div64_j5 hi lo y = some r_) (fun x_ => ⟨135, mkS [(0, .x (.one (.p (.val (.int .u64 hi))))), (1, .x (.one (.p (.val (.int .u64 lo))))), (2, .x (.one (.p (.val (.int .u64 y)))))], mkH []⟩) ?hybits_Div64_j5 ?hxbits_Div64_j5
    case hybits_Div64_j5 =>
      rintro _ H0
      try dsimp only at H0 ⊢
      unfold bits_Div64_j5 at H0
      refine lok_seq ?_
      refine lok_rt E0 (⟨135, mkS [(0, .x (.one (.p (.val (.int .u64 hi))))), (1, .x (.one (.p (.val (.int .u64 lo))))), (2, .x (.one (.p (.val (.int .u64 y))))), (27, .x (.one (.p (.val (.bool (hi == (0 : Int)))))))], mkH []⟩) ?_
      refine lok_c (hi == (0 : Int)) ?_ ?_
      · intro b_25
        replace H0 := cpos H0 b_25
        replace H0 := req_some H0
        obtain ⟨q_0, H0⟩ := H0
        refine lok_dt E0 7 (⟨135, mkS [(6, .x (.one (.p (.val (.int .u64 (IntKind.u64.wrap (Int.tdiv lo y))))))), (7, .x (.one (.p (.val (.int .u64 (Int.tmod lo y))))))], mkH []⟩) (by kernel_rfl) (by kernel_rfl) ?_
        refine lok_ret ?_
        obtain rfl := Option.some.inj H0
        try simp only [thenL, blockL]
        exact fin_au _ (.inr rfl) [] (⟨135, mkS [(6, .x (.one (.p (.val (.int .u64 (IntKind.u64.wrap (Int.tdiv lo y))))))), (7, .x (.one (.p (.val (.int .u64 (Int.tmod lo y))))))], mkH []⟩) rfl rfl imp_au
      · intro b_25
        replace H0 := cneg H0 b_25
        refine lok_skip ?_
        try simp only [thenL, blockL, ↓reduceIte, reduceCtorEq]
        replace H0 := bind_some H0
        obtain ⟨y1, h_1, H0⟩ := H0
        refine lok_rt (Env.of E0 [⟨some 35, 78, [.one (.p (.val (.int .u64 y)))], [], [.one (.p (pi y1))], [], True, fun _ => ok_bits_LeadingZeros64 y y1 h_1, []⟩]) (⟨135, mkS [(0, .x (.one (.p (.val (.int .u64 hi))))), (1, .x (.one (.p (.val (.int .u64 lo))))), (2, .x (.one (.p (.val (.int .u64 y))))), (8, .x (.one (.p (.val (.int .u64 (IntKind.u64.wrap y1))))))], mkH []⟩) ?_
        replace H0 := req_some H0
        obtain ⟨q_24, H0⟩ := H0
        refine lok_rt E0 (⟨135, mkS [(0, .x (.one (.p (.val (.int .u64 hi))))), (1, .x (.one (.p (.val (.int .u64 lo))))), (2, .x (.one (.p (.val (.int .u64 (bShl .u64 y (IntKind.u64.wrap y1))))))), (8, .x (.one (.p (.val (.int .u64 (IntKind.u64.wrap y1))))))], mkH []⟩) ?_
        refine lok_rt E0 (⟨135, mkS [(0, .x (.one (.p (.val (.int .u64 hi))))), (1, .x (.one (.p (.val (.int .u64 lo))))), (2, .x (.one (.p (.val (.int .u64 (bShl .u64 y (IntKind.u64.wrap y1))))))), (8, .x (.one (.p (.val (.int .u64 (IntKind.u64.wrap y1)))))), (9, .x (.one (.p (.val (.int .u64 (bShr .u64 (bShl .u64 y (IntKind.u64.wrap y1)) (32 : Int)))))))], mkH []⟩) ?_
        refine lok_rt E0 (⟨135, mkS [(0, .x (.one (.p (.val (.int .u64 hi))))), (1, .x (.one (.p (.val (.int .u64 lo))))), (2, .x (.one (.p (.val (.int .u64 (bShl .u64 y (IntKind.u64.wrap y1))))))), (8, .x (.one (.p (.val (.int .u64 (IntKind.u64.wrap y1)))))), (9, .x (.one (.p (.val (.int .u64 (bShr .u64 (bShl .u64 y (IntKind.u64.wrap y1)) (32 : Int))))))), (10, .x (.one (.p (.val (.int .u64 (bAnd .u64 (bShl .u64 y (IntKind.u64.wrap y1)) (4294967295 : Int)))))))], mkH []⟩) ?_
        replace H0 := req_some H0
        obtain ⟨⟨q_22, q_23⟩, H0⟩ := H0
        replace H0 := bindV_some H0
        obtain ⟨un32, a_2, H0⟩ := H0
        refine lok_rtg E0 a_2 (⟨135, mkS [(1, .x (.one (.p (.val (.int .u64 lo))))), (2, .x (.one (.p (.val (.int .u64 (bShl .u64 y (IntKind.u64.wrap y1))))))), (8, .x (.one (.p (.val (.int .u64 (IntKind.u64.wrap y1)))))), (9, .x (.one (.p (.val (.int .u64 (bShr .u64 (bShl .u64 y (IntKind.u64.wrap y1)) (32 : Int))))))), (10, .x (.one (.p (.val (.int .u64 (bAnd .u64 (bShl .u64 y (IntKind.u64.wrap y1)) (4294967295 : Int))))))), (11, .x (.one (.p (.val (.int .u64 un32)))))], mkH []⟩) ?_
        replace H0 := req_some H0
        obtain ⟨q_21, H0⟩ := H0
        refine lok_rt E0 (⟨135, mkS [(2, .x (.one (.p (.val (.int .u64 (bShl .u64 y (IntKind.u64.wrap y1))))))), (8, .x (.one (.p (.val (.int .u64 (IntKind.u64.wrap y1)))))), (9, .x (.one (.p (.val (.int .u64 (bShr .u64 (bShl .u64 y (IntKind.u64.wrap y1)) (32 : Int))))))), (10, .x (.one (.p (.val (.int .u64 (bAnd .u64 (bShl .u64 y (IntKind.u64.wrap y1)) (4294967295 : Int))))))), (11, .x (.one (.p (.val (.int .u64 un32))))), (12, .x (.one (.p (.val (.int .u64 (bShl .u64 lo (IntKind.u64.wrap y1)))))))], mkH []⟩) ?_
        refine lok_rt E0 (⟨135, mkS [(2, .x (.one (.p (.val (.int .u64 (bShl .u64 y (IntKind.u64.wrap y1))))))), (8, .x (.one (.p (.val (.int .u64 (IntKind.u64.wrap y1)))))), (9, .x (.one (.p (.val (.int .u64 (bShr .u64 (bShl .u64 y (IntKind.u64.wrap y1)) (32 : Int))))))), (10, .x (.one (.p (.val (.int .u64 (bAnd .u64 (bShl .u64 y (IntKind.u64.wrap y1)) (4294967295 : Int))))))), (11, .x (.one (.p (.val (.int .u64 un32))))), (12, .x (.one (.p (.val (.int .u64 (bShl .u64 lo (IntKind.u64.wrap y1))))))), (13, .x (.one (.p (.val (.int .u64 (bShr .u64 (bShl .u64 lo (IntKind.u64.wrap y1)) (32 : Int)))))))], mkH []⟩) ?_
        refine lok_rt E0 (⟨135, mkS [(2, .x (.one (.p (.val (.int .u64 (bShl .u64 y (IntKind.u64.wrap y1))))))), (8, .x (.one (.p (.val (.int .u64 (IntKind.u64.wrap y1)))))), (9, .x (.one (.p (.val (.int .u64 (bShr .u64 (bShl .u64 y (IntKind.u64.wrap y1)) (32 : Int))))))), (10, .x (.one (.p (.val (.int .u64 (bAnd .u64 (bShl .u64 y (IntKind.u64.wrap y1)) (4294967295 : Int))))))), (11, .x (.one (.p (.val (.int .u64 un32))))), (13, .x (.one (.p (.val (.int .u64 (bShr .u64 (bShl .u64 lo (IntKind.u64.wrap y1)) (32 : Int))))))), (14, .x (.one (.p (.val (.int .u64 (bAnd .u64 (bShl .u64 lo (IntKind.u64.wrap y1)) (4294967295 : Int)))))))], mkH []⟩) ?_
        replace H0 := req_some H0
        obtain ⟨q_20, H0⟩ := H0
        replace H0 := bindV_some H0
        obtain ⟨q1, a_3, H0⟩ := H0
        refine lok_rtg E0 a_3 (⟨135, mkS [(2, .x (.one (.p (.val (.int .u64 (bShl .u64 y (IntKind.u64.wrap y1))))))), (8, .x (.one (.p (.val (.int .u64 (IntKind.u64.wrap y1)))))), (9, .x (.one (.p (.val (.int .u64 (bShr .u64 (bShl .u64 y (IntKind.u64.wrap y1)) (32 : Int))))))), (10, .x (.one (.p (.val (.int .u64 (bAnd .u64 (bShl .u64 y (IntKind.u64.wrap y1)) (4294967295 : Int))))))), (11, .x (.one (.p (.val (.int .u64 un32))))), (13, .x (.one (.p (.val (.int .u64 (bShr .u64 (bShl .u64 lo (IntKind.u64.wrap y1)) (32 : Int))))))), (14, .x (.one (.p (.val (.int .u64 (bAnd .u64 (bShl .u64 lo (IntKind.u64.wrap y1)) (4294967295 : Int))))))), (15, .x (.one (.p (.val (.int .u64 q1)))))], mkH []⟩) ?_
        replace H0 := bindV_some H0
        obtain ⟨rhat, a_4, H0⟩ := H0
        refine lok_rtg E0 a_4 (⟨135, mkS [(2, .x (.one (.p (.val (.int .u64 (bShl .u64 y (IntKind.u64.wrap y1))))))), (8, .x (.one (.p (.val (.int .u64 (IntKind.u64.wrap y1)))))), (9, .x (.one (.p (.val (.int .u64 (bShr .u64 (bShl .u64 y (IntKind.u64.wrap y1)) (32 : Int))))))), (10, .x (.one (.p (.val (.int .u64 (bAnd .u64 (bShl .u64 y (IntKind.u64.wrap y1)) (4294967295 : Int))))))), (11, .x (.one (.p (.val (.int .u64 un32))))), (13, .x (.one (.p (.val (.int .u64 (bShr .u64 (bShl .u64 lo (IntKind.u64.wrap y1)) (32 : Int))))))), (14, .x (.one (.p (.val (.int .u64 (bAnd .u64 (bShl .u64 lo (IntKind.u64.wrap y1)) (4294967295 : Int))))))), (15, .x (.one (.p (.val (.int .u64 q1))))), (16, .x (.one (.p (.val (.int .u64 rhat)))))], mkH []⟩) ?_
        refine lok_join (fun x_ : Int => bits_Div64_j3 lo y y1 un32 x_ = some r_) (fun x_ => ⟨135, mkS [(2, .x (.one (.p (.val (.int .u64 (bShl .u64 y (IntKind.u64.wrap y1))))))), (8, .x (.one (.p (.val (.int .u64 (IntKind.u64.wrap y1)))))), (9, .x (.one (.p (.val (.int .u64 (bShr .u64 (bShl .u64 y (IntKind.u64.wrap y1)) (32 : Int))))))), (10, .x (.one (.p (.val (.int .u64 (bAnd .u64 (bShl .u64 y (IntKind.u64.wrap y1)) (4294967295 : Int))))))), (11, .x (.one (.p (.val (.int .u64 un32))))), (13, .x (.one (.p (.val (.int .u64 (bShr .u64 (bShl .u64 lo (IntKind.u64.wrap y1)) (32 : Int))))))), (14, .x (.one (.p (.val (.int .u64 (bAnd .u64 (bShl .u64 lo (IntKind.u64.wrap y1)) (4294967295 : Int))))))), (15, .x (.one (.p (.val (.int .u64 x_)))))], mkH []⟩) ?hybits_Div64_j3 ?hxbits_Div64_j3
        case hybits_Div64_j3 =>
          rintro q11 H0
          try dsimp only at H0 ⊢
          unfold bits_Div64_j3 at H0
          replace H0 := bindV_some H0
          obtain ⟨un21, a_5, H0⟩ := H0
          refine lok_rtg E0 a_5 (⟨135, mkS [(2, .x (.one (.p (.val (.int .u64 (bShl .u64 y (IntKind.u64.wrap y1))))))), (8, .x (.one (.p (.val (.int .u64 (IntKind.u64.wrap y1)))))), (9, .x (.one (.p (.val (.int .u64 (bShr .u64 (bShl .u64 y (IntKind.u64.wrap y1)) (32 : Int))))))), (10, .x (.one (.p (.val (.int .u64 (bAnd .u64 (bShl .u64 y (IntKind.u64.wrap y1)) (4294967295 : Int))))))), (14, .x (.one (.p (.val (.int .u64 (bAnd .u64 (bShl .u64 lo (IntKind.u64.wrap y1)) (4294967295 : Int))))))), (15, .x (.one (.p (.val (.int .u64 q11))))), (17, .x (.one (.p (.val (.int .u64 un21)))))], mkH []⟩) ?_
          replace H0 := req_some H0
          obtain ⟨q_15, H0⟩ := H0
          replace H0 := bindV_some H0
          obtain ⟨q0, a_6, H0⟩ := H0
          refine lok_rtg E0 a_6 (⟨135, mkS [(2, .x (.one (.p (.val (.int .u64 (bShl .u64 y (IntKind.u64.wrap y1))))))), (8, .x (.one (.p (.val (.int .u64 (IntKind.u64.wrap y1)))))), (9, .x (.one (.p (.val (.int .u64 (bShr .u64 (bShl .u64 y (IntKind.u64.wrap y1)) (32 : Int))))))), (10, .x (.one (.p (.val (.int .u64 (bAnd .u64 (bShl .u64 y (IntKind.u64.wrap y1)) (4294967295 : Int))))))), (14, .x (.one (.p (.val (.int .u64 (bAnd .u64 (bShl .u64 lo (IntKind.u64.wrap y1)) (4294967295 : Int))))))), (15, .x (.one (.p (.val (.int .u64 q11))))), (17, .x (.one (.p (.val (.int .u64 un21))))), (18, .x (.one (.p (.val (.int .u64 q0)))))], mkH []⟩) ?_
          replace H0 := bindV_some H0
          obtain ⟨rhat1, a_7, H0⟩ := H0
          refine lok_rtg E0 a_7 (⟨135, mkS [(2, .x (.one (.p (.val (.int .u64 (bShl .u64 y (IntKind.u64.wrap y1))))))), (8, .x (.one (.p (.val (.int .u64 (IntKind.u64.wrap y1)))))), (9, .x (.one (.p (.val (.int .u64 (bShr .u64 (bShl .u64 y (IntKind.u64.wrap y1)) (32 : Int))))))), (10, .x (.one (.p (.val (.int .u64 (bAnd .u64 (bShl .u64 y (IntKind.u64.wrap y1)) (4294967295 : Int))))))), (14, .x (.one (.p (.val (.int .u64 (bAnd .u64 (bShl .u64 lo (IntKind.u64.wrap y1)) (4294967295 : Int))))))), (15, .x (.one (.p (.val (.int .u64 q11))))), (16, .x (.one (.p (.val (.int .u64 rhat1))))), (17, .x (.one (.p (.val (.int .u64 un21))))), (18, .x (.one (.p (.val (.int .u64 q0)))))], mkH []⟩) ?_
          refine lok_join (fun x_ : Int => bits_Div64_j1 lo y y1 q11 un21 x_ = some r_) (fun x_ => ⟨135, mkS [(2, .x (.one (.p (.val (.int .u64 (bShl .u64 y (IntKind.u64.wrap y1))))))), (8, .x (.one (.p (.val (.int .u64 (IntKind.u64.wrap y1)))))), (14, .x (.one (.p (.val (.int .u64 (bAnd .u64 (bShl .u64 lo (IntKind.u64.wrap y1)) (4294967295 : Int))))))), (15, .x (.one (.p (.val (.int .u64 q11))))), (17, .x (.one (.p (.val (.int .u64 un21))))), (18, .x (.one (.p (.val (.int .u64 x_)))))], mkH []⟩) ?hybits_Div64_j1 ?hxbits_Div64_j1
          case hybits_Div64_j1 =>
            rintro q01 H0
            try dsimp only at H0 ⊢
            unfold bits_Div64_j1 at H0
            replace H0 := req_some H0
            obtain ⟨q_10, H0⟩ := H0
            replace H0 := bindV_some H0
            obtain ⟨quo, a_8, H0⟩ := H0
            replace H0 := bindV_some H0
            obtain ⟨rem, a_9, H0⟩ := H0
            refine lok_rtg E0 (And.intro a_8 a_9) (⟨135, mkS [(6, .x (.one (.p (.val (.int .u64 quo))))), (7, .x (.one (.p (.val (.int .u64 rem)))))], mkH []⟩) ?_
            refine lok_ret ?_
            obtain rfl := Option.some.inj H0
            try simp only [thenL, blockL]
            exact fin_au _ (.inr rfl) [] (⟨135, mkS [(6, .x (.one (.p (.val (.int .u64 quo))))), (7, .x (.one (.p (.val (.int .u64 rem)))))], mkH []⟩) rfl rfl imp_au
          case hxbits_Div64_j1 =>
            refine lok_block ?_
            replace H0 := bind_some H0
            obtain ⟨v_11, hv_11, H0⟩ := H0
            refine lok_iter (fun x_ => ⟨135, mkS [(2, .x (.one (.p (.val (.int .u64 (bShl .u64 y (IntKind.u64.wrap y1))))))), (8, .x (.one (.p (.val (.int .u64 (IntKind.u64.wrap y1)))))), (9, .x (.one (.p (.val (.int .u64 (bShr .u64 (bShl .u64 y (IntKind.u64.wrap y1)) (32 : Int))))))), (10, .x (.one (.p (.val (.int .u64 (bAnd .u64 (bShl .u64 y (IntKind.u64.wrap y1)) (4294967295 : Int))))))), (14, .x (.one (.p (.val (.int .u64 (bAnd .u64 (bShl .u64 lo (IntKind.u64.wrap y1)) (4294967295 : Int))))))), (15, .x (.one (.p (.val (.int .u64 q11))))), (16, .x (.one (.p (.val (.int .u64 x_.1))))), (17, .x (.one (.p (.val (.int .u64 un21))))), (18, .x (.one (.p (.val (.int .u64 x_.2)))))], mkH []⟩) hv_11 imp_au ?_
            · rintro ⟨rhat2, q02⟩ o_1 H1 k_1
              unfold bits_Div64_l2 at H1
              try dsimp only at H1 ⊢
              refine lok_seq ?_
              refine lok_rt E0 (⟨135, mkS [(2, .x (.one (.p (.val (.int .u64 (bShl .u64 y (IntKind.u64.wrap y1))))))), (8, .x (.one (.p (.val (.int .u64 (IntKind.u64.wrap y1)))))), (9, .x (.one (.p (.val (.int .u64 (bShr .u64 (bShl .u64 y (IntKind.u64.wrap y1)) (32 : Int))))))), (10, .x (.one (.p (.val (.int .u64 (bAnd .u64 (bShl .u64 y (IntKind.u64.wrap y1)) (4294967295 : Int))))))), (14, .x (.one (.p (.val (.int .u64 (bAnd .u64 (bShl .u64 lo (IntKind.u64.wrap y1)) (4294967295 : Int))))))), (15, .x (.one (.p (.val (.int .u64 q11))))), (16, .x (.one (.p (.val (.int .u64 rhat2))))), (17, .x (.one (.p (.val (.int .u64 un21))))), (18, .x (.one (.p (.val (.int .u64 q02))))), (113, .x (.one (.p (.val (.bool ((decide ((4294967296 : Int) ≤ q02)) || (decide ((IntKind.u64.wrap ((IntKind.u64.wrap ((4294967296 : Int) * rhat2)) + (bAnd .u64 (bShl .u64 lo (IntKind.u64.wrap y1)) (4294967295 : Int)))) < (IntKind.u64.wrap (q02 * (bAnd .u64 (bShl .u64 y (IntKind.u64.wrap y1)) (4294967295 : Int))))))))))))], mkH []⟩) ?_
              refine lok_c ((decide ((4294967296 : Int) ≤ q02)) || (decide ((IntKind.u64.wrap ((IntKind.u64.wrap ((4294967296 : Int) * rhat2)) + (bAnd .u64 (bShl .u64 lo (IntKind.u64.wrap y1)) (4294967295 : Int)))) < (IntKind.u64.wrap (q02 * (bAnd .u64 (bShl .u64 y (IntKind.u64.wrap y1)) (4294967295 : Int))))))) ?_ ?_
              · intro b_14
                replace H1 := cpos H1 b_14
                refine lok_skip ?_
                try simp only [thenL, blockL, ↓reduceIte, reduceCtorEq]
                refine lok_block ?_
                refine lok_rt E0 (⟨135, mkS [(2, .x (.one (.p (.val (.int .u64 (bShl .u64 y (IntKind.u64.wrap y1))))))), (8, .x (.one (.p (.val (.int .u64 (IntKind.u64.wrap y1)))))), (9, .x (.one (.p (.val (.int .u64 (bShr .u64 (bShl .u64 y (IntKind.u64.wrap y1)) (32 : Int))))))), (10, .x (.one (.p (.val (.int .u64 (bAnd .u64 (bShl .u64 y (IntKind.u64.wrap y1)) (4294967295 : Int))))))), (14, .x (.one (.p (.val (.int .u64 (bAnd .u64 (bShl .u64 lo (IntKind.u64.wrap y1)) (4294967295 : Int))))))), (15, .x (.one (.p (.val (.int .u64 q11))))), (16, .x (.one (.p (.val (.int .u64 rhat2))))), (17, .x (.one (.p (.val (.int .u64 un21))))), (18, .x (.one (.p (.val (.int .u64 (IntKind.u64.wrap (q02 - (1 : Int))))))))], mkH []⟩) ?_
                replace H1 := bindV_some H1
                obtain ⟨rhat3, a_12, H1⟩ := H1
                refine lok_rtg E0 a_12 (⟨135, mkS [(2, .x (.one (.p (.val (.int .u64 (bShl .u64 y (IntKind.u64.wrap y1))))))), (8, .x (.one (.p (.val (.int .u64 (IntKind.u64.wrap y1)))))), (9, .x (.one (.p (.val (.int .u64 (bShr .u64 (bShl .u64 y (IntKind.u64.wrap y1)) (32 : Int))))))), (10, .x (.one (.p (.val (.int .u64 (bAnd .u64 (bShl .u64 y (IntKind.u64.wrap y1)) (4294967295 : Int))))))), (14, .x (.one (.p (.val (.int .u64 (bAnd .u64 (bShl .u64 lo (IntKind.u64.wrap y1)) (4294967295 : Int))))))), (15, .x (.one (.p (.val (.int .u64 q11))))), (16, .x (.one (.p (.val (.int .u64 rhat3))))), (17, .x (.one (.p (.val (.int .u64 un21))))), (18, .x (.one (.p (.val (.int .u64 (IntKind.u64.wrap (q02 - (1 : Int))))))))], mkH []⟩) ?_
                refine lok_rt E0 (⟨135, mkS [(2, .x (.one (.p (.val (.int .u64 (bShl .u64 y (IntKind.u64.wrap y1))))))), (8, .x (.one (.p (.val (.int .u64 (IntKind.u64.wrap y1)))))), (9, .x (.one (.p (.val (.int .u64 (bShr .u64 (bShl .u64 y (IntKind.u64.wrap y1)) (32 : Int))))))), (10, .x (.one (.p (.val (.int .u64 (bAnd .u64 (bShl .u64 y (IntKind.u64.wrap y1)) (4294967295 : Int))))))), (14, .x (.one (.p (.val (.int .u64 (bAnd .u64 (bShl .u64 lo (IntKind.u64.wrap y1)) (4294967295 : Int))))))), (15, .x (.one (.p (.val (.int .u64 q11))))), (16, .x (.one (.p (.val (.int .u64 rhat3))))), (17, .x (.one (.p (.val (.int .u64 un21))))), (18, .x (.one (.p (.val (.int .u64 (IntKind.u64.wrap (q02 - (1 : Int)))))))), (120, .x (.one (.p (.val (.bool (decide ((4294967296 : Int) ≤ rhat3)))))))], mkH []⟩) ?_
                refine lok_c (decide ((4294967296 : Int) ≤ rhat3)) ?_ ?_
                · intro b_13
                  replace H1 := cpos H1 b_13
                  refine lok_exit ?_
                  try simp only [thenL, blockL, ↓reduceIte, reduceCtorEq]
                  have e_1 := k_1 _ (Option.some.inj H1).symm
                  subst e_1
                  try dsimp only at H0
                  try simp only [thenL, blockL, ↓reduceIte, reduceCtorEq]
                  exact ⟨(IntKind.u64.wrap (q02 - (1 : Int))), H0, imp_au⟩
                · intro b_13
                  replace H1 := cneg H1 b_13
                  refine lok_skip ?_
                  try simp only [thenL, blockL, ↓reduceIte, reduceCtorEq]
                  exact ⟨(rhat3, (IntKind.u64.wrap (q02 - (1 : Int)))), (Option.some.inj H1).symm, imp_au⟩
              · intro b_14
                replace H1 := cneg H1 b_14
                refine lok_exit ?_
                try simp only [thenL, blockL, ↓reduceIte, reduceCtorEq]
                have e_1 := k_1 _ (Option.some.inj H1).symm
                subst e_1
                try dsimp only at H0
                try simp only [thenL, blockL, ↓reduceIte, reduceCtorEq]
                exact ⟨q02, H0, imp_au⟩
        case hxbits_Div64_j3 =>
          refine lok_block ?_
          replace H0 := bind_some H0
          obtain ⟨v_16, hv_16, H0⟩ := H0
          refine lok_iter (fun x_ => ⟨135, mkS [(2, .x (.one (.p (.val (.int .u64 (bShl .u64 y (IntKind.u64.wrap y1))))))), (8, .x (.one (.p (.val (.int .u64 (IntKind.u64.wrap y1)))))), (9, .x (.one (.p (.val (.int .u64 (bShr .u64 (bShl .u64 y (IntKind.u64.wrap y1)) (32 : Int))))))), (10, .x (.one (.p (.val (.int .u64 (bAnd .u64 (bShl .u64 y (IntKind.u64.wrap y1)) (4294967295 : Int))))))), (11, .x (.one (.p (.val (.int .u64 un32))))), (13, .x (.one (.p (.val (.int .u64 (bShr .u64 (bShl .u64 lo (IntKind.u64.wrap y1)) (32 : Int))))))), (14, .x (.one (.p (.val (.int .u64 (bAnd .u64 (bShl .u64 lo (IntKind.u64.wrap y1)) (4294967295 : Int))))))), (15, .x (.one (.p (.val (.int .u64 x_.1))))), (16, .x (.one (.p (.val (.int .u64 x_.2)))))], mkH []⟩) hv_16 imp_au ?_
          · rintro ⟨q12, rhat4⟩ o_1 H1 k_1
            unfold bits_Div64_l4 at H1
            try dsimp only at H1 ⊢
            refine lok_seq ?_
            refine lok_rt E0 (⟨135, mkS [(2, .x (.one (.p (.val (.int .u64 (bShl .u64 y (IntKind.u64.wrap y1))))))), (8, .x (.one (.p (.val (.int .u64 (IntKind.u64.wrap y1)))))), (9, .x (.one (.p (.val (.int .u64 (bShr .u64 (bShl .u64 y (IntKind.u64.wrap y1)) (32 : Int))))))), (10, .x (.one (.p (.val (.int .u64 (bAnd .u64 (bShl .u64 y (IntKind.u64.wrap y1)) (4294967295 : Int))))))), (11, .x (.one (.p (.val (.int .u64 un32))))), (13, .x (.one (.p (.val (.int .u64 (bShr .u64 (bShl .u64 lo (IntKind.u64.wrap y1)) (32 : Int))))))), (14, .x (.one (.p (.val (.int .u64 (bAnd .u64 (bShl .u64 lo (IntKind.u64.wrap y1)) (4294967295 : Int))))))), (15, .x (.one (.p (.val (.int .u64 q12))))), (16, .x (.one (.p (.val (.int .u64 rhat4))))), (78, .x (.one (.p (.val (.bool ((decide ((4294967296 : Int) ≤ q12)) || (decide ((IntKind.u64.wrap ((IntKind.u64.wrap ((4294967296 : Int) * rhat4)) + (bShr .u64 (bShl .u64 lo (IntKind.u64.wrap y1)) (32 : Int)))) < (IntKind.u64.wrap (q12 * (bAnd .u64 (bShl .u64 y (IntKind.u64.wrap y1)) (4294967295 : Int))))))))))))], mkH []⟩) ?_
            refine lok_c ((decide ((4294967296 : Int) ≤ q12)) || (decide ((IntKind.u64.wrap ((IntKind.u64.wrap ((4294967296 : Int) * rhat4)) + (bShr .u64 (bShl .u64 lo (IntKind.u64.wrap y1)) (32 : Int)))) < (IntKind.u64.wrap (q12 * (bAnd .u64 (bShl .u64 y (IntKind.u64.wrap y1)) (4294967295 : Int))))))) ?_ ?_
            · intro b_19
              replace H1 := cpos H1 b_19
              refine lok_skip ?_
              try simp only [thenL, blockL, ↓reduceIte, reduceCtorEq]
              refine lok_block ?_
              refine lok_rt E0 (⟨135, mkS [(2, .x (.one (.p (.val (.int .u64 (bShl .u64 y (IntKind.u64.wrap y1))))))), (8, .x (.one (.p (.val (.int .u64 (IntKind.u64.wrap y1)))))), (9, .x (.one (.p (.val (.int .u64 (bShr .u64 (bShl .u64 y (IntKind.u64.wrap y1)) (32 : Int))))))), (10, .x (.one (.p (.val (.int .u64 (bAnd .u64 (bShl .u64 y (IntKind.u64.wrap y1)) (4294967295 : Int))))))), (11, .x (.one (.p (.val (.int .u64 un32))))), (13, .x (.one (.p (.val (.int .u64 (bShr .u64 (bShl .u64 lo (IntKind.u64.wrap y1)) (32 : Int))))))), (14, .x (.one (.p (.val (.int .u64 (bAnd .u64 (bShl .u64 lo (IntKind.u64.wrap y1)) (4294967295 : Int))))))), (15, .x (.one (.p (.val (.int .u64 (IntKind.u64.wrap (q12 - (1 : Int)))))))), (16, .x (.one (.p (.val (.int .u64 rhat4)))))], mkH []⟩) ?_
              replace H1 := bindV_some H1
              obtain ⟨rhat5, a_17, H1⟩ := H1
              refine lok_rtg E0 a_17 (⟨135, mkS [(2, .x (.one (.p (.val (.int .u64 (bShl .u64 y (IntKind.u64.wrap y1))))))), (8, .x (.one (.p (.val (.int .u64 (IntKind.u64.wrap y1)))))), (9, .x (.one (.p (.val (.int .u64 (bShr .u64 (bShl .u64 y (IntKind.u64.wrap y1)) (32 : Int))))))), (10, .x (.one (.p (.val (.int .u64 (bAnd .u64 (bShl .u64 y (IntKind.u64.wrap y1)) (4294967295 : Int))))))), (11, .x (.one (.p (.val (.int .u64 un32))))), (13, .x (.one (.p (.val (.int .u64 (bShr .u64 (bShl .u64 lo (IntKind.u64.wrap y1)) (32 : Int))))))), (14, .x (.one (.p (.val (.int .u64 (bAnd .u64 (bShl .u64 lo (IntKind.u64.wrap y1)) (4294967295 : Int))))))), (15, .x (.one (.p (.val (.int .u64 (IntKind.u64.wrap (q12 - (1 : Int)))))))), (16, .x (.one (.p (.val (.int .u64 rhat5)))))], mkH []⟩) ?_
              refine lok_rt E0 (⟨135, mkS [(2, .x (.one (.p (.val (.int .u64 (bShl .u64 y (IntKind.u64.wrap y1))))))), (8, .x (.one (.p (.val (.int .u64 (IntKind.u64.wrap y1)))))), (9, .x (.one (.p (.val (.int .u64 (bShr .u64 (bShl .u64 y (IntKind.u64.wrap y1)) (32 : Int))))))), (10, .x (.one (.p (.val (.int .u64 (bAnd .u64 (bShl .u64 y (IntKind.u64.wrap y1)) (4294967295 : Int))))))), (11, .x (.one (.p (.val (.int .u64 un32))))), (13, .x (.one (.p (.val (.int .u64 (bShr .u64 (bShl .u64 lo (IntKind.u64.wrap y1)) (32 : Int))))))), (14, .x (.one (.p (.val (.int .u64 (bAnd .u64 (bShl .u64 lo (IntKind.u64.wrap y1)) (4294967295 : Int))))))), (15, .x (.one (.p (.val (.int .u64 (IntKind.u64.wrap (q12 - (1 : Int)))))))), (16, .x (.one (.p (.val (.int .u64 rhat5))))), (85, .x (.one (.p (.val (.bool (decide ((4294967296 : Int) ≤ rhat5)))))))], mkH []⟩) ?_
              refine lok_c (decide ((4294967296 : Int) ≤ rhat5)) ?_ ?_
              · intro b_18
                replace H1 := cpos H1 b_18
                refine lok_exit ?_
                try simp only [thenL, blockL, ↓reduceIte, reduceCtorEq]
                have e_1 := k_1 _ (Option.some.inj H1).symm
                subst e_1
                try dsimp only at H0
                try simp only [thenL, blockL, ↓reduceIte, reduceCtorEq]
                exact ⟨(IntKind.u64.wrap (q12 - (1 : Int))), H0, imp_au⟩
              · intro b_18
                replace H1 := cneg H1 b_18
                refine lok_skip ?_
                try simp only [thenL, blockL, ↓reduceIte, reduceCtorEq]
                exact ⟨((IntKind.u64.wrap (q12 - (1 : Int))), rhat5), (Option.some.inj H1).symm, imp_au⟩
            · intro b_19
              replace H1 := cneg H1 b_19
              refine lok_exit ?_
              try simp only [thenL, blockL, ↓reduceIte, reduceCtorEq]
              have e_1 := k_1 _ (Option.some.inj H1).symm
              subst e_1
              try dsimp only at H0
              try simp only [thenL, blockL, ↓reduceIte, reduceCtorEq]
              exact ⟨q12, H0, imp_au⟩
    case hxbits_Div64_j5 =>
      refine lok_rt E0 (⟨135, mkS [(0, .x (.one (.p (.val (.int .u64 hi))))), (1, .x (.one (.p (.val (.int .u64 lo))))), (2, .x (.one (.p (.val (.int .u64 y))))), (24, .x (.one (.p (.val (.bool (decide (y ≤ hi)))))))], mkH []⟩) ?_
      refine lok_c (decide (y ≤ hi)) ?_ ?_
      · intro b_26
        replace H0 := cpos H0 b_26
        cases H0
      · intro b_26
        replace H0 := cneg H0 b_26
        refine lok_skip ?_
        try simp only [thenL, blockL, ↓reduceIte, reduceCtorEq]
        exact ⟨(), H0, imp_au⟩
  case hxbits_Div64_j6 =>
    refine lok_rt E0 (⟨135, mkS [(0, .x (.one (.p (.val (.int .u64 hi))))), (1, .x (.one (.p (.val (.int .u64 lo))))), (2, .x (.one (.p (.val (.int .u64 y))))), (20, .x (.one (.p (.val (.bool (y == (0 : Int)))))))], mkH []⟩) ?_
    refine lok_c (y == (0 : Int)) ?_ ?_
    · intro b_27
      replace H0 := cpos H0 b_27
      cases H0
    · intro b_27
      replace H0 := cneg H0 b_27
      refine lok_skip ?_
      try simp only [thenL, blockL, ↓reduceIte, reduceCtorEq]
      exact ⟨(), H0, imp_au⟩
theorem ok_bits_Rem64 (hi : Int) (lo : Int) (y : Int) (r_ : Int) (H0 : bits_Rem64 hi lo y = some r_) : CallOK Try.prog 74 [.one (.p (.val (.int .u64 hi))), .one (.p (.val (.int .u64 lo))), .one (.p (.val (.int .u64 y)))] [] [.one (.p (.val (.int .u64 r_)))] [] := by
  refine callOK (n := 19) (rs := [.tmp 6]) (nb := 0) (V := []) Try.func74 rfl (by kernel_rfl) rfl rfl rfl rfl (Nat.le_of_ble_eq_true rfl) (by decide) ?_
  unfold bits_Rem64 at H0
  refine lok_rt E0 (⟨19, mkS [(0, .x (.one (.p (.val (.int .u64 hi))))), (1, .x (.one (.p (.val (.int .u64 lo))))), (2, .x (.one (.p (.val (.int .u64 y)))))], mkH []⟩) ?_
  replace H0 := req_some H0
  obtain ⟨q_1, H0⟩ := H0
  replace H0 := bind_some H0
  obtain ⟨⟨y1, y2⟩, h_0, H0⟩ := H0
  try dsimp only at H0
  refine lok_rt (Env.of E0 [⟨some 15, 75, [.one (.p (.val (.int .u64 (Int.tmod hi y)))), .one (.p (.val (.int .u64 lo))), .one (.p (.val (.int .u64 y)))], [], [.one (.p (.val (.int .u64 y1))), .one (.p (.val (.int .u64 y2)))], [], True, fun _ => ok_bits_Div64 (Int.tmod hi y) lo y (y1, y2) h_0, []⟩]) (⟨19, mkS [(8, .x (.one (.p (.val (.int .u64 y2)))))], mkH []⟩) ?_
  refine lok_rt E0 (⟨19, mkS [(6, .x (.one (.p (.val (.int .u64 y2)))))], mkH []⟩) ?_
  refine lok_ret ?_
  obtain rfl := Option.some.inj H0
  try simp only [thenL, blockL]
  exact fin_au _ (.inr rfl) [] (⟨19, mkS [(6, .x (.one (.p (.val (.int .u64 y2)))))], mkH []⟩) rfl rfl imp_au
theorem ok_ratio_wide_mod (a : ratio_wide) (d : Int) (r_ : Int) (H0 : ratio_wide_mod a d = some r_) : CallOK Try.prog 66 [.agg [.p (.val (.int .u64 a.hi)), .p (.val (.int .u64 a.lo))], .one (.p (.val (.int .u64 d)))] [] [.one (.p (.val (.int .u64 r_)))] [] := by
  refine callOK (n := 11) (rs := [.tmp 4]) (nb := 0) (V := []) Try.func66 rfl (by kernel_rfl) rfl rfl rfl rfl (Nat.le_of_ble_eq_true rfl) (by decide) ?_
  unfold ratio_wide_mod at H0
  refine lok_rt E0 (⟨11, mkS [(1, .x (.one (.p (.val (.int .u64 d))))), (2, .x (.one (.ptr 102 0)))], mkH [(102, .var [.p (.val (.int .u64 a.hi)), .p (.val (.int .u64 a.lo))])]⟩) ?_
  replace H0 := bind_some H0
  obtain ⟨y, h_0, H0⟩ := H0
  refine lok_rt (Env.of E0 [⟨some 10, 74, [.one (.p (.val (.int .u64 a.hi))), .one (.p (.val (.int .u64 a.lo))), .one (.p (.val (.int .u64 d)))], [], [.one (.p (.val (.int .u64 y)))], [], True, fun _ => ok_bits_Rem64 a.hi a.lo d y h_0, []⟩]) (⟨11, mkS [(4, .x (.one (.p (.val (.int .u64 y)))))], mkH []⟩) ?_
  refine lok_ret ?_
  obtain rfl := Option.some.inj H0
  try simp only [thenL, blockL]
  exact fin_au _ (.inr rfl) [] (⟨11, mkS [(4, .x (.one (.p (.val (.int .u64 y)))))], mkH []⟩) rfl rfl imp_au
theorem ok_ratio_fitted (neg : Bool) (num : ratio_wide) (den : ratio_wide) (r_ : api_Ratio × Int) (H0 : ratio_fitted neg num den = some r_) : CallOK Try.prog 67 [.one (.p (.val (.bool neg))), .agg [.p (.val (.int .u64 num.hi)), .p (.val (.int .u64 num.lo))], .agg [.p (.val (.int .u64 den.hi)), .p (.val (.int .u64 den.lo))]] [] [.agg [.p (pi r_.1.Num), .p (pi r_.1.Den)], .one (.p (pi r_.2))] [] := by
  refine callOK (n := 39) (rs := [.cell 6 31, .tmp 7]) (nb := 0) (V := []) Try.func67 rfl (by kernel_rfl) rfl rfl rfl rfl (Nat.le_of_ble_eq_true rfl) (by decide) ?_
  unfold ratio_fitted at H0
  refine lok_rt E0 (⟨39, mkS [(0, .x (.one (.p (.val (.bool neg))))), (4, .x (.one (.ptr 104 0))), (5, .x (.one (.ptr 105 0))), (6, .x (.one (.ptr 106 0)))], mkH [(104, .var [.p (.val (.int .u64 num.hi)), .p (.val (.int .u64 num.lo))]), (105, .var [.p (.val (.int .u64 den.hi)), .p (.val (.int .u64 den.lo))]), (106, .var [.p (pi (0 : Int)), .p (pi (0 : Int))])]⟩) ?_
  refine lok_seq ?_
  refine lok_rt E0 (⟨39, mkS [(0, .x (.one (.p (.val (.bool neg))))), (4, .x (.one (.ptr 104 0))), (5, .x (.one (.ptr 105 0))), (6, .x (.one (.ptr 106 0))), (26, .x (.one (.p (.val (.bool ((((num.hi != (0 : Int)) || (den.hi != (0 : Int))) || (decide ((1152921504606846976 : Int) < num.lo))) || (decide ((1152921504606846976 : Int) < den.lo))))))))], mkH [(104, .var [.p (.val (.int .u64 num.hi)), .p (.val (.int .u64 num.lo))]), (105, .var [.p (.val (.int .u64 den.hi)), .p (.val (.int .u64 den.lo))]), (106, .var [.p (pi (0 : Int)), .p (pi (0 : Int))])]⟩) ?_
  refine lok_c ((((num.hi != (0 : Int)) || (den.hi != (0 : Int))) || (decide ((1152921504606846976 : Int) < num.lo))) || (decide ((1152921504606846976 : Int) < den.lo))) ?_ ?_
  · intro b_1
    replace H0 := cpos H0 b_1
    refine lok_rt E0 (⟨39, mkS [(6, .x (.one (.ptr 106 0))), (7, .x (.one (.p (pi (6 : Int)))))], mkH [(106, .var [.p (pi (0 : Int)), .p (pi (0 : Int))])]⟩) ?_
    refine lok_ret ?_
    obtain rfl := Option.some.inj H0
    try simp only [thenL, blockL]
    exact fin_au _ (.inr rfl) [] (⟨39, mkS [(6, .x (.one (.ptr 106 0))), (7, .x (.one (.p (pi (6 : Int)))))], mkH [(106, .var [.p (pi (0 : Int)), .p (pi (0 : Int))])]⟩) rfl rfl imp_au
  · intro b_1
    replace H0 := cneg H0 b_1
    refine lok_skip ?_
    try simp only [thenL, blockL, ↓reduceIte, reduceCtorEq]
    refine lok_rt E0 (⟨39, mkS [(0, .x (.one (.p (.val (.bool neg))))), (5, .x (.one (.ptr 105 0))), (6, .x (.one (.ptr 106 0))), (8, .x (.one (.p (pi (IntKind.i64.wrap num.lo)))))], mkH [(105, .var [.p (.val (.int .u64 den.hi)), .p (.val (.int .u64 den.lo))]), (106, .var [.p (pi (0 : Int)), .p (pi (0 : Int))])]⟩) ?_
    refine lok_join (fun x_ : Int => ratio_fitted_j1 den x_ = some r_) (fun x_ => ⟨39, mkS [(5, .x (.one (.ptr 105 0))), (6, .x (.one (.ptr 106 0))), (8, .x (.one (.p (pi x_))))], mkH [(105, .var [.p (.val (.int .u64 den.hi)), .p (.val (.int .u64 den.lo))]), (106, .var [.p (pi (0 : Int)), .p (pi (0 : Int))])]⟩) ?hyratio_fitted_j1 ?hxratio_fitted_j1
    case hyratio_fitted_j1 =>
      rintro n H0
      try dsimp only at H0 ⊢
      unfold ratio_fitted_j1 at H0
      refine lok_rt E0 (⟨39, mkS [(6, .x (.one (.ptr 106 0))), (7, .x (.one (.p (pi (0 : Int)))))], mkH [(106, .var [.p (pi n), .p (pi (IntKind.i64.wrap den.lo))])]⟩) ?_
      refine lok_ret ?_
      obtain rfl := Option.some.inj H0
      try simp only [thenL, blockL]
      exact fin_au _ (.inr rfl) [] (⟨39, mkS [(6, .x (.one (.ptr 106 0))), (7, .x (.one (.p (pi (0 : Int)))))], mkH [(106, .var [.p (pi n), .p (pi (IntKind.i64.wrap den.lo))])]⟩) rfl rfl imp_au
    case hxratio_fitted_j1 =>
      refine lok_rt E0 (⟨39, mkS [(5, .x (.one (.ptr 105 0))), (6, .x (.one (.ptr 106 0))), (8, .x (.one (.p (pi (IntKind.i64.wrap num.lo))))), (31, .x (.one (.p (.val (.bool neg)))))], mkH [(105, .var [.p (.val (.int .u64 den.hi)), .p (.val (.int .u64 den.lo))]), (106, .var [.p (pi (0 : Int)), .p (pi (0 : Int))])]⟩) ?_
      refine lok_c neg ?_ ?_
      · intro b_0
        replace H0 := cpos H0 b_0
        refine lok_rl E0 (⟨39, mkS [(5, .x (.one (.ptr 105 0))), (6, .x (.one (.ptr 106 0))), (8, .x (.one (.p (pi (IntKind.i64.wrap (0 - (IntKind.i64.wrap num.lo)))))))], mkH [(105, .var [.p (.val (.int .u64 den.hi)), .p (.val (.int .u64 den.lo))]), (106, .var [.p (pi (0 : Int)), .p (pi (0 : Int))])]⟩) ?_
        try simp only [thenL, blockL, ↓reduceIte, reduceCtorEq]
        exact ⟨(IntKind.i64.wrap (0 - (IntKind.i64.wrap num.lo))), H0, imp_au⟩
      · intro b_0
        replace H0 := cneg H0 b_0
        refine lok_skip ?_
        try simp only [thenL, blockL, ↓reduceIte, reduceCtorEq]
        exact ⟨(IntKind.i64.wrap num.lo), H0, imp_au⟩
theorem ok_ratio_wide_over (a : ratio_wide) (d : Int) (r_ : ratio_wide) (H0 : ratio_wide_over a d = some r_) : CallOK Try.prog 68 [.agg [.p (.val (.int .u64 a.hi)), .p (.val (.int .u64 a.lo))], .one (.p (.val (.int .u64 d)))] [] [.agg [.p (.val (.int .u64 r_.hi)), .p (.val (.int .u64 r_.lo))]] [] := by
  refine callOK (n := 28) (rs := [.cell 4 76]) (nb := 0) (V := []) Try.func68 rfl (by kernel_rfl) rfl rfl rfl rfl (Nat.le_of_ble_eq_true rfl) (by decide) ?_
  unfold ratio_wide_over at H0
  refine lok_rt E0 (⟨28, mkS [(1, .x (.one (.p (.val (.int .u64 d))))), (2, .x (.one (.ptr 102 0))), (4, .x (.one (.ptr 104 0)))], mkH [(102, .var [.p (.val (.int .u64 a.hi)), .p (.val (.int .u64 a.lo))]), (104, .var [.p (.val (.int .u64 (0 : Int))), .p (.val (.int .u64 (0 : Int)))])]⟩) ?_
  replace H0 := req_some H0
  obtain ⟨q_1, H0⟩ := H0
  refine lok_dt E0 9 (⟨28, mkS [(1, .x (.one (.p (.val (.int .u64 d))))), (2, .x (.one (.ptr 102 0))), (4, .x (.one (.ptr 104 0))), (5, .x (.one (.p (.val (.int .u64 (IntKind.u64.wrap (Int.tdiv a.hi d))))))), (6, .x (.one (.p (.val (.int .u64 (Int.tmod a.hi d))))))], mkH [(102, .var [.p (.val (.int .u64 a.hi)), .p (.val (.int .u64 a.lo))]), (104, .var [.p (.val (.int .u64 (0 : Int))), .p (.val (.int .u64 (0 : Int)))])]⟩) (by kernel_rfl) (by kernel_rfl) ?_
  replace H0 := bind_some H0
  obtain ⟨⟨y, y1⟩, h_0, H0⟩ := H0
  try dsimp only at H0
  refine lok_rt (Env.of E0 [⟨some 22, 75, [.one (.p (.val (.int .u64 (Int.tmod a.hi d)))), .one (.p (.val (.int .u64 a.lo))), .one (.p (.val (.int .u64 d)))], [], [.one (.p (.val (.int .u64 y))), .one (.p (.val (.int .u64 y1)))], [], True, fun _ => ok_bits_Div64 (Int.tmod a.hi d) a.lo d (y, y1) h_0, []⟩]) (⟨28, mkS [(4, .x (.one (.ptr 104 0))), (5, .x (.one (.p (.val (.int .u64 (IntKind.u64.wrap (Int.tdiv a.hi d))))))), (7, .x (.one (.p (.val (.int .u64 y)))))], mkH [(104, .var [.p (.val (.int .u64 (0 : Int))), .p (.val (.int .u64 (0 : Int)))])]⟩) ?_
  refine lok_rt E0 (⟨28, mkS [(4, .x (.one (.ptr 104 0)))], mkH [(104, .var [.p (.val (.int .u64 (IntKind.u64.wrap (Int.tdiv a.hi d)))), .p (.val (.int .u64 y))])]⟩) ?_
  refine lok_ret ?_
  obtain rfl := Option.some.inj H0
  try simp only [thenL, blockL]
  exact fin_au _ (.inr rfl) [] (⟨28, mkS [(4, .x (.one (.ptr 104 0)))], mkH [(104, .var [.p (.val (.int .u64 (IntKind.u64.wrap (Int.tdiv a.hi d)))), .p (.val (.int .u64 y))])]⟩) rfl rfl imp_au
theorem ok_ratio_reduced (num : ratio_signed) (den : Int) (r_ : api_Ratio × Int) (H0 : ratio_reduced num den = some r_) : CallOK Try.prog 58 [.agg [.p (.val (.bool num.neg)), .p (.val (.int .u64 num.abs.hi)), .p (.val (.int .u64 num.abs.lo))], .one (.p (.val (.int .u64 den)))] [] [.agg [.p (pi r_.1.Num), .p (pi r_.1.Den)], .one (.p (pi r_.2))] [] := by
  refine callOK (n := 26) (rs := [.cell 4 31, .tmp 5]) (nb := 0) (V := []) Try.func58 rfl (by kernel_rfl) rfl rfl rfl rfl (Nat.le_of_ble_eq_true rfl) (by decide) ?_
  unfold ratio_reduced at H0
  refine lok_rt E0 (⟨26, mkS [(1, .x (.one (.p (.val (.int .u64 den))))), (2, .x (.one (.ptr 102 0))), (4, .x (.one (.ptr 104 0)))], mkH [(102, .var [.p (.val (.bool num.neg)), .p (.val (.int .u64 num.abs.hi)), .p (.val (.int .u64 num.abs.lo))]), (104, .var [.p (pi (0 : Int)), .p (pi (0 : Int))])]⟩) ?_
  replace H0 := bind_some H0
  obtain ⟨y, h_0, H0⟩ := H0
  replace H0 := bind_some H0
  obtain ⟨y1, h_1, H0⟩ := H0
  refine lok_rt (Env.of E0 [⟨some 10, 66, [.agg [.p (.val (.int .u64 num.abs.hi)), .p (.val (.int .u64 num.abs.lo))], .one (.p (.val (.int .u64 den)))], [], [.one (.p (.val (.int .u64 y)))], [], True, fun _ => ok_ratio_wide_mod num.abs den y h_0, []⟩,
      ⟨some 12, 56, [.one (.p (.val (.int .u64 y))), .one (.p (.val (.int .u64 den)))], [], [.one (.p (.val (.int .u64 y1)))], [], True, fun _ => ok_ratio_gcd y den y1 h_1, []⟩]) (⟨26, mkS [(1, .x (.one (.p (.val (.int .u64 den))))), (2, .x (.one (.ptr 102 0))), (4, .x (.one (.ptr 104 0))), (6, .x (.one (.p (.val (.int .u64 y1)))))], mkH [(102, .var [.p (.val (.bool num.neg)), .p (.val (.int .u64 num.abs.hi)), .p (.val (.int .u64 num.abs.lo))]), (104, .var [.p (pi (0 : Int)), .p (pi (0 : Int))])]⟩) ?_
  replace H0 := bind_some H0
  obtain ⟨y2, h_2, H0⟩ := H0
  replace H0 := req_some H0
  obtain ⟨q_4, H0⟩ := H0
  replace H0 := bind_some H0
  obtain ⟨⟨y3, y4⟩, h_3, H0⟩ := H0
  try dsimp only at H0
  refine lok_dt (Env.of E0 [⟨some 18, 68, [.agg [.p (.val (.int .u64 num.abs.hi)), .p (.val (.int .u64 num.abs.lo))], .one (.p (.val (.int .u64 y1)))], [], [.agg [.p (.val (.int .u64 y2.hi)), .p (.val (.int .u64 y2.lo))]], [], True, fun _ => ok_ratio_wide_over num.abs y1 y2 h_2, []⟩,
      ⟨some 23, 67, [.one (.p (.val (.bool num.neg))), .agg [.p (.val (.int .u64 y2.hi)), .p (.val (.int .u64 y2.lo))], .agg [.p (.val (.int .u64 (0 : Int))), .p (.val (.int .u64 (IntKind.u64.wrap (Int.tdiv den y1))))]], [], [.agg [.p (pi y3.Num), .p (pi y3.Den)], .one (.p (pi y4))], [], True, fun _ => ok_ratio_fitted num.neg y2 (ratio_wide.mk (0 : Int) (IntKind.u64.wrap (Int.tdiv den y1))) (y3, y4) h_3, []⟩]) 13 (⟨26, mkS [(4, .x (.one (.ptr 104 0))), (5, .x (.one (.p (pi y4))))], mkH [(104, .var [.p (pi y3.Num), .p (pi y3.Den)])]⟩) (by kernel_rfl) (by kernel_rfl) ?_
  refine lok_ret ?_
  obtain rfl := Option.some.inj H0
  try simp only [thenL, blockL]
  exact fin_au _ (.inr rfl) [] (⟨26, mkS [(4, .x (.one (.ptr 104 0))), (5, .x (.one (.p (pi y4))))], mkH [(104, .var [.p (pi y3.Num), .p (pi y3.Den)])]⟩) rfl rfl imp_au
theorem ok_ratio_New (num : Int) (den : Int) (r_ : api_Ratio × Int) (H0 : ratio_New num den = some r_) : CallOK Try.prog 45 [.one (.p (pi num)), .one (.p (pi den))] [] [.agg [.p (pi r_.1.Num), .p (pi r_.1.Den)], .one (.p (pi r_.2))] [] := by
  refine callOK (n := 25) (rs := [.cell 4 31, .tmp 5]) (nb := 0) (V := []) Try.func45 rfl (by kernel_rfl) rfl rfl rfl rfl (Nat.le_of_ble_eq_true rfl) (by decide) ?_
  unfold ratio_New at H0
  refine lok_rt E0 (⟨25, mkS [(0, .x (.one (.p (pi num)))), (1, .x (.one (.p (pi den)))), (4, .x (.one (.ptr 104 0)))], mkH [(104, .var [.p (pi (0 : Int)), .p (pi (0 : Int))])]⟩) ?_
  refine lok_seq ?_
  refine lok_rt E0 (⟨25, mkS [(0, .x (.one (.p (pi num)))), (1, .x (.one (.p (pi den)))), (4, .x (.one (.ptr 104 0))), (8, .x (.one (.p (.val (.bool (den == (0 : Int)))))))], mkH [(104, .var [.p (pi (0 : Int)), .p (pi (0 : Int))])]⟩) ?_
  refine lok_c (den == (0 : Int)) ?_ ?_
  · intro b_3
    replace H0 := cpos H0 b_3
    refine lok_rt E0 (⟨25, mkS [(4, .x (.one (.ptr 104 0))), (5, .x (.one (.p (pi (2 : Int)))))], mkH [(104, .var [.p (pi (0 : Int)), .p (pi (0 : Int))])]⟩) ?_
    refine lok_ret ?_
    obtain rfl := Option.some.inj H0
    try simp only [thenL, blockL]
    exact fin_au _ (.inr rfl) [] (⟨25, mkS [(4, .x (.one (.ptr 104 0))), (5, .x (.one (.p (pi (2 : Int)))))], mkH [(104, .var [.p (pi (0 : Int)), .p (pi (0 : Int))])]⟩) rfl rfl imp_au
  · intro b_3
    replace H0 := cneg H0 b_3
    refine lok_skip ?_
    try simp only [thenL, blockL, ↓reduceIte, reduceCtorEq]
    refine lok_rt E0 (⟨25, mkS [(0, .x (.one (.p (pi num)))), (1, .x (.one (.p (pi den)))), (4, .x (.one (.ptr 104 0))), (6, .x (.one (.p (.val (.bool (!((decide (num < (0 : Int))) == (decide (den < (0 : Int))))))))))], mkH [(104, .var [.p (pi (0 : Int)), .p (pi (0 : Int))])]⟩) ?_
    replace H0 := bind_some H0
    obtain ⟨y, h_0, H0⟩ := H0
    replace H0 := bind_some H0
    obtain ⟨y1, h_1, H0⟩ := H0
    replace H0 := bind_some H0
    obtain ⟨⟨y2, y3⟩, h_2, H0⟩ := H0
    try dsimp only at H0
    refine lok_rt (Env.of E0 [⟨some 17, 57, [.one (.p (pi num))], [], [.one (.p (.val (.int .u64 y)))], [], True, fun _ => ok_ratio_magnitude num y h_0, []⟩,
      ⟨some 21, 57, [.one (.p (pi den))], [], [.one (.p (.val (.int .u64 y1)))], [], True, fun _ => ok_ratio_magnitude den y1 h_1, []⟩,
      ⟨some 22, 58, [.agg [.p (.val (.bool (!((decide (num < (0 : Int))) == (decide (den < (0 : Int))))))), .p (.val (.int .u64 (0 : Int))), .p (.val (.int .u64 y))], .one (.p (.val (.int .u64 y1)))], [], [.agg [.p (pi y2.Num), .p (pi y2.Den)], .one (.p (pi y3))], [], True, fun _ => ok_ratio_reduced (ratio_signed.mk (!((decide (num < (0 : Int))) == (decide (den < (0 : Int))))) (ratio_wide.mk (0 : Int) y)) y1 (y2, y3) h_2, []⟩]) (⟨25, mkS [(4, .x (.one (.ptr 104 0))), (5, .x (.one (.p (pi y3))))], mkH [(104, .var [.p (pi y2.Num), .p (pi y2.Den)])]⟩) ?_
    refine lok_ret ?_
    obtain rfl := Option.some.inj H0
    try simp only [thenL, blockL]
    exact fin_au _ (.inr rfl) [] (⟨25, mkS [(4, .x (.one (.ptr 104 0))), (5, .x (.one (.p (pi y3))))], mkH [(104, .var [.p (pi y2.Num), .p (pi y2.Den)])]⟩) rfl rfl imp_au
theorem ok_bits_Mul64 (x : Int) (y : Int) (r_ : Int × Int) (H0 : bits_Mul64 x y = some r_) : CallOK Try.prog 72 [.one (.p (.val (.int .u64 x))), .one (.p (.val (.int .u64 y)))] [] [.one (.p (.val (.int .u64 r_.1))), .one (.p (.val (.int .u64 r_.2)))] [] := by
  refine callOK (n := 51) (rs := [.tmp 4, .tmp 5]) (nb := 0) (V := []) Try.func72 rfl (by kernel_rfl) rfl rfl rfl rfl (Nat.le_of_ble_eq_true rfl) (by decide) ?_
  unfold bits_Mul64 at H0
  refine lok_rt E0 (⟨51, mkS [(0, .x (.one (.p (.val (.int .u64 x))))), (1, .x (.one (.p (.val (.int .u64 y)))))], mkH []⟩) ?_
  refine lok_rt E0 (⟨51, mkS [(0, .x (.one (.p (.val (.int .u64 x))))), (1, .x (.one (.p (.val (.int .u64 y))))), (6, .x (.one (.p (.val (.int .u64 (bAnd .u64 x (4294967295 : Int)))))))], mkH []⟩) ?_
  refine lok_rt E0 (⟨51, mkS [(0, .x (.one (.p (.val (.int .u64 x))))), (1, .x (.one (.p (.val (.int .u64 y))))), (6, .x (.one (.p (.val (.int .u64 (bAnd .u64 x (4294967295 : Int))))))), (7, .x (.one (.p (.val (.int .u64 (bShr .u64 x (32 : Int)))))))], mkH []⟩) ?_
  refine lok_rt E0 (⟨51, mkS [(0, .x (.one (.p (.val (.int .u64 x))))), (1, .x (.one (.p (.val (.int .u64 y))))), (6, .x (.one (.p (.val (.int .u64 (bAnd .u64 x (4294967295 : Int))))))), (7, .x (.one (.p (.val (.int .u64 (bShr .u64 x (32 : Int))))))), (8, .x (.one (.p (.val (.int .u64 (bAnd .u64 y (4294967295 : Int)))))))], mkH []⟩) ?_
  refine lok_rt E0 (⟨51, mkS [(0, .x (.one (.p (.val (.int .u64 x))))), (1, .x (.one (.p (.val (.int .u64 y))))), (6, .x (.one (.p (.val (.int .u64 (bAnd .u64 x (4294967295 : Int))))))), (7, .x (.one (.p (.val (.int .u64 (bShr .u64 x (32 : Int))))))), (8, .x (.one (.p (.val (.int .u64 (bAnd .u64 y (4294967295 : Int))))))), (9, .x (.one (.p (.val (.int .u64 (bShr .u64 y (32 : Int)))))))], mkH []⟩) ?_
  replace H0 := bindV_some H0
  obtain ⟨w0, a_0, H0⟩ := H0
  refine lok_rtg E0 a_0 (⟨51, mkS [(0, .x (.one (.p (.val (.int .u64 x))))), (1, .x (.one (.p (.val (.int .u64 y))))), (6, .x (.one (.p (.val (.int .u64 (bAnd .u64 x (4294967295 : Int))))))), (7, .x (.one (.p (.val (.int .u64 (bShr .u64 x (32 : Int))))))), (8, .x (.one (.p (.val (.int .u64 (bAnd .u64 y (4294967295 : Int))))))), (9, .x (.one (.p (.val (.int .u64 (bShr .u64 y (32 : Int))))))), (10, .x (.one (.p (.val (.int .u64 w0)))))], mkH []⟩) ?_
  replace H0 := bindV_some H0
  obtain ⟨t, a_1, H0⟩ := H0
  refine lok_rtg E0 a_1 (⟨51, mkS [(0, .x (.one (.p (.val (.int .u64 x))))), (1, .x (.one (.p (.val (.int .u64 y))))), (6, .x (.one (.p (.val (.int .u64 (bAnd .u64 x (4294967295 : Int))))))), (7, .x (.one (.p (.val (.int .u64 (bShr .u64 x (32 : Int))))))), (9, .x (.one (.p (.val (.int .u64 (bShr .u64 y (32 : Int))))))), (11, .x (.one (.p (.val (.int .u64 t)))))], mkH []⟩) ?_
  refine lok_rt E0 (⟨51, mkS [(0, .x (.one (.p (.val (.int .u64 x))))), (1, .x (.one (.p (.val (.int .u64 y))))), (6, .x (.one (.p (.val (.int .u64 (bAnd .u64 x (4294967295 : Int))))))), (7, .x (.one (.p (.val (.int .u64 (bShr .u64 x (32 : Int))))))), (9, .x (.one (.p (.val (.int .u64 (bShr .u64 y (32 : Int))))))), (11, .x (.one (.p (.val (.int .u64 t))))), (12, .x (.one (.p (.val (.int .u64 (bAnd .u64 t (4294967295 : Int)))))))], mkH []⟩) ?_
  refine lok_rt E0 (⟨51, mkS [(0, .x (.one (.p (.val (.int .u64 x))))), (1, .x (.one (.p (.val (.int .u64 y))))), (6, .x (.one (.p (.val (.int .u64 (bAnd .u64 x (4294967295 : Int))))))), (7, .x (.one (.p (.val (.int .u64 (bShr .u64 x (32 : Int))))))), (9, .x (.one (.p (.val (.int .u64 (bShr .u64 y (32 : Int))))))), (12, .x (.one (.p (.val (.int .u64 (bAnd .u64 t (4294967295 : Int))))))), (13, .x (.one (.p (.val (.int .u64 (bShr .u64 t (32 : Int)))))))], mkH []⟩) ?_
  replace H0 := bindV_some H0
  obtain ⟨w1, a_2, H0⟩ := H0
  refine lok_rtg E0 a_2 (⟨51, mkS [(0, .x (.one (.p (.val (.int .u64 x))))), (1, .x (.one (.p (.val (.int .u64 y))))), (7, .x (.one (.p (.val (.int .u64 (bShr .u64 x (32 : Int))))))), (9, .x (.one (.p (.val (.int .u64 (bShr .u64 y (32 : Int))))))), (12, .x (.one (.p (.val (.int .u64 w1))))), (13, .x (.one (.p (.val (.int .u64 (bShr .u64 t (32 : Int)))))))], mkH []⟩) ?_
  replace H0 := bindV_some H0
  obtain ⟨hi, a_3, H0⟩ := H0
  refine lok_rtg E0 a_3 (⟨51, mkS [(0, .x (.one (.p (.val (.int .u64 x))))), (1, .x (.one (.p (.val (.int .u64 y))))), (4, .x (.one (.p (.val (.int .u64 hi)))))], mkH []⟩) ?_
  refine lok_rt E0 (⟨51, mkS [(4, .x (.one (.p (.val (.int .u64 hi))))), (5, .x (.one (.p (.val (.int .u64 (IntKind.u64.wrap (x * y)))))))], mkH []⟩) ?_
  refine lok_ret ?_
  obtain rfl := Option.some.inj H0
  try simp only [thenL, blockL]
  exact fin_au _ (.inr rfl) [] (⟨51, mkS [(4, .x (.one (.p (.val (.int .u64 hi))))), (5, .x (.one (.p (.val (.int .u64 (IntKind.u64.wrap (x * y)))))))], mkH []⟩) rfl rfl imp_au
theorem ok_ratio_product (a : Int) (b : Int) (r_ : ratio_wide) (H0 : ratio_product a b = some r_) : CallOK Try.prog 69 [.one (.p (.val (.int .u64 a))), .one (.p (.val (.int .u64 b)))] [] [.agg [.p (.val (.int .u64 r_.hi)), .p (.val (.int .u64 r_.lo))]] [] := by
  refine callOK (n := 16) (rs := [.cell 4 76]) (nb := 0) (V := []) Try.func69 rfl (by kernel_rfl) rfl rfl rfl rfl (Nat.le_of_ble_eq_true rfl) (by decide) ?_
  unfold ratio_product at H0
  refine lok_rt E0 (⟨16, mkS [(0, .x (.one (.p (.val (.int .u64 a))))), (1, .x (.one (.p (.val (.int .u64 b))))), (4, .x (.one (.ptr 104 0)))], mkH [(104, .var [.p (.val (.int .u64 (0 : Int))), .p (.val (.int .u64 (0 : Int)))])]⟩) ?_
  replace H0 := bind_some H0
  obtain ⟨⟨y, y1⟩, h_0, H0⟩ := H0
  try dsimp only at H0
  refine lok_rt (Env.of E0 [⟨some 10, 72, [.one (.p (.val (.int .u64 a))), .one (.p (.val (.int .u64 b)))], [], [.one (.p (.val (.int .u64 y))), .one (.p (.val (.int .u64 y1)))], [], True, fun _ => ok_bits_Mul64 a b (y, y1) h_0, []⟩]) (⟨16, mkS [(4, .x (.one (.ptr 104 0))), (5, .x (.one (.p (.val (.int .u64 y))))), (6, .x (.one (.p (.val (.int .u64 y1)))))], mkH [(104, .var [.p (.val (.int .u64 (0 : Int))), .p (.val (.int .u64 (0 : Int)))])]⟩) ?_
  refine lok_rt E0 (⟨16, mkS [(4, .x (.one (.ptr 104 0)))], mkH [(104, .var [.p (.val (.int .u64 y)), .p (.val (.int .u64 y1))])]⟩) ?_
  refine lok_ret ?_
  obtain rfl := Option.some.inj H0
  try simp only [thenL, blockL]
  exact fin_au _ (.inr rfl) [] (⟨16, mkS [(4, .x (.one (.ptr 104 0)))], mkH [(104, .var [.p (.val (.int .u64 y)), .p (.val (.int .u64 y1))])]⟩) rfl rfl imp_au
theorem ok_ratio_signedProduct (num : Int) (factor : Int) (r_ : ratio_signed) (H0 : ratio_signedProduct num factor = some r_) : CallOK Try.prog 59 [.one (.p (pi num)), .one (.p (.val (.int .u64 factor)))] [] [.agg [.p (.val (.bool r_.neg)), .p (.val (.int .u64 r_.abs.hi)), .p (.val (.int .u64 r_.abs.lo))]] [] := by
  refine callOK (n := 12) (rs := [.cell 4 78]) (nb := 0) (V := []) Try.func59 rfl (by kernel_rfl) rfl rfl rfl rfl (Nat.le_of_ble_eq_true rfl) (by decide) ?_
  unfold ratio_signedProduct at H0
  refine lok_rt E0 (⟨12, mkS [(0, .x (.one (.p (pi num)))), (1, .x (.one (.p (.val (.int .u64 factor))))), (4, .x (.one (.ptr 104 0)))], mkH [(104, .var [.p (.val (.bool false)), .p (.val (.int .u64 (0 : Int))), .p (.val (.int .u64 (0 : Int)))])]⟩) ?_
  replace H0 := bind_some H0
  obtain ⟨y, h_0, H0⟩ := H0
  replace H0 := bind_some H0
  obtain ⟨y1, h_1, H0⟩ := H0
  refine lok_rt (Env.of E0 [⟨some 8, 57, [.one (.p (pi num))], [], [.one (.p (.val (.int .u64 y)))], [], True, fun _ => ok_ratio_magnitude num y h_0, []⟩,
      ⟨some 10, 69, [.one (.p (.val (.int .u64 y))), .one (.p (.val (.int .u64 factor)))], [], [.agg [.p (.val (.int .u64 y1.hi)), .p (.val (.int .u64 y1.lo))]], [], True, fun _ => ok_ratio_product y factor y1 h_1, []⟩]) (⟨12, mkS [(4, .x (.one (.ptr 104 0)))], mkH [(104, .var [.p (.val (.bool (decide (num < (0 : Int))))), .p (.val (.int .u64 y1.hi)), .p (.val (.int .u64 y1.lo))])]⟩) ?_
  refine lok_ret ?_
  obtain rfl := Option.some.inj H0
  try simp only [thenL, blockL]
  exact fin_au _ (.inr rfl) [] (⟨12, mkS [(4, .x (.one (.ptr 104 0)))], mkH [(104, .var [.p (.val (.bool (decide (num < (0 : Int))))), .p (.val (.int .u64 y1.hi)), .p (.val (.int .u64 y1.lo))])]⟩) rfl rfl imp_au
theorem ok_cmp_isNaN_uint64 (x : Int) (r_ : Bool) (H0 : cmp_isNaN_uint64 x = some r_) : CallOK Try.prog 76 [.one (.p (.val (.int .u64 x)))] [] [.one (.p (.val (.bool r_)))] [] := by
  refine callOK (n := 6) (rs := [.tmp 2]) (nb := 0) (V := []) Try.func76 rfl (by kernel_rfl) rfl rfl rfl rfl (Nat.le_of_ble_eq_true rfl) (by decide) ?_
  unfold cmp_isNaN_uint64 at H0
  refine lok_rt E0 (⟨6, mkS [(0, .x (.one (.p (.val (.int .u64 x)))))], mkH []⟩) ?_
  refine lok_rt E0 (⟨6, mkS [(2, .x (.one (.p (.val (.bool (x != x))))))], mkH []⟩) ?_
  refine lok_ret ?_
  obtain rfl := Option.some.inj H0
  try simp only [thenL, blockL]
  exact fin_au _ (.inr rfl) [] (⟨6, mkS [(2, .x (.one (.p (.val (.bool (x != x))))))], mkH []⟩) rfl rfl imp_au
theorem ok_cmp_Compare_uint64 (x : Int) (y : Int) (r_ : Int) (H0 : cmp_Compare_uint64 x y = some r_) : CallOK Try.prog 70 [.one (.p (.val (.int .u64 x))), .one (.p (.val (.int .u64 y)))] [] [.one (.p (pi r_))] [] := by
  refine callOK (n := 20) (rs := [.tmp 4]) (nb := 0) (V := []) Try.func70 rfl (by kernel_rfl) rfl rfl rfl rfl (Nat.le_of_ble_eq_true rfl) (by decide) ?_
  unfold cmp_Compare_uint64 at H0
  refine lok_rt E0 (⟨20, mkS [(0, .x (.one (.p (.val (.int .u64 x))))), (1, .x (.one (.p (.val (.int .u64 y)))))], mkH []⟩) ?_
  replace H0 := bind_some H0
  obtain ⟨y1, h_0, H0⟩ := H0
  refine lok_rt (Env.of E0 [⟨some 8, 76, [.one (.p (.val (.int .u64 x)))], [], [.one (.p (.val (.bool y1)))], [], True, fun _ => ok_cmp_isNaN_uint64 x y1 h_0, []⟩]) (⟨20, mkS [(0, .x (.one (.p (.val (.int .u64 x))))), (1, .x (.one (.p (.val (.int .u64 y))))), (5, .x (.one (.p (.val (.bool y1)))))], mkH []⟩) ?_
  replace H0 := bind_some H0
  obtain ⟨y2, h_1, H0⟩ := H0
  refine lok_rt (Env.of E0 [⟨some 10, 76, [.one (.p (.val (.int .u64 y)))], [], [.one (.p (.val (.bool y2)))], [], True, fun _ => ok_cmp_isNaN_uint64 y y2 h_1, []⟩]) (⟨20, mkS [(0, .x (.one (.p (.val (.int .u64 x))))), (1, .x (.one (.p (.val (.int .u64 y))))), (5, .x (.one (.p (.val (.bool y1))))), (6, .x (.one (.p (.val (.bool y2)))))], mkH []⟩) ?_
  refine lok_seq ?_
  refine lok_rt E0 (⟨20, mkS [(0, .x (.one (.p (.val (.int .u64 x))))), (1, .x (.one (.p (.val (.int .u64 y))))), (6, .x (.one (.p (.val (.bool y2))))), (11, .x (.one (.p (.val (.bool y1)))))], mkH []⟩) ?_
  refine lok_c y1 ?_ ?_
  · intro b_6
    replace H0 := cpos H0 b_6
    refine lok_seq ?_
    refine lok_rt E0 (⟨20, mkS [(12, .x (.one (.p (.val (.bool y2)))))], mkH []⟩) ?_
    refine lok_c y2 ?_ ?_
    · intro b_2
      replace H0 := cpos H0 b_2
      refine lok_rt E0 (⟨20, mkS [(4, .x (.one (.p (pi (0 : Int)))))], mkH []⟩) ?_
      refine lok_ret ?_
      obtain rfl := Option.some.inj H0
      try simp only [thenL, blockL]
      exact fin_au _ (.inr rfl) [] (⟨20, mkS [(4, .x (.one (.p (pi (0 : Int)))))], mkH []⟩) rfl rfl imp_au
    · intro b_2
      replace H0 := cneg H0 b_2
      refine lok_skip ?_
      try simp only [thenL, blockL, ↓reduceIte, reduceCtorEq]
      refine lok_rt E0 (⟨20, mkS [(4, .x (.one (.p (pi (-1 : Int)))))], mkH []⟩) ?_
      refine lok_ret ?_
      obtain rfl := Option.some.inj H0
      try simp only [thenL, blockL]
      exact fin_au _ (.inr rfl) [] (⟨20, mkS [(4, .x (.one (.p (pi (-1 : Int)))))], mkH []⟩) rfl rfl imp_au
  · intro b_6
    replace H0 := cneg H0 b_6
    refine lok_skip ?_
    try simp only [thenL, blockL, ↓reduceIte, reduceCtorEq]
    refine lok_seq ?_
    refine lok_rt E0 (⟨20, mkS [(0, .x (.one (.p (.val (.int .u64 x))))), (1, .x (.one (.p (.val (.int .u64 y))))), (13, .x (.one (.p (.val (.bool y2)))))], mkH []⟩) ?_
    refine lok_c y2 ?_ ?_
    · intro b_5
      replace H0 := cpos H0 b_5
      refine lok_rt E0 (⟨20, mkS [(4, .x (.one (.p (pi (1 : Int)))))], mkH []⟩) ?_
      refine lok_ret ?_
      obtain rfl := Option.some.inj H0
      try simp only [thenL, blockL]
      exact fin_au _ (.inr rfl) [] (⟨20, mkS [(4, .x (.one (.p (pi (1 : Int)))))], mkH []⟩) rfl rfl imp_au
    · intro b_5
      replace H0 := cneg H0 b_5
      refine lok_skip ?_
      try simp only [thenL, blockL, ↓reduceIte, reduceCtorEq]
      refine lok_seq ?_
      refine lok_rt E0 (⟨20, mkS [(0, .x (.one (.p (.val (.int .u64 x))))), (1, .x (.one (.p (.val (.int .u64 y))))), (16, .x (.one (.p (.val (.bool (decide (x < y)))))))], mkH []⟩) ?_
      refine lok_c (decide (x < y)) ?_ ?_
      · intro b_4
        replace H0 := cpos H0 b_4
        refine lok_rt E0 (⟨20, mkS [(4, .x (.one (.p (pi (-1 : Int)))))], mkH []⟩) ?_
        refine lok_ret ?_
        obtain rfl := Option.some.inj H0
        try simp only [thenL, blockL]
        exact fin_au _ (.inr rfl) [] (⟨20, mkS [(4, .x (.one (.p (pi (-1 : Int)))))], mkH []⟩) rfl rfl imp_au
      · intro b_4
        replace H0 := cneg H0 b_4
        refine lok_skip ?_
        try simp only [thenL, blockL, ↓reduceIte, reduceCtorEq]
        refine lok_seq ?_
        refine lok_rt E0 (⟨20, mkS [(19, .x (.one (.p (.val (.bool (decide (y < x)))))))], mkH []⟩) ?_
        refine lok_c (decide (y < x)) ?_ ?_
        · intro b_3
          replace H0 := cpos H0 b_3
          refine lok_rt E0 (⟨20, mkS [(4, .x (.one (.p (pi (1 : Int)))))], mkH []⟩) ?_
          refine lok_ret ?_
          obtain rfl := Option.some.inj H0
          try simp only [thenL, blockL]
          exact fin_au _ (.inr rfl) [] (⟨20, mkS [(4, .x (.one (.p (pi (1 : Int)))))], mkH []⟩) rfl rfl imp_au
        · intro b_3
          replace H0 := cneg H0 b_3
          refine lok_skip ?_
          try simp only [thenL, blockL, ↓reduceIte, reduceCtorEq]
          refine lok_rt E0 (⟨20, mkS [(4, .x (.one (.p (pi (0 : Int)))))], mkH []⟩) ?_
          refine lok_ret ?_
          obtain rfl := Option.some.inj H0
          try simp only [thenL, blockL]
          exact fin_au _ (.inr rfl) [] (⟨20, mkS [(4, .x (.one (.p (pi (0 : Int)))))], mkH []⟩) rfl rfl imp_au
theorem ok_ratio_wide_compare (a : ratio_wide) (b : ratio_wide) (r_ : Int) (H0 : ratio_wide_compare a b = some r_) : CallOK Try.prog 60 [.agg [.p (.val (.int .u64 a.hi)), .p (.val (.int .u64 a.lo))], .agg [.p (.val (.int .u64 b.hi)), .p (.val (.int .u64 b.lo))]] [] [.one (.p (pi r_))] [] := by
  refine callOK (n := 19) (rs := [.tmp 4]) (nb := 0) (V := []) Try.func60 rfl (by kernel_rfl) rfl rfl rfl rfl (Nat.le_of_ble_eq_true rfl) (by decide) ?_
  unfold ratio_wide_compare at H0
  refine lok_rt E0 (⟨19, mkS [(2, .x (.one (.ptr 102 0))), (3, .x (.one (.ptr 103 0)))], mkH [(102, .var [.p (.val (.int .u64 a.hi)), .p (.val (.int .u64 a.lo))]), (103, .var [.p (.val (.int .u64 b.hi)), .p (.val (.int .u64 b.lo))])]⟩) ?_
  refine lok_seq ?_
  replace H0 := bind_some H0
  obtain ⟨y, h_0, H0⟩ := H0
  refine lok_rt (Env.of E0 [⟨some 10, 70, [.one (.p (.val (.int .u64 a.hi))), .one (.p (.val (.int .u64 b.hi)))], [], [.one (.p (pi y))], [], True, fun _ => ok_cmp_Compare_uint64 a.hi b.hi y h_0, []⟩]) (⟨19, mkS [(2, .x (.one (.ptr 102 0))), (3, .x (.one (.ptr 103 0))), (5, .x (.one (.p (pi y))))], mkH [(102, .var [.p (.val (.int .u64 a.hi)), .p (.val (.int .u64 a.lo))]), (103, .var [.p (.val (.int .u64 b.hi)), .p (.val (.int .u64 b.lo))])]⟩) ?_
  refine lok_rt E0 (⟨19, mkS [(2, .x (.one (.ptr 102 0))), (3, .x (.one (.ptr 103 0))), (5, .x (.one (.p (pi y)))), (12, .x (.one (.p (.val (.bool (y != (0 : Int)))))))], mkH [(102, .var [.p (.val (.int .u64 a.hi)), .p (.val (.int .u64 a.lo))]), (103, .var [.p (.val (.int .u64 b.hi)), .p (.val (.int .u64 b.lo))])]⟩) ?_
  refine lok_c (y != (0 : Int)) ?_ ?_
  · intro b_2
    replace H0 := cpos H0 b_2
    refine lok_rt E0 (⟨19, mkS [(4, .x (.one (.p (pi y))))], mkH []⟩) ?_
    refine lok_ret ?_
    obtain rfl := Option.some.inj H0
    try simp only [thenL, blockL]
    exact fin_au _ (.inr rfl) [] (⟨19, mkS [(4, .x (.one (.p (pi y))))], mkH []⟩) rfl rfl imp_au
  · intro b_2
    replace H0 := cneg H0 b_2
    refine lok_skip ?_
    try simp only [thenL, blockL, ↓reduceIte, reduceCtorEq]
    replace H0 := bind_some H0
    obtain ⟨y1, h_1, H0⟩ := H0
    refine lok_rt (Env.of E0 [⟨some 18, 70, [.one (.p (.val (.int .u64 a.lo))), .one (.p (.val (.int .u64 b.lo)))], [], [.one (.p (pi y1))], [], True, fun _ => ok_cmp_Compare_uint64 a.lo b.lo y1 h_1, []⟩]) (⟨19, mkS [(4, .x (.one (.p (pi y1))))], mkH []⟩) ?_
    refine lok_ret ?_
    obtain rfl := Option.some.inj H0
    try simp only [thenL, blockL]
    exact fin_au _ (.inr rfl) [] (⟨19, mkS [(4, .x (.one (.p (pi y1))))], mkH []⟩) rfl rfl imp_au
set_option maxHeartbeats 4000000 in
theorem ok_ratio_Compare (a : api_Ratio) (b : api_Ratio) (r_ : Int) (H0 : ratio_Compare a b = some r_) : CallOK Try.prog 46 [.agg [.p (pi a.Num), .p (pi a.Den)], .agg [.p (pi b.Num), .p (pi b.Den)]] [] [.one (.p (pi r_))] [] := by
  refine callOK (n := 50) (rs := [.tmp 4]) (nb := 0) (V := []) Try.func46 rfl (by kernel_rfl) rfl rfl rfl rfl (Nat.le_of_ble_eq_true rfl) (by decide) ?_
  unfold ratio_Compare at H0
  refine lok_rt E0 (⟨50, mkS [(2, .x (.one (.ptr 102 0))), (3, .x (.one (.ptr 103 0)))], mkH [(102, .var [.p (pi a.Num), .p (pi a.Den)]), (103, .var [.p (pi b.Num), .p (pi b.Den)])]⟩) ?_
  refine lok_seq ?_
  replace H0 := bind_some H0
  obtain ⟨y, h_0, H0⟩ := H0
  replace H0 := req_some H0
  obtain ⟨q_9, H0⟩ := H0
  refine lok_rt (Env.of E0 [⟨some 8, 43, [.agg [.p (pi a.Num), .p (pi a.Den)]], [], [.one (.p (.val (.bool y)))], [], True, fun _ => ok_ratio_Valid a y h_0, []⟩,
      ⟨some 12, 43, [.agg [.p (pi b.Num), .p (pi b.Den)]], [], [.one (.p (.val (.bool ((ratio_Valid b).getD default))))], [], (ratio_Valid b).isSome = true, fun h => ok_ratio_Valid b _ (isSome_get h), []⟩]) (⟨50, mkS [(2, .x (.one (.ptr 102 0))), (3, .x (.one (.ptr 103 0))), (14, .x (.one (.p (.val (.bool ((!y) || (!((ratio_Valid b).getD default))))))))], mkH [(102, .var [.p (pi a.Num), .p (pi a.Den)]), (103, .var [.p (pi b.Num), .p (pi b.Den)])]⟩) ?_
  refine lok_c ((!y) || (!((ratio_Valid b).getD default))) ?_ ?_
  · intro b_8
    replace H0 := cpos H0 b_8
    refine lok_rt E0 (⟨50, mkS [(4, .x (.one (.p (pi (0 : Int)))))], mkH []⟩) ?_
    refine lok_ret ?_
    obtain rfl := Option.some.inj H0
    try simp only [thenL, blockL]
    exact fin_au _ (.inr rfl) [] (⟨50, mkS [(4, .x (.one (.p (pi (0 : Int)))))], mkH []⟩) rfl rfl imp_au
  · intro b_8
    replace H0 := cneg H0 b_8
    refine lok_skip ?_
    try simp only [thenL, blockL, ↓reduceIte, reduceCtorEq]
    replace H0 := bind_some H0
    obtain ⟨y1, h_1, H0⟩ := H0
    replace H0 := bind_some H0
    obtain ⟨y2, h_2, H0⟩ := H0
    refine lok_et (Env.of E0 [⟨some 20, 59, [.one (.p (pi a.Num)), .one (.p (.val (.int .u64 (IntKind.u64.wrap b.Den))))], [], [.agg [.p (.val (.bool y1.neg)), .p (.val (.int .u64 y1.abs.hi)), .p (.val (.int .u64 y1.abs.lo))]], [], True, fun _ => ok_ratio_signedProduct a.Num (IntKind.u64.wrap b.Den) y1 h_1, []⟩,
      ⟨some 26, 59, [.one (.p (pi b.Num)), .one (.p (.val (.int .u64 (IntKind.u64.wrap a.Den))))], [], [.agg [.p (.val (.bool y2.neg)), .p (.val (.int .u64 y2.abs.hi)), .p (.val (.int .u64 y2.abs.lo))]], [], True, fun _ => ok_ratio_signedProduct b.Num (IntKind.u64.wrap a.Den) y2 h_2, []⟩]) 50 [⟨[(2, .x (.one (.ptr 102 0)))], [], [(15, .x (.one (.ptr 102 0)))], [], none⟩,
      ⟨[(15, .x (.one (.ptr 102 0)))], [(102, some (.var [.p (pi a.Num), .p (pi a.Den)]))], [(16, .x (.one (.p (pi a.Num))))], [], none⟩,
      ⟨[(3, .x (.one (.ptr 103 0)))], [], [(17, .x (.one (.ptr 103 1)))], [], none⟩,
      ⟨[(17, .x (.one (.ptr 103 1)))], [(103, some (.var [.p (pi b.Num), .p (pi b.Den)]))], [(18, .x (.one (.p (pi b.Den))))], [], none⟩,
      ⟨[(18, .x (.one (.p (pi b.Den))))], [], [(19, .x (.one (.p (.val (.int .u64 (IntKind.u64.wrap b.Den))))))], [], none⟩,
      ⟨[(16, .x (.one (.p (pi a.Num)))), (19, .x (.one (.p (.val (.int .u64 (IntKind.u64.wrap b.Den))))))], [], [(20, .x (.agg [.p (.val (.bool y1.neg)), .p (.val (.int .u64 y1.abs.hi)), .p (.val (.int .u64 y1.abs.lo))]))], [], none⟩,
      ⟨[(3, .x (.one (.ptr 103 0)))], [], [(21, .x (.one (.ptr 103 0)))], [], none⟩,
      ⟨[(21, .x (.one (.ptr 103 0)))], [(103, some (.var [.p (pi b.Num), .p (pi b.Den)]))], [(22, .x (.one (.p (pi b.Num))))], [], none⟩,
      ⟨[(2, .x (.one (.ptr 102 0)))], [], [(23, .x (.one (.ptr 102 1)))], [], none⟩,
      ⟨[(23, .x (.one (.ptr 102 1)))], [(102, some (.var [.p (pi a.Num), .p (pi a.Den)]))], [(24, .x (.one (.p (pi a.Den))))], [], none⟩,
      ⟨[(24, .x (.one (.p (pi a.Den))))], [], [(25, .x (.one (.p (.val (.int .u64 (IntKind.u64.wrap a.Den))))))], [], none⟩,
      ⟨[(22, .x (.one (.p (pi b.Num)))), (25, .x (.one (.p (.val (.int .u64 (IntKind.u64.wrap a.Den))))))], [], [(26, .x (.agg [.p (.val (.bool y2.neg)), .p (.val (.int .u64 y2.abs.hi)), .p (.val (.int .u64 y2.abs.lo))]))], [], none⟩,
      ⟨[], [(105, none)], [(5, .x (.one (.ptr 105 0)))], [(105, some (.var [.p (.val (.bool false)), .p (.val (.int .u64 (0 : Int))), .p (.val (.int .u64 (0 : Int)))]))], some 105⟩,
      ⟨[], [(106, none)], [(6, .x (.one (.ptr 106 0)))], [(106, some (.var [.p (.val (.bool false)), .p (.val (.int .u64 (0 : Int))), .p (.val (.int .u64 (0 : Int)))]))], some 106⟩] (⟨50, mkS [(5, .x (.one (.ptr 105 0))), (6, .x (.one (.ptr 106 0)))], mkH [(105, .var [.p (.val (.bool y1.neg)), .p (.val (.int .u64 y1.abs.hi)), .p (.val (.int .u64 y1.abs.lo))]), (106, .var [.p (.val (.bool y2.neg)), .p (.val (.int .u64 y2.abs.hi)), .p (.val (.int .u64 y2.abs.lo))])]⟩) (by kernel_rfl) (by kernel_rfl) (by kernel_rfl) rfl rfl rfl ?_
    refine lok_seq ?_
    refine lok_block ?_
    refine lok_rt E0 (⟨50, mkS [(5, .x (.one (.ptr 105 0))), (6, .x (.one (.ptr 106 0))), (27, .x (.one (.p (.val (.bool (y1.neg && y2.neg))))))], mkH [(105, .var [.p (.val (.bool y1.neg)), .p (.val (.int .u64 y1.abs.hi)), .p (.val (.int .u64 y1.abs.lo))]), (106, .var [.p (.val (.bool y2.neg)), .p (.val (.int .u64 y2.abs.hi)), .p (.val (.int .u64 y2.abs.lo))])]⟩) ?_
    refine lok_c (y1.neg && y2.neg) ?_ ?_
    · intro b_7
      replace H0 := cpos H0 b_7
      replace H0 := bind_some H0
      obtain ⟨y3, h_3, H0⟩ := H0
      refine lok_rt (Env.of E0 [⟨some 38, 60, [.agg [.p (.val (.int .u64 y2.abs.hi)), .p (.val (.int .u64 y2.abs.lo))], .agg [.p (.val (.int .u64 y1.abs.hi)), .p (.val (.int .u64 y1.abs.lo))]], [], [.one (.p (pi y3))], [], True, fun _ => ok_ratio_wide_compare y2.abs y1.abs y3 h_3, []⟩]) (⟨50, mkS [(4, .x (.one (.p (pi y3))))], mkH []⟩) ?_
      refine lok_ret ?_
      obtain rfl := Option.some.inj H0
      try simp only [thenL, blockL]
      exact fin_au _ (.inr rfl) [] (⟨50, mkS [(4, .x (.one (.p (pi y3))))], mkH []⟩) rfl rfl imp_au
    · intro b_7
      replace H0 := cneg H0 b_7
      refine lok_rt E0 (⟨50, mkS [(5, .x (.one (.ptr 105 0))), (6, .x (.one (.ptr 106 0))), (39, .x (.one (.p (.val (.bool y1.neg)))))], mkH [(105, .var [.p (.val (.bool y1.neg)), .p (.val (.int .u64 y1.abs.hi)), .p (.val (.int .u64 y1.abs.lo))]), (106, .var [.p (.val (.bool y2.neg)), .p (.val (.int .u64 y2.abs.hi)), .p (.val (.int .u64 y2.abs.lo))])]⟩) ?_
      refine lok_c y1.neg ?_ ?_
      · intro b_6
        replace H0 := cpos H0 b_6
        refine lok_rt E0 (⟨50, mkS [(4, .x (.one (.p (pi (-1 : Int)))))], mkH []⟩) ?_
        refine lok_ret ?_
        obtain rfl := Option.some.inj H0
        try simp only [thenL, blockL]
        exact fin_au _ (.inr rfl) [] (⟨50, mkS [(4, .x (.one (.p (pi (-1 : Int)))))], mkH []⟩) rfl rfl imp_au
      · intro b_6
        replace H0 := cneg H0 b_6
        refine lok_rt E0 (⟨50, mkS [(5, .x (.one (.ptr 105 0))), (6, .x (.one (.ptr 106 0))), (42, .x (.one (.p (.val (.bool y2.neg)))))], mkH [(105, .var [.p (.val (.bool y1.neg)), .p (.val (.int .u64 y1.abs.hi)), .p (.val (.int .u64 y1.abs.lo))]), (106, .var [.p (.val (.bool y2.neg)), .p (.val (.int .u64 y2.abs.hi)), .p (.val (.int .u64 y2.abs.lo))])]⟩) ?_
        refine lok_c y2.neg ?_ ?_
        · intro b_5
          replace H0 := cpos H0 b_5
          refine lok_rt E0 (⟨50, mkS [(4, .x (.one (.p (pi (1 : Int)))))], mkH []⟩) ?_
          refine lok_ret ?_
          obtain rfl := Option.some.inj H0
          try simp only [thenL, blockL]
          exact fin_au _ (.inr rfl) [] (⟨50, mkS [(4, .x (.one (.p (pi (1 : Int)))))], mkH []⟩) rfl rfl imp_au
        · intro b_5
          replace H0 := cneg H0 b_5
          refine lok_skip ?_
          try simp only [thenL, blockL, ↓reduceIte, reduceCtorEq]
          replace H0 := bind_some H0
          obtain ⟨y4, h_4, H0⟩ := H0
          refine lok_rt (Env.of E0 [⟨some 49, 60, [.agg [.p (.val (.int .u64 y1.abs.hi)), .p (.val (.int .u64 y1.abs.lo))], .agg [.p (.val (.int .u64 y2.abs.hi)), .p (.val (.int .u64 y2.abs.lo))]], [], [.one (.p (pi y4))], [], True, fun _ => ok_ratio_wide_compare y1.abs y2.abs y4 h_4, []⟩]) (⟨50, mkS [(4, .x (.one (.p (pi y4))))], mkH []⟩) ?_
          refine lok_ret ?_
          obtain rfl := Option.some.inj H0
          try simp only [thenL, blockL]
          exact fin_au _ (.inr rfl) [] (⟨50, mkS [(4, .x (.one (.p (pi y4))))], mkH []⟩) rfl rfl imp_au
set_option maxHeartbeats 4000000 in
theorem ok_distribution_Quantile (d : api_Distribution) (share : api_Ratio) (r_ : Int × Int) (H0 : distribution_Quantile d share = some r_) : CallOK Try.prog 14 [.agg [.p (.sl 1 (List.map encI d.Counts))], .agg [.p (pi share.Num), .p (pi share.Den)]] [] [.one (.p (pi r_.1)), .one (.p (pi r_.2))] [] := by
  refine callOK (n := 69) (rs := [.tmp 4, .tmp 5]) (nb := 0) (V := []) Try.func14 rfl (by kernel_rfl) rfl rfl rfl rfl (Nat.le_of_ble_eq_true rfl) (by decide) ?_
  unfold distribution_Quantile at H0
  refine lok_rt E0 (⟨69, mkS [(2, .x (.one (.ptr 102 0))), (3, .x (.one (.ptr 103 0)))], mkH [(102, .var [.p (.sl 1 (List.map encI d.Counts))]), (103, .var [.p (pi share.Num), .p (pi share.Den)])]⟩) ?_
  refine lok_seq ?_
  replace H0 := bind_some H0
  obtain ⟨y, h_0, H0⟩ := H0
  replace H0 := req_some H0
  obtain ⟨q_12, H0⟩ := H0
  refine lok_rt (Env.of E0 [⟨some 14, 28, [.agg [.p (.sl 1 (List.map encI d.Counts))]], [], [.one (.p (.val (.bool y)))], [], True, fun _ => ok_distribution_Valid d y h_0, []⟩,
      ⟨some 18, 43, [.agg [.p (pi share.Num), .p (pi share.Den)]], [], [.one (.p (.val (.bool ((ratio_Valid share).getD default))))], [], (ratio_Valid share).isSome = true, fun h => ok_ratio_Valid share _ (isSome_get h), []⟩]) (⟨69, mkS [(2, .x (.one (.ptr 102 0))), (3, .x (.one (.ptr 103 0))), (20, .x (.one (.p (.val (.bool ((!y) || (!((ratio_Valid share).getD default))))))))], mkH [(102, .var [.p (.sl 1 (List.map encI d.Counts))]), (103, .var [.p (pi share.Num), .p (pi share.Den)])]⟩) ?_
  refine lok_c ((!y) || (!((ratio_Valid share).getD default))) ?_ ?_
  · intro b_11
    replace H0 := cpos H0 b_11
    refine lok_rt E0 (⟨69, mkS [(4, .x (.one (.p (pi (0 : Int))))), (5, .x (.one (.p (pi (1 : Int)))))], mkH []⟩) ?_
    refine lok_ret ?_
    obtain rfl := Option.some.inj H0
    try simp only [thenL, blockL]
    exact fin_au _ (.inr rfl) [] (⟨69, mkS [(4, .x (.one (.p (pi (0 : Int))))), (5, .x (.one (.p (pi (1 : Int)))))], mkH []⟩) rfl rfl imp_au
  · intro b_11
    replace H0 := cneg H0 b_11
    refine lok_skip ?_
    try simp only [thenL, blockL, ↓reduceIte, reduceCtorEq]
    replace H0 := bind_some H0
    obtain ⟨⟨y1, y2⟩, h_1, H0⟩ := H0
    try dsimp only at H0
    refine lok_rt (Env.of E0 [⟨some 23, 44, [.agg [.p (.sl 1 (List.map encI d.Counts))]], [], [.one (.p (pi y1)), .one (.p (pi y2))], [], True, fun _ => ok_distribution_check d (y1, y2) h_1, []⟩]) (⟨69, mkS [(2, .x (.one (.ptr 102 0))), (3, .x (.one (.ptr 103 0))), (6, .x (.one (.p (pi y1)))), (7, .x (.one (.p (pi y2))))], mkH [(102, .var [.p (.sl 1 (List.map encI d.Counts))]), (103, .var [.p (pi share.Num), .p (pi share.Den)])]⟩) ?_
    refine lok_seq ?_
    refine lok_rt E0 (⟨69, mkS [(2, .x (.one (.ptr 102 0))), (3, .x (.one (.ptr 103 0))), (6, .x (.one (.p (pi y1)))), (7, .x (.one (.p (pi y2)))), (27, .x (.one (.p (.val (.bool (y2 != (0 : Int)))))))], mkH [(102, .var [.p (.sl 1 (List.map encI d.Counts))]), (103, .var [.p (pi share.Num), .p (pi share.Den)])]⟩) ?_
    refine lok_c (y2 != (0 : Int)) ?_ ?_
    · intro b_10
      replace H0 := cpos H0 b_10
      refine lok_rt E0 (⟨69, mkS [(4, .x (.one (.p (pi (0 : Int))))), (5, .x (.one (.p (pi y2))))], mkH []⟩) ?_
      refine lok_ret ?_
      obtain rfl := Option.some.inj H0
      try simp only [thenL, blockL]
      exact fin_au _ (.inr rfl) [] (⟨69, mkS [(4, .x (.one (.p (pi (0 : Int))))), (5, .x (.one (.p (pi y2))))], mkH []⟩) rfl rfl imp_au
    · intro b_10
      replace H0 := cneg H0 b_10
      refine lok_skip ?_
      try simp only [thenL, blockL, ↓reduceIte, reduceCtorEq]
      refine lok_seq ?_
      refine lok_rt E0 (⟨69, mkS [(2, .x (.one (.ptr 102 0))), (3, .x (.one (.ptr 103 0))), (6, .x (.one (.p (pi y1)))), (38, .x (.one (.p (.val (.bool ((decide (share.Num < (0 : Int))) || (decide (share.Den < share.Num))))))))], mkH [(102, .var [.p (.sl 1 (List.map encI d.Counts))]), (103, .var [.p (pi share.Num), .p (pi share.Den)])]⟩) ?_
      refine lok_c ((decide (share.Num < (0 : Int))) || (decide (share.Den < share.Num))) ?_ ?_
      · intro b_9
        replace H0 := cpos H0 b_9
        refine lok_rt E0 (⟨69, mkS [(4, .x (.one (.p (pi (0 : Int))))), (5, .x (.one (.p (pi (2 : Int)))))], mkH []⟩) ?_
        refine lok_ret ?_
        obtain rfl := Option.some.inj H0
        try simp only [thenL, blockL]
        exact fin_au _ (.inr rfl) [] (⟨69, mkS [(4, .x (.one (.p (pi (0 : Int))))), (5, .x (.one (.p (pi (2 : Int)))))], mkH []⟩) rfl rfl imp_au
      · intro b_9
        replace H0 := cneg H0 b_9
        refine lok_skip ?_
        try simp only [thenL, blockL, ↓reduceIte, reduceCtorEq]
        refine lok_rt E0 (⟨69, mkS [(2, .x (.one (.ptr 102 0))), (3, .x (.one (.ptr 103 0))), (6, .x (.one (.p (pi y1)))), (8, .x (.one (.p (pi (0 : Int)))))], mkH [(102, .var [.p (.sl 1 (List.map encI d.Counts))]), (103, .var [.p (pi share.Num), .p (pi share.Den)])]⟩) ?_
        refine lok_join (fun x_ : Unit => distribution_Quantile_j1 d = some r_) (fun x_ => ⟨69, mkS [(2, .x (.one (.ptr 102 0)))], mkH [(102, .var [.p (.sl 1 (List.map encI d.Counts))])]⟩) ?hydistribution_Quantile_j1 ?hxdistribution_Quantile_j1
        case hydistribution_Quantile_j1 =>
          rintro _ H0
          try dsimp only at H0 ⊢
          unfold distribution_Quantile_j1 at H0
          refine lok_rt E0 (⟨69, mkS [(4, .x (.one (.p (pi (IntKind.i64.wrap ((d.Counts.length : Int) - (1 : Int))))))), (5, .x (.one (.p (pi (0 : Int)))))], mkH []⟩) ?_
          refine lok_ret ?_
          obtain rfl := Option.some.inj H0
          try simp only [thenL, blockL]
          exact fin_au _ (.inr rfl) [] (⟨69, mkS [(4, .x (.one (.p (pi (IntKind.i64.wrap ((d.Counts.length : Int) - (1 : Int))))))), (5, .x (.one (.p (pi (0 : Int)))))], mkH []⟩) rfl rfl imp_au
        case hxdistribution_Quantile_j1 =>
          refine lok_rt E0 (⟨69, mkS [(2, .x (.one (.ptr 102 0))), (3, .x (.one (.ptr 103 0))), (6, .x (.one (.p (pi y1)))), (8, .x (.one (.p (pi (0 : Int))))), (40, .x (.one (.p (.sl 1 (List.map encI d.Counts))))), (41, .x (.one (.p (pi (d.Counts.length : Int))))), (42, .x (.one (.p (pi (0 : Int)))))], mkH [(102, .var [.p (.sl 1 (List.map encI d.Counts))]), (103, .var [.p (pi share.Num), .p (pi share.Den)])]⟩) ?_
          refine lok_block ?_
          replace H0 := bind_some H0
          obtain ⟨v_2, hv_2, H0⟩ := H0
          refine lok_iter (fun x_ => ⟨69, mkS [(2, .x (.one (.ptr 102 0))), (3, .x (.one (.ptr 103 0))), (6, .x (.one (.p (pi y1)))), (8, .x (.one (.p (pi x_.1)))), (40, .x (.one (.p (.sl 1 (List.map encI d.Counts))))), (41, .x (.one (.p (pi (d.Counts.length : Int))))), (42, .x (.one (.p (pi x_.2))))], mkH [(102, .var [.p (.sl 1 (List.map encI d.Counts))]), (103, .var [.p (pi share.Num), .p (pi share.Den)])]⟩) hv_2 imp_au ?_
          · rintro ⟨sum, v⟩ o_1 H1 k_1
            unfold distribution_Quantile_l2 at H1
            try dsimp only at H1 ⊢
            refine lok_rt E0 (⟨69, mkS [(2, .x (.one (.ptr 102 0))), (3, .x (.one (.ptr 103 0))), (6, .x (.one (.p (pi y1)))), (8, .x (.one (.p (pi sum)))), (40, .x (.one (.p (.sl 1 (List.map encI d.Counts))))), (41, .x (.one (.p (pi (d.Counts.length : Int))))), (42, .x (.one (.p (pi v)))), (43, .x (.one (.p (.val (.bool (decide (v < (d.Counts.length : Int))))))))], mkH [(102, .var [.p (.sl 1 (List.map encI d.Counts))]), (103, .var [.p (pi share.Num), .p (pi share.Den)])]⟩) ?_
            refine lok_seq ?_
            refine lok_c (decide (v < (d.Counts.length : Int))) ?_ ?_
            · intro b_8
              replace H1 := cpos H1 b_8
              refine lok_skip ?_
              try simp only [thenL, blockL, ↓reduceIte, reduceCtorEq]
              refine lok_seq ?_
              refine lok_block ?_
              replace H1 := req_some H1
              obtain ⟨q_7, H1⟩ := H1
              refine lok_rt E0 (⟨69, mkS [(2, .x (.one (.ptr 102 0))), (3, .x (.one (.ptr 103 0))), (6, .x (.one (.p (pi y1)))), (8, .x (.one (.p (pi sum)))), (9, .x (.one (.p (pi v)))), (10, .x (.one (.p (pi (ix d.Counts v))))), (40, .x (.one (.p (.sl 1 (List.map encI d.Counts))))), (41, .x (.one (.p (pi (d.Counts.length : Int))))), (42, .x (.one (.p (pi v))))], mkH [(102, .var [.p (.sl 1 (List.map encI d.Counts))]), (103, .var [.p (pi share.Num), .p (pi share.Den)])]⟩) ?_
              refine lok_rt E0 (⟨69, mkS [(2, .x (.one (.ptr 102 0))), (3, .x (.one (.ptr 103 0))), (6, .x (.one (.p (pi y1)))), (8, .x (.one (.p (pi (IntKind.i64.wrap (sum + (ix d.Counts v))))))), (9, .x (.one (.p (pi v)))), (40, .x (.one (.p (.sl 1 (List.map encI d.Counts))))), (41, .x (.one (.p (pi (d.Counts.length : Int))))), (42, .x (.one (.p (pi v))))], mkH [(102, .var [.p (.sl 1 (List.map encI d.Counts))]), (103, .var [.p (pi share.Num), .p (pi share.Den)])]⟩) ?_
              replace H1 := bind_some H1
              obtain ⟨⟨y3, y4⟩, h_3, H1⟩ := H1
              try dsimp only at H1
              refine lok_rt (Env.of E0 [⟨some 53, 45, [.one (.p (pi (IntKind.i64.wrap (sum + (ix d.Counts v))))), .one (.p (pi y1))], [], [.agg [.p (pi y3.Num), .p (pi y3.Den)], .one (.p (pi y4))], [], True, fun _ => ok_ratio_New (IntKind.i64.wrap (sum + (ix d.Counts v))) y1 (y3, y4) h_3, []⟩]) (⟨69, mkS [(2, .x (.one (.ptr 102 0))), (3, .x (.one (.ptr 103 0))), (6, .x (.one (.p (pi y1)))), (8, .x (.one (.p (pi (IntKind.i64.wrap (sum + (ix d.Counts v))))))), (9, .x (.one (.p (pi v)))), (11, .x (.one (.ptr 111 0))), (12, .x (.one (.p (pi y4)))), (40, .x (.one (.p (.sl 1 (List.map encI d.Counts))))), (41, .x (.one (.p (pi (d.Counts.length : Int))))), (42, .x (.one (.p (pi v))))], mkH [(102, .var [.p (.sl 1 (List.map encI d.Counts))]), (103, .var [.p (pi share.Num), .p (pi share.Den)]), (111, .var [.p (pi y3.Num), .p (pi y3.Den)])]⟩) ?_
              refine lok_seq ?_
              refine lok_rt E0 (⟨69, mkS [(2, .x (.one (.ptr 102 0))), (3, .x (.one (.ptr 103 0))), (6, .x (.one (.p (pi y1)))), (8, .x (.one (.p (pi (IntKind.i64.wrap (sum + (ix d.Counts v))))))), (9, .x (.one (.p (pi v)))), (11, .x (.one (.ptr 111 0))), (12, .x (.one (.p (pi y4)))), (40, .x (.one (.p (.sl 1 (List.map encI d.Counts))))), (41, .x (.one (.p (pi (d.Counts.length : Int))))), (42, .x (.one (.p (pi v)))), (57, .x (.one (.p (.val (.bool (y4 != (0 : Int)))))))], mkH [(102, .var [.p (.sl 1 (List.map encI d.Counts))]), (103, .var [.p (pi share.Num), .p (pi share.Den)]), (111, .var [.p (pi y3.Num), .p (pi y3.Den)])]⟩) ?_
              refine lok_c (y4 != (0 : Int)) ?_ ?_
              · intro b_6
                replace H1 := cpos H1 b_6
                refine lok_rt E0 (⟨69, mkS [(4, .x (.one (.p (pi (0 : Int))))), (5, .x (.one (.p (pi y4))))], mkH []⟩) ?_
                refine lok_ret ?_
                try simp only [thenL, blockL, ↓reduceIte, reduceCtorEq]
                have e_1 := k_1 _ (Option.some.inj H1).symm
                subst e_1
                try dsimp only at H0
                obtain rfl := Option.some.inj H0
                try simp only [thenL, blockL]
                exact fin_au _ (.inr rfl) [] (⟨69, mkS [(4, .x (.one (.p (pi (0 : Int))))), (5, .x (.one (.p (pi y4))))], mkH []⟩) rfl rfl imp_au
              · intro b_6
                replace H1 := cneg H1 b_6
                refine lok_skip ?_
                try simp only [thenL, blockL, ↓reduceIte, reduceCtorEq]
                replace H1 := bind_some H1
                obtain ⟨y5, h_4, H1⟩ := H1
                refine lok_rt (Env.of E0 [⟨some 61, 46, [.agg [.p (pi y3.Num), .p (pi y3.Den)], .agg [.p (pi share.Num), .p (pi share.Den)]], [], [.one (.p (pi y5))], [], True, fun _ => ok_ratio_Compare y3 share y5 h_4, []⟩]) (⟨69, mkS [(2, .x (.one (.ptr 102 0))), (3, .x (.one (.ptr 103 0))), (6, .x (.one (.p (pi y1)))), (8, .x (.one (.p (pi (IntKind.i64.wrap (sum + (ix d.Counts v))))))), (9, .x (.one (.p (pi v)))), (40, .x (.one (.p (.sl 1 (List.map encI d.Counts))))), (41, .x (.one (.p (pi (d.Counts.length : Int))))), (42, .x (.one (.p (pi v)))), (62, .x (.one (.p (.val (.bool (decide ((0 : Int) ≤ y5)))))))], mkH [(102, .var [.p (.sl 1 (List.map encI d.Counts))]), (103, .var [.p (pi share.Num), .p (pi share.Den)])]⟩) ?_
                refine lok_c (decide ((0 : Int) ≤ y5)) ?_ ?_
                · intro b_5
                  replace H1 := cpos H1 b_5
                  refine lok_rt E0 (⟨69, mkS [(4, .x (.one (.p (pi v)))), (5, .x (.one (.p (pi (0 : Int)))))], mkH []⟩) ?_
                  refine lok_ret ?_
                  try simp only [thenL, blockL, ↓reduceIte, reduceCtorEq]
                  have e_1 := k_1 _ (Option.some.inj H1).symm
                  subst e_1
                  try dsimp only at H0
                  obtain rfl := Option.some.inj H0
                  try simp only [thenL, blockL]
                  exact fin_au _ (.inr rfl) [] (⟨69, mkS [(4, .x (.one (.p (pi v)))), (5, .x (.one (.p (pi (0 : Int)))))], mkH []⟩) rfl rfl imp_au
                · intro b_5
                  replace H1 := cneg H1 b_5
                  refine lok_skip ?_
                  try simp only [thenL, blockL, ↓reduceIte, reduceCtorEq]
                  refine lok_rl E0 (⟨69, mkS [(2, .x (.one (.ptr 102 0))), (3, .x (.one (.ptr 103 0))), (6, .x (.one (.p (pi y1)))), (8, .x (.one (.p (pi (IntKind.i64.wrap (sum + (ix d.Counts v))))))), (40, .x (.one (.p (.sl 1 (List.map encI d.Counts))))), (41, .x (.one (.p (pi (d.Counts.length : Int))))), (42, .x (.one (.p (pi (IntKind.i64.wrap (v + (1 : Int)))))))], mkH [(102, .var [.p (.sl 1 (List.map encI d.Counts))]), (103, .var [.p (pi share.Num), .p (pi share.Den)])]⟩) ?_
                  try simp only [thenL, blockL, ↓reduceIte, reduceCtorEq]
                  exact ⟨((IntKind.i64.wrap (sum + (ix d.Counts v))), (IntKind.i64.wrap (v + (1 : Int)))), (Option.some.inj H1).symm, imp_au⟩
            · intro b_8
              replace H1 := cneg H1 b_8
              refine lok_exit ?_
              try simp only [thenL, blockL, ↓reduceIte, reduceCtorEq]
              have e_1 := k_1 _ (Option.some.inj H1).symm
              subst e_1
              try dsimp only at H0
              try simp only [thenL, blockL, ↓reduceIte, reduceCtorEq]
              exact ⟨(), H0, imp_au⟩
theorem ok_distribution_sumOfScores (d : api_Distribution) (r_ : Int) (H0 : distribution_sumOfScores d = some r_) : CallOK Try.prog 47 [.agg [.p (.sl 1 (List.map encI d.Counts))]] [] [.one (.p (pi r_))] [] := by
  refine callOK (n := 21) (rs := [.tmp 2]) (nb := 0) (V := []) Try.func47 rfl (by kernel_rfl) rfl rfl rfl rfl (Nat.le_of_ble_eq_true rfl) (by decide) ?_
  unfold distribution_sumOfScores at H0
  refine lok_rt E0 (⟨21, mkS [(1, .x (.one (.ptr 101 0)))], mkH [(101, .var [.p (.sl 1 (List.map encI d.Counts))])]⟩) ?_
  refine lok_rt E0 (⟨21, mkS [(1, .x (.one (.ptr 101 0))), (3, .x (.one (.p (pi (0 : Int)))))], mkH [(101, .var [.p (.sl 1 (List.map encI d.Counts))])]⟩) ?_
  refine lok_join (fun x_ : Int => distribution_sumOfScores_j1 x_ = some r_) (fun x_ => ⟨21, mkS [(3, .x (.one (.p (pi x_))))], mkH []⟩) ?hydistribution_sumOfScores_j1 ?hxdistribution_sumOfScores_j1
  case hydistribution_sumOfScores_j1 =>
    rintro sum H0
    try dsimp only at H0 ⊢
    unfold distribution_sumOfScores_j1 at H0
    refine lok_rt E0 (⟨21, mkS [(2, .x (.one (.p (pi sum))))], mkH []⟩) ?_
    refine lok_ret ?_
    obtain rfl := Option.some.inj H0
    try simp only [thenL, blockL]
    exact fin_au _ (.inr rfl) [] (⟨21, mkS [(2, .x (.one (.p (pi sum))))], mkH []⟩) rfl rfl imp_au
  case hxdistribution_sumOfScores_j1 =>
    refine lok_rt E0 (⟨21, mkS [(3, .x (.one (.p (pi (0 : Int))))), (7, .x (.one (.p (.sl 1 (List.map encI d.Counts))))), (8, .x (.one (.p (pi (d.Counts.length : Int))))), (9, .x (.one (.p (pi (0 : Int)))))], mkH []⟩) ?_
    refine lok_block ?_
    replace H0 := bind_some H0
    obtain ⟨v_0, hv_0, H0⟩ := H0
    refine lok_iter (fun x_ => ⟨21, mkS [(3, .x (.one (.p (pi x_.1)))), (7, .x (.one (.p (.sl 1 (List.map encI d.Counts))))), (8, .x (.one (.p (pi (d.Counts.length : Int))))), (9, .x (.one (.p (pi x_.2))))], mkH []⟩) hv_0 imp_au ?_
    · rintro ⟨sum1, v⟩ o_1 H1 k_1
      unfold distribution_sumOfScores_l2 at H1
      try dsimp only at H1 ⊢
      refine lok_rt E0 (⟨21, mkS [(3, .x (.one (.p (pi sum1)))), (7, .x (.one (.p (.sl 1 (List.map encI d.Counts))))), (8, .x (.one (.p (pi (d.Counts.length : Int))))), (9, .x (.one (.p (pi v)))), (10, .x (.one (.p (.val (.bool (decide (v < (d.Counts.length : Int))))))))], mkH []⟩) ?_
      refine lok_seq ?_
      refine lok_c (decide (v < (d.Counts.length : Int))) ?_ ?_
      · intro b_2
        replace H1 := cpos H1 b_2
        refine lok_skip ?_
        try simp only [thenL, blockL, ↓reduceIte, reduceCtorEq]
        refine lok_seq ?_
        refine lok_block ?_
        replace H1 := req_some H1
        obtain ⟨q_1, H1⟩ := H1
        refine lok_rt E0 (⟨21, mkS [(3, .x (.one (.p (pi sum1)))), (4, .x (.one (.p (pi v)))), (5, .x (.one (.p (pi (ix d.Counts v))))), (7, .x (.one (.p (.sl 1 (List.map encI d.Counts))))), (8, .x (.one (.p (pi (d.Counts.length : Int))))), (9, .x (.one (.p (pi v))))], mkH []⟩) ?_
        refine lok_rl E0 (⟨21, mkS [(3, .x (.one (.p (pi (IntKind.i64.wrap (sum1 + (IntKind.i64.wrap (v * (ix d.Counts v))))))))), (7, .x (.one (.p (.sl 1 (List.map encI d.Counts))))), (8, .x (.one (.p (pi (d.Counts.length : Int))))), (9, .x (.one (.p (pi v))))], mkH []⟩) ?_
        try simp only [thenL, blockL, ↓reduceIte, reduceCtorEq]
        refine lok_rl E0 (⟨21, mkS [(3, .x (.one (.p (pi (IntKind.i64.wrap (sum1 + (IntKind.i64.wrap (v * (ix d.Counts v))))))))), (7, .x (.one (.p (.sl 1 (List.map encI d.Counts))))), (8, .x (.one (.p (pi (d.Counts.length : Int))))), (9, .x (.one (.p (pi (IntKind.i64.wrap (v + (1 : Int)))))))], mkH []⟩) ?_
        try simp only [thenL, blockL, ↓reduceIte, reduceCtorEq]
        exact ⟨((IntKind.i64.wrap (sum1 + (IntKind.i64.wrap (v * (ix d.Counts v))))), (IntKind.i64.wrap (v + (1 : Int)))), (Option.some.inj H1).symm, imp_au⟩
      · intro b_2
        replace H1 := cneg H1 b_2
        refine lok_exit ?_
        try simp only [thenL, blockL, ↓reduceIte, reduceCtorEq]
        have e_1 := k_1 _ (Option.some.inj H1).symm
        subst e_1
        try dsimp only at H0
        try simp only [thenL, blockL, ↓reduceIte, reduceCtorEq]
        exact ⟨sum1, H0, imp_au⟩
theorem ok_distribution_Mean (d : api_Distribution) (r_ : api_Ratio × Int) (H0 : distribution_Mean d = some r_) : CallOK Try.prog 19 [.agg [.p (.sl 1 (List.map encI d.Counts))]] [] [.agg [.p (pi r_.1.Num), .p (pi r_.1.Den)], .one (.p (pi r_.2))] [] := by
  refine callOK (n := 21) (rs := [.cell 2 31, .tmp 3]) (nb := 0) (V := []) Try.func19 rfl (by kernel_rfl) rfl rfl rfl rfl (Nat.le_of_ble_eq_true rfl) (by decide) ?_
  unfold distribution_Mean at H0
  refine lok_rt E0 (⟨21, mkS [(1, .x (.one (.ptr 101 0))), (2, .x (.one (.ptr 102 0)))], mkH [(101, .var [.p (.sl 1 (List.map encI d.Counts))]), (102, .var [.p (pi (0 : Int)), .p (pi (0 : Int))])]⟩) ?_
  replace H0 := bind_some H0
  obtain ⟨⟨y, y1⟩, h_0, H0⟩ := H0
  try dsimp only at H0
  refine lok_rt (Env.of E0 [⟨some 8, 44, [.agg [.p (.sl 1 (List.map encI d.Counts))]], [], [.one (.p (pi y)), .one (.p (pi y1))], [], True, fun _ => ok_distribution_check d (y, y1) h_0, []⟩]) (⟨21, mkS [(1, .x (.one (.ptr 101 0))), (2, .x (.one (.ptr 102 0))), (4, .x (.one (.p (pi y)))), (5, .x (.one (.p (pi y1))))], mkH [(101, .var [.p (.sl 1 (List.map encI d.Counts))]), (102, .var [.p (pi (0 : Int)), .p (pi (0 : Int))])]⟩) ?_
  refine lok_seq ?_
  refine lok_rt E0 (⟨21, mkS [(1, .x (.one (.ptr 101 0))), (2, .x (.one (.ptr 102 0))), (4, .x (.one (.p (pi y)))), (5, .x (.one (.p (pi y1)))), (12, .x (.one (.p (.val (.bool (y1 != (0 : Int)))))))], mkH [(101, .var [.p (.sl 1 (List.map encI d.Counts))]), (102, .var [.p (pi (0 : Int)), .p (pi (0 : Int))])]⟩) ?_
  refine lok_c (y1 != (0 : Int)) ?_ ?_
  · intro b_3
    replace H0 := cpos H0 b_3
    refine lok_rt E0 (⟨21, mkS [(2, .x (.one (.ptr 102 0))), (3, .x (.one (.p (pi y1))))], mkH [(102, .var [.p (pi (0 : Int)), .p (pi (0 : Int))])]⟩) ?_
    refine lok_ret ?_
    obtain rfl := Option.some.inj H0
    try simp only [thenL, blockL]
    exact fin_au _ (.inr rfl) [] (⟨21, mkS [(2, .x (.one (.ptr 102 0))), (3, .x (.one (.p (pi y1))))], mkH [(102, .var [.p (pi (0 : Int)), .p (pi (0 : Int))])]⟩) rfl rfl imp_au
  · intro b_3
    replace H0 := cneg H0 b_3
    refine lok_skip ?_
    try simp only [thenL, blockL, ↓reduceIte, reduceCtorEq]
    replace H0 := bind_some H0
    obtain ⟨y2, h_1, H0⟩ := H0
    replace H0 := bind_some H0
    obtain ⟨⟨y3, y4⟩, h_2, H0⟩ := H0
    try dsimp only at H0
    refine lok_rt (Env.of E0 [⟨some 16, 47, [.agg [.p (.sl 1 (List.map encI d.Counts))]], [], [.one (.p (pi y2))], [], True, fun _ => ok_distribution_sumOfScores d y2 h_1, []⟩,
      ⟨some 18, 45, [.one (.p (pi y2)), .one (.p (pi y))], [], [.agg [.p (pi y3.Num), .p (pi y3.Den)], .one (.p (pi y4))], [], True, fun _ => ok_ratio_New y2 y (y3, y4) h_2, []⟩]) (⟨21, mkS [(2, .x (.one (.ptr 102 0))), (3, .x (.one (.p (pi y4))))], mkH [(102, .var [.p (pi y3.Num), .p (pi y3.Den)])]⟩) ?_
    refine lok_ret ?_
    obtain rfl := Option.some.inj H0
    try simp only [thenL, blockL]
    exact fin_au _ (.inr rfl) [] (⟨21, mkS [(2, .x (.one (.ptr 102 0))), (3, .x (.one (.p (pi y4))))], mkH [(102, .var [.p (pi y3.Num), .p (pi y3.Den)])]⟩) rfl rfl imp_au
theorem ok_distribution_Rank (d : api_Distribution) (score : Int) (r_ : api_Ratio × Int) (H0 : distribution_Rank d score = some r_) : CallOK Try.prog 21 [.agg [.p (.sl 1 (List.map encI d.Counts))], .one (.p (pi score))] [] [.agg [.p (pi r_.1.Num), .p (pi r_.1.Den)], .one (.p (pi r_.2))] [] := by
  refine callOK (n := 43) (rs := [.cell 4 31, .tmp 5]) (nb := 0) (V := []) Try.func21 rfl (by kernel_rfl) rfl rfl rfl rfl (Nat.le_of_ble_eq_true rfl) (by decide) ?_
  unfold distribution_Rank at H0
  refine lok_rt E0 (⟨43, mkS [(1, .x (.one (.p (pi score)))), (2, .x (.one (.ptr 102 0))), (4, .x (.one (.ptr 104 0)))], mkH [(102, .var [.p (.sl 1 (List.map encI d.Counts))]), (104, .var [.p (pi (0 : Int)), .p (pi (0 : Int))])]⟩) ?_
  replace H0 := bind_some H0
  obtain ⟨⟨y, y1⟩, h_0, H0⟩ := H0
  try dsimp only at H0
  refine lok_rt (Env.of E0 [⟨some 11, 44, [.agg [.p (.sl 1 (List.map encI d.Counts))]], [], [.one (.p (pi y)), .one (.p (pi y1))], [], True, fun _ => ok_distribution_check d (y, y1) h_0, []⟩]) (⟨43, mkS [(1, .x (.one (.p (pi score)))), (2, .x (.one (.ptr 102 0))), (4, .x (.one (.ptr 104 0))), (6, .x (.one (.p (pi y)))), (7, .x (.one (.p (pi y1))))], mkH [(102, .var [.p (.sl 1 (List.map encI d.Counts))]), (104, .var [.p (pi (0 : Int)), .p (pi (0 : Int))])]⟩) ?_
  refine lok_seq ?_
  refine lok_rt E0 (⟨43, mkS [(1, .x (.one (.p (pi score)))), (2, .x (.one (.ptr 102 0))), (4, .x (.one (.ptr 104 0))), (6, .x (.one (.p (pi y)))), (7, .x (.one (.p (pi y1)))), (15, .x (.one (.p (.val (.bool (y1 != (0 : Int)))))))], mkH [(102, .var [.p (.sl 1 (List.map encI d.Counts))]), (104, .var [.p (pi (0 : Int)), .p (pi (0 : Int))])]⟩) ?_
  refine lok_c (y1 != (0 : Int)) ?_ ?_
  · intro b_5
    replace H0 := cpos H0 b_5
    refine lok_rt E0 (⟨43, mkS [(4, .x (.one (.ptr 104 0))), (5, .x (.one (.p (pi y1))))], mkH [(104, .var [.p (pi (0 : Int)), .p (pi (0 : Int))])]⟩) ?_
    refine lok_ret ?_
    obtain rfl := Option.some.inj H0
    try simp only [thenL, blockL]
    exact fin_au _ (.inr rfl) [] (⟨43, mkS [(4, .x (.one (.ptr 104 0))), (5, .x (.one (.p (pi y1))))], mkH [(104, .var [.p (pi (0 : Int)), .p (pi (0 : Int))])]⟩) rfl rfl imp_au
  · intro b_5
    replace H0 := cneg H0 b_5
    refine lok_skip ?_
    try simp only [thenL, blockL, ↓reduceIte, reduceCtorEq]
    refine lok_rt E0 (⟨43, mkS [(1, .x (.one (.p (pi score)))), (2, .x (.one (.ptr 102 0))), (4, .x (.one (.ptr 104 0))), (6, .x (.one (.p (pi y)))), (8, .x (.one (.p (pi (0 : Int)))))], mkH [(102, .var [.p (.sl 1 (List.map encI d.Counts))]), (104, .var [.p (pi (0 : Int)), .p (pi (0 : Int))])]⟩) ?_
    refine lok_join (fun x_ : Int => distribution_Rank_j1 d score y x_ = some r_) (fun x_ => ⟨43, mkS [(1, .x (.one (.p (pi score)))), (2, .x (.one (.ptr 102 0))), (4, .x (.one (.ptr 104 0))), (6, .x (.one (.p (pi y)))), (8, .x (.one (.p (pi x_))))], mkH [(102, .var [.p (.sl 1 (List.map encI d.Counts))]), (104, .var [.p (pi (0 : Int)), .p (pi (0 : Int))])]⟩) ?hydistribution_Rank_j1 ?hxdistribution_Rank_j1
    case hydistribution_Rank_j1 =>
      rintro here H0
      try dsimp only at H0 ⊢
      unfold distribution_Rank_j1 at H0
      replace H0 := bind_some H0
      obtain ⟨y2, h_1, H0⟩ := H0
      replace H0 := bind_some H0
      obtain ⟨⟨y3, y4⟩, h_2, H0⟩ := H0
      try dsimp only at H0
      refine lok_rt (Env.of E0 [⟨some 34, 16, [.agg [.p (.sl 1 (List.map encI d.Counts))], .one (.p (pi score))], [], [.one (.p (pi y2))], [], True, fun _ => ok_distribution_Below d score y2 h_1, []⟩,
      ⟨some 40, 45, [.one (.p (pi (IntKind.i64.wrap ((IntKind.i64.wrap ((2 : Int) * y2)) + here)))), .one (.p (pi (IntKind.i64.wrap ((2 : Int) * y))))], [], [.agg [.p (pi y3.Num), .p (pi y3.Den)], .one (.p (pi y4))], [], True, fun _ => ok_ratio_New (IntKind.i64.wrap ((IntKind.i64.wrap ((2 : Int) * y2)) + here)) (IntKind.i64.wrap ((2 : Int) * y)) (y3, y4) h_2, []⟩]) (⟨43, mkS [(4, .x (.one (.ptr 104 0))), (5, .x (.one (.p (pi y4))))], mkH [(104, .var [.p (pi y3.Num), .p (pi y3.Den)])]⟩) ?_
      refine lok_ret ?_
      obtain rfl := Option.some.inj H0
      try simp only [thenL, blockL]
      exact fin_au _ (.inr rfl) [] (⟨43, mkS [(4, .x (.one (.ptr 104 0))), (5, .x (.one (.p (pi y4))))], mkH [(104, .var [.p (pi y3.Num), .p (pi y3.Den)])]⟩) rfl rfl imp_au
    case hxdistribution_Rank_j1 =>
      refine lok_rt E0 (⟨43, mkS [(1, .x (.one (.p (pi score)))), (2, .x (.one (.ptr 102 0))), (4, .x (.one (.ptr 104 0))), (6, .x (.one (.p (pi y)))), (8, .x (.one (.p (pi (0 : Int))))), (26, .x (.one (.p (.val (.bool ((decide ((0 : Int) ≤ score)) && (decide (score < (d.Counts.length : Int)))))))))], mkH [(102, .var [.p (.sl 1 (List.map encI d.Counts))]), (104, .var [.p (pi (0 : Int)), .p (pi (0 : Int))])]⟩) ?_
      refine lok_c ((decide ((0 : Int) ≤ score)) && (decide (score < (d.Counts.length : Int)))) ?_ ?_
      · intro b_4
        replace H0 := cpos H0 b_4
        replace H0 := req_some H0
        obtain ⟨q_3, H0⟩ := H0
        refine lok_rl E0 (⟨43, mkS [(1, .x (.one (.p (pi score)))), (2, .x (.one (.ptr 102 0))), (4, .x (.one (.ptr 104 0))), (6, .x (.one (.p (pi y)))), (8, .x (.one (.p (pi (ix d.Counts score)))))], mkH [(102, .var [.p (.sl 1 (List.map encI d.Counts))]), (104, .var [.p (pi (0 : Int)), .p (pi (0 : Int))])]⟩) ?_
        try simp only [thenL, blockL, ↓reduceIte, reduceCtorEq]
        exact ⟨(ix d.Counts score), H0, imp_au⟩
      · intro b_4
        replace H0 := cneg H0 b_4
        refine lok_skip ?_
        try simp only [thenL, blockL, ↓reduceIte, reduceCtorEq]
        exact ⟨(0 : Int), H0, imp_au⟩
theorem ok_distribution_Deviation (d : api_Distribution) (r_ : api_Ratio × Int) (H0 : distribution_Deviation d = some r_) : CallOK Try.prog 34 [.agg [.p (.sl 1 (List.map encI d.Counts))]] [] [.agg [.p (pi r_.1.Num), .p (pi r_.1.Den)], .one (.p (pi r_.2))] [] := by
  refine callOK (n := 51) (rs := [.cell 2 31, .tmp 3]) (nb := 0) (V := []) Try.func34 rfl (by kernel_rfl) rfl rfl rfl rfl (Nat.le_of_ble_eq_true rfl) (by decide) ?_
  unfold distribution_Deviation at H0
  refine lok_rt E0 (⟨51, mkS [(1, .x (.one (.ptr 101 0))), (2, .x (.one (.ptr 102 0)))], mkH [(101, .var [.p (.sl 1 (List.map encI d.Counts))]), (102, .var [.p (pi (0 : Int)), .p (pi (0 : Int))])]⟩) ?_
  replace H0 := bind_some H0
  obtain ⟨⟨y, y1⟩, h_0, H0⟩ := H0
  try dsimp only at H0
  refine lok_rt (Env.of E0 [⟨some 13, 44, [.agg [.p (.sl 1 (List.map encI d.Counts))]], [], [.one (.p (pi y)), .one (.p (pi y1))], [], True, fun _ => ok_distribution_check d (y, y1) h_0, []⟩]) (⟨51, mkS [(1, .x (.one (.ptr 101 0))), (2, .x (.one (.ptr 102 0))), (4, .x (.one (.p (pi y)))), (5, .x (.one (.p (pi y1))))], mkH [(101, .var [.p (.sl 1 (List.map encI d.Counts))]), (102, .var [.p (pi (0 : Int)), .p (pi (0 : Int))])]⟩) ?_
  refine lok_seq ?_
  refine lok_rt E0 (⟨51, mkS [(1, .x (.one (.ptr 101 0))), (2, .x (.one (.ptr 102 0))), (4, .x (.one (.p (pi y)))), (5, .x (.one (.p (pi y1)))), (17, .x (.one (.p (.val (.bool (y1 != (0 : Int)))))))], mkH [(101, .var [.p (.sl 1 (List.map encI d.Counts))]), (102, .var [.p (pi (0 : Int)), .p (pi (0 : Int))])]⟩) ?_
  refine lok_c (y1 != (0 : Int)) ?_ ?_
  · intro b_7
    replace H0 := cpos H0 b_7
    refine lok_rt E0 (⟨51, mkS [(2, .x (.one (.ptr 102 0))), (3, .x (.one (.p (pi y1))))], mkH [(102, .var [.p (pi (0 : Int)), .p (pi (0 : Int))])]⟩) ?_
    refine lok_ret ?_
    obtain rfl := Option.some.inj H0
    try simp only [thenL, blockL]
    exact fin_au _ (.inr rfl) [] (⟨51, mkS [(2, .x (.one (.ptr 102 0))), (3, .x (.one (.p (pi y1))))], mkH [(102, .var [.p (pi (0 : Int)), .p (pi (0 : Int))])]⟩) rfl rfl imp_au
  · intro b_7
    replace H0 := cneg H0 b_7
    refine lok_skip ?_
    try simp only [thenL, blockL, ↓reduceIte, reduceCtorEq]
    replace H0 := bind_some H0
    obtain ⟨y2, h_1, H0⟩ := H0
    refine lok_rt (Env.of E0 [⟨some 21, 47, [.agg [.p (.sl 1 (List.map encI d.Counts))]], [], [.one (.p (pi y2))], [], True, fun _ => ok_distribution_sumOfScores d y2 h_1, []⟩]) (⟨51, mkS [(1, .x (.one (.ptr 101 0))), (2, .x (.one (.ptr 102 0))), (4, .x (.one (.p (pi y)))), (6, .x (.one (.p (pi y2)))), (7, .x (.one (.p (pi (0 : Int)))))], mkH [(101, .var [.p (.sl 1 (List.map encI d.Counts))]), (102, .var [.p (pi (0 : Int)), .p (pi (0 : Int))])]⟩) ?_
    refine lok_join (fun x_ : Int => distribution_Deviation_j1 y x_ = some r_) (fun x_ => ⟨51, mkS [(2, .x (.one (.ptr 102 0))), (4, .x (.one (.p (pi y)))), (7, .x (.one (.p (pi x_))))], mkH [(102, .var [.p (pi (0 : Int)), .p (pi (0 : Int))])]⟩) ?hydistribution_Deviation_j1 ?hxdistribution_Deviation_j1
    case hydistribution_Deviation_j1 =>
      rintro distances H0
      try dsimp only at H0 ⊢
      unfold distribution_Deviation_j1 at H0
      replace H0 := bind_some H0
      obtain ⟨⟨y3, y4⟩, h_2, H0⟩ := H0
      try dsimp only at H0
      refine lok_rt (Env.of E0 [⟨some 48, 45, [.one (.p (pi distances)), .one (.p (pi (IntKind.i64.wrap (y * y))))], [], [.agg [.p (pi y3.Num), .p (pi y3.Den)], .one (.p (pi y4))], [], True, fun _ => ok_ratio_New distances (IntKind.i64.wrap (y * y)) (y3, y4) h_2, []⟩]) (⟨51, mkS [(2, .x (.one (.ptr 102 0))), (3, .x (.one (.p (pi y4))))], mkH [(102, .var [.p (pi y3.Num), .p (pi y3.Den)])]⟩) ?_
      refine lok_ret ?_
      obtain rfl := Option.some.inj H0
      try simp only [thenL, blockL]
      exact fin_au _ (.inr rfl) [] (⟨51, mkS [(2, .x (.one (.ptr 102 0))), (3, .x (.one (.p (pi y4))))], mkH [(102, .var [.p (pi y3.Num), .p (pi y3.Den)])]⟩) rfl rfl imp_au
    case hxdistribution_Deviation_j1 =>
      refine lok_rt E0 (⟨51, mkS [(2, .x (.one (.ptr 102 0))), (4, .x (.one (.p (pi y)))), (6, .x (.one (.p (pi y2)))), (7, .x (.one (.p (pi (0 : Int))))), (23, .x (.one (.p (.sl 1 (List.map encI d.Counts))))), (24, .x (.one (.p (pi (d.Counts.length : Int))))), (25, .x (.one (.p (pi (0 : Int)))))], mkH [(102, .var [.p (pi (0 : Int)), .p (pi (0 : Int))])]⟩) ?_
      refine lok_block ?_
      replace H0 := bind_some H0
      obtain ⟨v_3, hv_3, H0⟩ := H0
      refine lok_iter (fun x_ => ⟨51, mkS [(2, .x (.one (.ptr 102 0))), (4, .x (.one (.p (pi y)))), (6, .x (.one (.p (pi y2)))), (7, .x (.one (.p (pi x_.1)))), (23, .x (.one (.p (.sl 1 (List.map encI d.Counts))))), (24, .x (.one (.p (pi (d.Counts.length : Int))))), (25, .x (.one (.p (pi x_.2))))], mkH [(102, .var [.p (pi (0 : Int)), .p (pi (0 : Int))])]⟩) hv_3 imp_au ?_
      · rintro ⟨distances1, v⟩ o_1 H1 k_1
        unfold distribution_Deviation_l2 at H1
        try dsimp only at H1 ⊢
        refine lok_rt E0 (⟨51, mkS [(2, .x (.one (.ptr 102 0))), (4, .x (.one (.p (pi y)))), (6, .x (.one (.p (pi y2)))), (7, .x (.one (.p (pi distances1)))), (23, .x (.one (.p (.sl 1 (List.map encI d.Counts))))), (24, .x (.one (.p (pi (d.Counts.length : Int))))), (25, .x (.one (.p (pi v)))), (26, .x (.one (.p (.val (.bool (decide (v < (d.Counts.length : Int))))))))], mkH [(102, .var [.p (pi (0 : Int)), .p (pi (0 : Int))])]⟩) ?_
        refine lok_seq ?_
        refine lok_c (decide (v < (d.Counts.length : Int))) ?_ ?_
        · intro b_6
          replace H1 := cpos H1 b_6
          refine lok_skip ?_
          try simp only [thenL, blockL, ↓reduceIte, reduceCtorEq]
          refine lok_seq ?_
          refine lok_block ?_
          replace H1 := req_some H1
          obtain ⟨q_5, H1⟩ := H1
          refine lok_rt E0 (⟨51, mkS [(2, .x (.one (.ptr 102 0))), (4, .x (.one (.p (pi y)))), (6, .x (.one (.p (pi y2)))), (7, .x (.one (.p (pi distances1)))), (8, .x (.one (.p (pi v)))), (9, .x (.one (.p (pi (ix d.Counts v))))), (23, .x (.one (.p (.sl 1 (List.map encI d.Counts))))), (24, .x (.one (.p (pi (d.Counts.length : Int))))), (25, .x (.one (.p (pi v))))], mkH [(102, .var [.p (pi (0 : Int)), .p (pi (0 : Int))])]⟩) ?_
          refine lok_rt E0 (⟨51, mkS [(2, .x (.one (.ptr 102 0))), (4, .x (.one (.p (pi y)))), (6, .x (.one (.p (pi y2)))), (7, .x (.one (.p (pi distances1)))), (9, .x (.one (.p (pi (ix d.Counts v))))), (10, .x (.one (.p (pi (IntKind.i64.wrap ((IntKind.i64.wrap (v * y)) - y2)))))), (23, .x (.one (.p (.sl 1 (List.map encI d.Counts))))), (24, .x (.one (.p (pi (d.Counts.length : Int))))), (25, .x (.one (.p (pi v))))], mkH [(102, .var [.p (pi (0 : Int)), .p (pi (0 : Int))])]⟩) ?_
          replace H1 := bindV_some H1
          obtain ⟨distances3, a_4, H1⟩ := H1
          refine lok_rlg E0 a_4 (⟨51, mkS [(2, .x (.one (.ptr 102 0))), (4, .x (.one (.p (pi y)))), (6, .x (.one (.p (pi y2)))), (7, .x (.one (.p (pi distances3)))), (23, .x (.one (.p (.sl 1 (List.map encI d.Counts))))), (24, .x (.one (.p (pi (d.Counts.length : Int))))), (25, .x (.one (.p (pi v))))], mkH [(102, .var [.p (pi (0 : Int)), .p (pi (0 : Int))])]⟩) ?_
          try simp only [thenL, blockL, ↓reduceIte, reduceCtorEq]
          refine lok_rl E0 (⟨51, mkS [(2, .x (.one (.ptr 102 0))), (4, .x (.one (.p (pi y)))), (6, .x (.one (.p (pi y2)))), (7, .x (.one (.p (pi distances3)))), (23, .x (.one (.p (.sl 1 (List.map encI d.Counts))))), (24, .x (.one (.p (pi (d.Counts.length : Int))))), (25, .x (.one (.p (pi (IntKind.i64.wrap (v + (1 : Int)))))))], mkH [(102, .var [.p (pi (0 : Int)), .p (pi (0 : Int))])]⟩) ?_
          try simp only [thenL, blockL, ↓reduceIte, reduceCtorEq]
          exact ⟨(distances3, (IntKind.i64.wrap (v + (1 : Int)))), (Option.some.inj H1).symm, imp_au⟩
        · intro b_6
          replace H1 := cneg H1 b_6
          refine lok_exit ?_
          try simp only [thenL, blockL, ↓reduceIte, reduceCtorEq]
          have e_1 := k_1 _ (Option.some.inj H1).symm
          subst e_1
          try dsimp only at H0
          try simp only [thenL, blockL, ↓reduceIte, reduceCtorEq]
          exact ⟨distances1, H0, imp_au⟩
theorem ok_law32_sane  (r_ : Bool) (H0 : law32_sane = some r_) : CallOK Try.prog 10 [] [] [.one (.p (.val (.bool r_)))] [] := by
  refine callOK (n := 84) (rs := [.tmp 0]) (nb := 0) (V := []) Try.func10 rfl (by kernel_rfl) rfl rfl rfl rfl (Nat.le_of_ble_eq_true rfl) (by decide) ?_
  unfold law32_sane at H0
  refine lok_rt E0 (⟨84, mkS [], mkH []⟩) ?_
  refine lok_rt E0 (⟨84, mkS [(1, .x (.one (.ptr 101 0)))], mkH [(101, .var [.fl 1 (List.map encI ([(1 : Int), (2 : Int), (1 : Int)]))])]⟩) ?_
  replace H0 := bind_some H0
  obtain ⟨⟨y, y1⟩, h_0, H0⟩ := H0
  try dsimp only at H0
  refine lok_rt (Env.of E0 [⟨some 17, 19, [.agg [.p (.sl 1 (List.map encI ([(1 : Int), (2 : Int), (1 : Int)])))]], [], [.agg [.p (pi y.Num), .p (pi y.Den)], .one (.p (pi y1))], [], True, fun _ => ok_distribution_Mean (api_Distribution.mk ([(1 : Int), (2 : Int), (1 : Int)])) (y, y1) h_0, []⟩]) (⟨84, mkS [(1, .x (.one (.ptr 101 0))), (2, .x (.one (.ptr 102 0))), (3, .x (.one (.p (pi y1))))], mkH [(101, .var [.fl 1 (List.map encI ([(1 : Int), (2 : Int), (1 : Int)]))]), (102, .var [.p (pi y.Num), .p (pi y.Den)])]⟩) ?_
  replace H0 := bind_some H0
  obtain ⟨⟨y2, y3⟩, h_1, H0⟩ := H0
  try dsimp only at H0
  refine lok_rt (Env.of E0 [⟨some 22, 34, [.agg [.p (.sl 1 (List.map encI ([(1 : Int), (2 : Int), (1 : Int)])))]], [], [.agg [.p (pi y2.Num), .p (pi y2.Den)], .one (.p (pi y3))], [], True, fun _ => ok_distribution_Deviation (api_Distribution.mk ([(1 : Int), (2 : Int), (1 : Int)])) (y2, y3) h_1, []⟩]) (⟨84, mkS [(1, .x (.one (.ptr 101 0))), (2, .x (.one (.ptr 102 0))), (3, .x (.one (.p (pi y1)))), (4, .x (.one (.ptr 104 0))), (5, .x (.one (.p (pi y3))))], mkH [(101, .var [.fl 1 (List.map encI ([(1 : Int), (2 : Int), (1 : Int)]))]), (102, .var [.p (pi y.Num), .p (pi y.Den)]), (104, .var [.p (pi y2.Num), .p (pi y2.Den)])]⟩) ?_
  replace H0 := bind_some H0
  obtain ⟨⟨y4, y5⟩, h_2, H0⟩ := H0
  try dsimp only at H0
  refine lok_rt (Env.of E0 [⟨some 27, 21, [.agg [.p (.sl 1 (List.map encI ([(1 : Int), (2 : Int), (1 : Int)])))], .one (.p (pi (1 : Int)))], [], [.agg [.p (pi y4.Num), .p (pi y4.Den)], .one (.p (pi y5))], [], True, fun _ => ok_distribution_Rank (api_Distribution.mk ([(1 : Int), (2 : Int), (1 : Int)])) (1 : Int) (y4, y5) h_2, []⟩]) (⟨84, mkS [(1, .x (.one (.ptr 101 0))), (2, .x (.one (.ptr 102 0))), (3, .x (.one (.p (pi y1)))), (4, .x (.one (.ptr 104 0))), (5, .x (.one (.p (pi y3)))), (6, .x (.one (.ptr 106 0))), (7, .x (.one (.p (pi y5))))], mkH [(101, .var [.fl 1 (List.map encI ([(1 : Int), (2 : Int), (1 : Int)]))]), (102, .var [.p (pi y.Num), .p (pi y.Den)]), (104, .var [.p (pi y2.Num), .p (pi y2.Den)]), (106, .var [.p (pi y4.Num), .p (pi y4.Den)])]⟩) ?_
  replace H0 := bind_some H0
  obtain ⟨⟨y6, y7⟩, h_3, H0⟩ := H0
  try dsimp only at H0
  refine lok_rt (Env.of E0 [⟨some 33, 14, [.agg [.p (.sl 1 (List.map encI ([(1 : Int), (2 : Int), (1 : Int)])))], .agg [.p (pi (1 : Int)), .p (pi (4 : Int))]], [], [.one (.p (pi y6)), .one (.p (pi y7))], [], True, fun _ => ok_distribution_Quantile (api_Distribution.mk ([(1 : Int), (2 : Int), (1 : Int)])) (api_Ratio.mk (1 : Int) (4 : Int)) (y6, y7) h_3, []⟩]) (⟨84, mkS [(1, .x (.one (.ptr 101 0))), (2, .x (.one (.ptr 102 0))), (3, .x (.one (.p (pi y1)))), (4, .x (.one (.ptr 104 0))), (5, .x (.one (.p (pi y3)))), (6, .x (.one (.ptr 106 0))), (7, .x (.one (.p (pi y5)))), (8, .x (.one (.p (pi y6)))), (9, .x (.one (.p (pi y7))))], mkH [(101, .var [.fl 1 (List.map encI ([(1 : Int), (2 : Int), (1 : Int)]))]), (102, .var [.p (pi y.Num), .p (pi y.Den)]), (104, .var [.p (pi y2.Num), .p (pi y2.Den)]), (106, .var [.p (pi y4.Num), .p (pi y4.Den)])]⟩) ?_
  replace H0 := bind_some H0
  obtain ⟨⟨y8, y9⟩, h_4, H0⟩ := H0
  try dsimp only at H0
  refine lok_rt (Env.of E0 [⟨some 39, 14, [.agg [.p (.sl 1 (List.map encI ([(1 : Int), (2 : Int), (1 : Int)])))], .agg [.p (pi (1 : Int)), .p (pi (2 : Int))]], [], [.one (.p (pi y8)), .one (.p (pi y9))], [], True, fun _ => ok_distribution_Quantile (api_Distribution.mk ([(1 : Int), (2 : Int), (1 : Int)])) (api_Ratio.mk (1 : Int) (2 : Int)) (y8, y9) h_4, []⟩]) (⟨84, mkS [(2, .x (.one (.ptr 102 0))), (3, .x (.one (.p (pi y1)))), (4, .x (.one (.ptr 104 0))), (5, .x (.one (.p (pi y3)))), (6, .x (.one (.ptr 106 0))), (7, .x (.one (.p (pi y5)))), (8, .x (.one (.p (pi y6)))), (9, .x (.one (.p (pi y7)))), (10, .x (.one (.p (pi y8)))), (11, .x (.one (.p (pi y9))))], mkH [(102, .var [.p (pi y.Num), .p (pi y.Den)]), (104, .var [.p (pi y2.Num), .p (pi y2.Den)]), (106, .var [.p (pi y4.Num), .p (pi y4.Den)])]⟩) ?_
  refine lok_rt E0 (⟨84, mkS [(2, .x (.one (.ptr 102 0))), (3, .x (.one (.p (pi y1)))), (4, .x (.one (.ptr 104 0))), (5, .x (.one (.p (pi y3)))), (6, .x (.one (.ptr 106 0))), (7, .x (.one (.p (pi y5)))), (8, .x (.one (.p (pi y6)))), (9, .x (.one (.p (pi y7)))), (10, .x (.one (.p (pi y8)))), (11, .x (.one (.p (pi y9)))), (12, .x (.one (.ptr 112 0)))], mkH [(102, .var [.p (pi y.Num), .p (pi y.Den)]), (104, .var [.p (pi y2.Num), .p (pi y2.Den)]), (106, .var [.p (pi y4.Num), .p (pi y4.Den)]), (112, .var [.p (pi (1 : Int)), .p (pi (2 : Int))])]⟩) ?_
  refine lok_rt E0 (⟨84, mkS [(0, .x (.one (.p (.val (.bool ((((((((((y1 == (0 : Int)) && (y3 == (0 : Int))) && (y5 == (0 : Int))) && (y7 == (0 : Int))) && (y9 == (0 : Int))) && ((y.Num == (1 : Int)) && (y.Den == (1 : Int)))) && ((y2.Num == (1 : Int)) && (y2.Den == (2 : Int)))) && ((y4.Num == (1 : Int)) && (y4.Den == (2 : Int)))) && (y6 == (0 : Int))) && (y8 == (1 : Int))))))))], mkH []⟩) ?_
  refine lok_ret ?_
  obtain rfl := Option.some.inj H0
  try simp only [thenL, blockL]
  exact fin_au _ (.inr rfl) [] (⟨84, mkS [(0, .x (.one (.p (.val (.bool ((((((((((y1 == (0 : Int)) && (y3 == (0 : Int))) && (y5 == (0 : Int))) && (y7 == (0 : Int))) && (y9 == (0 : Int))) && ((y.Num == (1 : Int)) && (y.Den == (1 : Int)))) && ((y2.Num == (1 : Int)) && (y2.Den == (2 : Int)))) && ((y4.Num == (1 : Int)) && (y4.Den == (2 : Int)))) && (y6 == (0 : Int))) && (y8 == (1 : Int))))))))], mkH []⟩) rfl rfl imp_au
theorem ok_mark_Roll (l : List Int) (r_ : mark_Dice) (H0 : mark_Roll l = some r_) : CallOK Try.prog 11 [.one (.p (.sl 1 (List.map encI l)))] [] [.one (.ptr 0 0)] [some (.var [.p (.sl 1 (List.map encI r_.L)), .p (pi r_.At)])] := by
  refine callOK (n := 6) (rs := [.tmp 2]) (nb := 0) (V := []) Try.func11 rfl (by kernel_rfl) rfl rfl rfl rfl (Nat.le_of_ble_eq_true rfl) (by decide) ?_
  unfold mark_Roll at H0
  refine lok_rt E0 (⟨6, mkS [(0, .x (.one (.p (.sl 1 (List.map encI l)))))], mkH []⟩) ?_
  refine lok_rt E0 (⟨6, mkS [(2, .x (.one (.ptr 105 0)))], mkH [(105, .var [.p (.sl 1 (List.map encI l)), .p (pi (0 : Int))])]⟩) ?_
  refine lok_ret ?_
  obtain rfl := Option.some.inj H0
  try simp only [thenL, blockL]
  exact fin_nu [105] _ (.inr rfl) [105] (⟨6, mkS [(2, .x (.one (.ptr 105 0)))], mkH [(105, .var [.p (.sl 1 (List.map encI l)), .p (pi (0 : Int))])]⟩) rfl rfl imp_au
end Go.LS
