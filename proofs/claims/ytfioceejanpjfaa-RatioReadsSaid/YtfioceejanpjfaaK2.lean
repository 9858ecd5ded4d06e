/-
  The walks: the functions compute what the plain ones say. Condition: the plain function has a value.
-/
import Derived.Test.YtfioceejanpjfaaK1
import Derived.Test.YtfioceejanpjfaaD2
namespace Go.LS
open Go.Proofs
set_option linter.all false
set_option linter.unusedSimpArgs false
set_option linter.unusedVariables false
set_option maxRecDepth 20000

theorem ok_ref01_number (s : Str) (most : Int) (r_ : Int × Bool) (H0 : ref01_number s most = some r_) : CallOK Try.prog 36 [.one (.p (.val (.string (bs s)))), .one (.p (pi most))] [] [.one (.p (.val (.int .u64 r_.1))), .one (.p (.val (.bool r_.2)))] [] := by
  refine callOK (n := 42) (rs := [.tmp 4, .tmp 5]) (nb := 0) (V := []) Try.func36 rfl (by kernel_rfl) rfl rfl rfl rfl (Nat.le_of_ble_eq_true rfl) (by decide) ?_
  unfold ref01_number at H0
  refine lok_rt E0 (⟨42, mkS [(0, .x (.one (.p (.val (.string (bs s)))))), (1, .x (.one (.p (pi most))))], mkH []⟩) ?_
  refine lok_seq ?_
  refine lok_rt E0 (⟨42, mkS [(0, .x (.one (.p (.val (.string (bs s)))))), (16, .x (.one (.p (.val (.bool ((decide ((s.length : Int) < (1 : Int))) || (decide (most < (s.length : Int)))))))))], mkH []⟩) ?_
  refine lok_c ((decide ((s.length : Int) < (1 : Int))) || (decide (most < (s.length : Int)))) ?_ ?_
  · intro b_7
    replace H0 := cpos H0 b_7
    refine lok_rt E0 (⟨42, mkS [(4, .x (.one (.p (.val (.int .u64 (0 : Int)))))), (5, .x (.one (.p (.val (.bool false)))))], mkH []⟩) ?_
    refine lok_ret ?_
    obtain rfl := Option.some.inj H0
    try simp only [thenL, blockL]
    exact fin_au _ (.inr rfl) [] (⟨42, mkS [(4, .x (.one (.p (.val (.int .u64 (0 : Int)))))), (5, .x (.one (.p (.val (.bool false)))))], mkH []⟩) rfl rfl imp_au
  · intro b_7
    replace H0 := cneg H0 b_7
    refine lok_skip ?_
    try simp only [thenL, blockL, ↓reduceIte, reduceCtorEq]
    refine lok_rt E0 (⟨42, mkS [(0, .x (.one (.p (.val (.string (bs s)))))), (6, .x (.one (.p (.val (.int .u64 (0 : Int))))))], mkH []⟩) ?_
    refine lok_join (fun x_ : Int => ref01_number_j1 x_ = some r_) (fun x_ => ⟨42, mkS [(6, .x (.one (.p (.val (.int .u64 x_)))))], mkH []⟩) ?hyref01_number_j1 ?hxref01_number_j1
    case hyref01_number_j1 =>
      rintro n H0
      try dsimp only at H0 ⊢
      unfold ref01_number_j1 at H0
      refine lok_rt E0 (⟨42, mkS [(4, .x (.one (.p (.val (.int .u64 n))))), (5, .x (.one (.p (.val (.bool true)))))], mkH []⟩) ?_
      refine lok_ret ?_
      obtain rfl := Option.some.inj H0
      try simp only [thenL, blockL]
      exact fin_au _ (.inr rfl) [] (⟨42, mkS [(4, .x (.one (.p (.val (.int .u64 n))))), (5, .x (.one (.p (.val (.bool true)))))], mkH []⟩) rfl rfl imp_au
    case hxref01_number_j1 =>
      refine lok_rt E0 (⟨42, mkS [(0, .x (.one (.p (.val (.string (bs s)))))), (6, .x (.one (.p (.val (.int .u64 (0 : Int)))))), (7, .x (.one (.p (pi (0 : Int)))))], mkH []⟩) ?_
      refine lok_block ?_
      replace H0 := bind_some H0
      obtain ⟨v_0, hv_0, H0⟩ := H0
      refine lok_iter (fun x_ => ⟨42, mkS [(0, .x (.one (.p (.val (.string (bs s)))))), (6, .x (.one (.p (.val (.int .u64 x_.1))))), (7, .x (.one (.p (pi x_.2))))], mkH []⟩) hv_0 imp_au ?_
      · rintro ⟨n1, i⟩ o_1 H1 k_1
        unfold ref01_number_l2 at H1
        try dsimp only at H1 ⊢
        refine lok_seq ?_
        refine lok_rt E0 (⟨42, mkS [(0, .x (.one (.p (.val (.string (bs s)))))), (6, .x (.one (.p (.val (.int .u64 n1))))), (7, .x (.one (.p (pi i)))), (20, .x (.one (.p (.val (.bool (decide (i < (s.length : Int))))))))], mkH []⟩) ?_
        refine lok_c (decide (i < (s.length : Int))) ?_ ?_
        · intro b_6
          replace H1 := cpos H1 b_6
          refine lok_skip ?_
          try simp only [thenL, blockL, ↓reduceIte, reduceCtorEq]
          refine lok_seq ?_
          refine lok_block ?_
          refine lok_seq ?_
          replace H1 := req_some H1
          obtain ⟨⟨q_4, q_5⟩, H1⟩ := H1
          refine lok_rt E0 (⟨42, mkS [(0, .x (.one (.p (.val (.string (bs s)))))), (6, .x (.one (.p (.val (.int .u64 n1))))), (7, .x (.one (.p (pi i)))), (32, .x (.one (.p (.val (.bool ((decide ((sx s i) < (48 : Int))) || (decide ((57 : Int) < (sx s i)))))))))], mkH []⟩) ?_
          refine lok_c ((decide ((sx s i) < (48 : Int))) || (decide ((57 : Int) < (sx s i)))) ?_ ?_
          · intro b_3
            replace H1 := cpos H1 b_3
            refine lok_rt E0 (⟨42, mkS [(4, .x (.one (.p (.val (.int .u64 (0 : Int)))))), (5, .x (.one (.p (.val (.bool false)))))], mkH []⟩) ?_
            refine lok_ret ?_
            try simp only [thenL, blockL, ↓reduceIte, reduceCtorEq]
            have e_1 := k_1 _ (Option.some.inj H1).symm
            subst e_1
            try dsimp only at H0
            obtain rfl := Option.some.inj H0
            try simp only [thenL, blockL]
            exact fin_au _ (.inr rfl) [] (⟨42, mkS [(4, .x (.one (.p (.val (.int .u64 (0 : Int)))))), (5, .x (.one (.p (.val (.bool false)))))], mkH []⟩) rfl rfl imp_au
          · intro b_3
            replace H1 := cneg H1 b_3
            refine lok_skip ?_
            try simp only [thenL, blockL, ↓reduceIte, reduceCtorEq]
            replace H1 := req_some H1
            obtain ⟨q_2, H1⟩ := H1
            replace H1 := bindV_some H1
            obtain ⟨n3, a_1, H1⟩ := H1
            refine lok_rlg E0 a_1 (⟨42, mkS [(0, .x (.one (.p (.val (.string (bs s)))))), (6, .x (.one (.p (.val (.int .u64 n3))))), (7, .x (.one (.p (pi i))))], mkH []⟩) ?_
            try simp only [thenL, blockL, ↓reduceIte, reduceCtorEq]
            refine lok_rl E0 (⟨42, mkS [(0, .x (.one (.p (.val (.string (bs s)))))), (6, .x (.one (.p (.val (.int .u64 n3))))), (7, .x (.one (.p (pi (IntKind.i64.wrap (i + (1 : Int)))))))], mkH []⟩) ?_
            try simp only [thenL, blockL, ↓reduceIte, reduceCtorEq]
            exact ⟨(n3, (IntKind.i64.wrap (i + (1 : Int)))), (Option.some.inj H1).symm, imp_au⟩
        · intro b_6
          replace H1 := cneg H1 b_6
          refine lok_exit ?_
          try simp only [thenL, blockL, ↓reduceIte, reduceCtorEq]
          have e_1 := k_1 _ (Option.some.inj H1).symm
          subst e_1
          try dsimp only at H0
          try simp only [thenL, blockL, ↓reduceIte, reduceCtorEq]
          exact ⟨n1, H0, imp_au⟩
theorem ok_ref01_Twice (a : ref01_Wide) (r_ : ref01_Wide) (H0 : ref01_Twice a = some r_) : CallOK Try.prog 69 [.agg [.p (.val (.int .u64 a.Hi)), .p (.val (.int .u64 a.Lo))]] [] [.agg [.p (.val (.int .u64 r_.Hi)), .p (.val (.int .u64 r_.Lo))]] [] := by
  refine callOK (n := 14) (rs := [.cell 2 61]) (nb := 0) (V := []) Try.func69 rfl (by kernel_rfl) rfl rfl rfl rfl (Nat.le_of_ble_eq_true rfl) (by decide) ?_
  unfold ref01_Twice at H0
  refine lok_rt E0 (⟨14, mkS [(1, .x (.one (.ptr 101 0))), (2, .x (.one (.ptr 102 0)))], mkH [(101, .var [.p (.val (.int .u64 a.Hi)), .p (.val (.int .u64 a.Lo))]), (102, .var [.p (.val (.int .u64 (0 : Int))), .p (.val (.int .u64 (0 : Int)))])]⟩) ?_
  refine lok_rt E0 (⟨14, mkS [(2, .x (.one (.ptr 102 0)))], mkH [(102, .var [.p (.val (.int .u64 (bOr .u64 (bShl .u64 a.Hi (1 : Int)) (bShr .u64 a.Lo (63 : Int))))), .p (.val (.int .u64 (bShl .u64 a.Lo (1 : Int))))])]⟩) ?_
  refine lok_ret ?_
  obtain rfl := Option.some.inj H0
  try simp only [thenL, blockL]
  exact fin_au _ (.inr rfl) [] (⟨14, mkS [(2, .x (.one (.ptr 102 0)))], mkH [(102, .var [.p (.val (.int .u64 (bOr .u64 (bShl .u64 a.Hi (1 : Int)) (bShr .u64 a.Lo (63 : Int))))), .p (.val (.int .u64 (bShl .u64 a.Lo (1 : Int))))])]⟩) rfl rfl imp_au
theorem ok_ref01_Order (a : ref01_Wide) (b : ref01_Wide) (r_ : Int) (H0 : ref01_Order a b = some r_) : CallOK Try.prog 70 [.agg [.p (.val (.int .u64 a.Hi)), .p (.val (.int .u64 a.Lo))], .agg [.p (.val (.int .u64 b.Hi)), .p (.val (.int .u64 b.Lo))]] [] [.one (.p (pi r_))] [] := by
  refine callOK (n := 27) (rs := [.tmp 4]) (nb := 0) (V := []) Try.func70 rfl (by kernel_rfl) rfl rfl rfl rfl (Nat.le_of_ble_eq_true rfl) (by decide) ?_
  unfold ref01_Order at H0
  refine lok_rt E0 (⟨27, mkS [(2, .x (.one (.ptr 102 0))), (3, .x (.one (.ptr 103 0)))], mkH [(102, .var [.p (.val (.int .u64 a.Hi)), .p (.val (.int .u64 a.Lo))]), (103, .var [.p (.val (.int .u64 b.Hi)), .p (.val (.int .u64 b.Lo))])]⟩) ?_
  refine lok_seq ?_
  refine lok_rt E0 (⟨27, mkS [(2, .x (.one (.ptr 102 0))), (3, .x (.one (.ptr 103 0))), (23, .x (.one (.p (.val (.bool ((decide (a.Hi < b.Hi)) || ((a.Hi == b.Hi) && (decide (a.Lo < b.Lo)))))))))], mkH [(102, .var [.p (.val (.int .u64 a.Hi)), .p (.val (.int .u64 a.Lo))]), (103, .var [.p (.val (.int .u64 b.Hi)), .p (.val (.int .u64 b.Lo))])]⟩) ?_
  refine lok_c ((decide (a.Hi < b.Hi)) || ((a.Hi == b.Hi) && (decide (a.Lo < b.Lo)))) ?_ ?_
  · intro b_1
    replace H0 := cpos H0 b_1
    refine lok_rt E0 (⟨27, mkS [(4, .x (.one (.p (pi (-1 : Int)))))], mkH []⟩) ?_
    refine lok_ret ?_
    obtain rfl := Option.some.inj H0
    try simp only [thenL, blockL]
    exact fin_au _ (.inr rfl) [] (⟨27, mkS [(4, .x (.one (.p (pi (-1 : Int)))))], mkH []⟩) rfl rfl imp_au
  · intro b_1
    replace H0 := cneg H0 b_1
    refine lok_skip ?_
    try simp only [thenL, blockL, ↓reduceIte, reduceCtorEq]
    refine lok_seq ?_
    refine lok_rt E0 (⟨27, mkS [(26, .x (.one (.p (.val (.bool ((a.Hi == b.Hi) && (a.Lo == b.Lo)))))))], mkH []⟩) ?_
    refine lok_c ((a.Hi == b.Hi) && (a.Lo == b.Lo)) ?_ ?_
    · intro b_0
      replace H0 := cpos H0 b_0
      refine lok_rt E0 (⟨27, mkS [(4, .x (.one (.p (pi (0 : Int)))))], mkH []⟩) ?_
      refine lok_ret ?_
      obtain rfl := Option.some.inj H0
      try simp only [thenL, blockL]
      exact fin_au _ (.inr rfl) [] (⟨27, mkS [(4, .x (.one (.p (pi (0 : Int)))))], mkH []⟩) rfl rfl imp_au
    · intro b_0
      replace H0 := cneg H0 b_0
      refine lok_skip ?_
      try simp only [thenL, blockL, ↓reduceIte, reduceCtorEq]
      refine lok_rt E0 (⟨27, mkS [(4, .x (.one (.p (pi (1 : Int)))))], mkH []⟩) ?_
      refine lok_ret ?_
      obtain rfl := Option.some.inj H0
      try simp only [thenL, blockL]
      exact fin_au _ (.inr rfl) [] (⟨27, mkS [(4, .x (.one (.p (pi (1 : Int)))))], mkH []⟩) rfl rfl imp_au
theorem ok_bits_Sub64 (x y borrow : Int) (r_ : Int × Int) (H0 : bits_Sub64 x y borrow = some r_) : CallOK Try.prog 75 [.int .u64 x, .int .u64 y, .int .u64 borrow] [] [.int .u64 r_.1, .int .u64 r_.2] [] :=
  okSub64 Try.func75 (by kernel_rfl) (by kernel_rfl) (by kernel_rfl) (by kernel_rfl) _ _ _ r_ H0
theorem ok_ref01_Minus (a : ref01_Wide) (b : ref01_Wide) (r_ : ref01_Wide) (H0 : ref01_Minus a b = some r_) : CallOK Try.prog 71 [.agg [.p (.val (.int .u64 a.Hi)), .p (.val (.int .u64 a.Lo))], .agg [.p (.val (.int .u64 b.Hi)), .p (.val (.int .u64 b.Lo))]] [] [.agg [.p (.val (.int .u64 r_.Hi)), .p (.val (.int .u64 r_.Lo))]] [] := by
  refine callOK (n := 29) (rs := [.cell 4 61]) (nb := 0) (V := []) Try.func71 rfl (by kernel_rfl) rfl rfl rfl rfl (Nat.le_of_ble_eq_true rfl) (by decide) ?_
  unfold ref01_Minus at H0
  refine lok_rt E0 (⟨29, mkS [(2, .x (.one (.ptr 102 0))), (3, .x (.one (.ptr 103 0))), (4, .x (.one (.ptr 104 0)))], mkH [(102, .var [.p (.val (.int .u64 a.Hi)), .p (.val (.int .u64 a.Lo))]), (103, .var [.p (.val (.int .u64 b.Hi)), .p (.val (.int .u64 b.Lo))]), (104, .var [.p (.val (.int .u64 (0 : Int))), .p (.val (.int .u64 (0 : Int)))])]⟩) ?_
  replace H0 := bind_some H0
  obtain ⟨⟨y, y1⟩, h_0, H0⟩ := H0
  try dsimp only at H0
  refine lok_rt (Env.of E0 [⟨some 14, 75, [.one (.p (.val (.int .u64 a.Lo))), .one (.p (.val (.int .u64 b.Lo))), .one (.p (.val (.int .u64 (0 : Int))))], [], [.one (.p (.val (.int .u64 y))), .one (.p (.val (.int .u64 y1)))], [], True, fun _ => ok_bits_Sub64 a.Lo b.Lo (0 : Int) (y, y1) h_0, []⟩]) (⟨29, mkS [(2, .x (.one (.ptr 102 0))), (3, .x (.one (.ptr 103 0))), (4, .x (.one (.ptr 104 0))), (5, .x (.one (.p (.val (.int .u64 y))))), (6, .x (.one (.p (.val (.int .u64 y1)))))], mkH [(102, .var [.p (.val (.int .u64 a.Hi)), .p (.val (.int .u64 a.Lo))]), (103, .var [.p (.val (.int .u64 b.Hi)), .p (.val (.int .u64 b.Lo))]), (104, .var [.p (.val (.int .u64 (0 : Int))), .p (.val (.int .u64 (0 : Int)))])]⟩) ?_
  replace H0 := bind_some H0
  obtain ⟨⟨y2, y3⟩, h_1, H0⟩ := H0
  try dsimp only at H0
  refine lok_rt (Env.of E0 [⟨some 23, 75, [.one (.p (.val (.int .u64 a.Hi))), .one (.p (.val (.int .u64 b.Hi))), .one (.p (.val (.int .u64 y1)))], [], [.one (.p (.val (.int .u64 y2))), .one (.p (.val (.int .u64 y3)))], [], True, fun _ => ok_bits_Sub64 a.Hi b.Hi y1 (y2, y3) h_1, []⟩]) (⟨29, mkS [(4, .x (.one (.ptr 104 0))), (5, .x (.one (.p (.val (.int .u64 y))))), (7, .x (.one (.p (.val (.int .u64 y2)))))], mkH [(104, .var [.p (.val (.int .u64 (0 : Int))), .p (.val (.int .u64 (0 : Int)))])]⟩) ?_
  refine lok_rt E0 (⟨29, mkS [(4, .x (.one (.ptr 104 0)))], mkH [(104, .var [.p (.val (.int .u64 y2)), .p (.val (.int .u64 y))])]⟩) ?_
  refine lok_ret ?_
  obtain rfl := Option.some.inj H0
  try simp only [thenL, blockL]
  exact fin_au _ (.inr rfl) [] (⟨29, mkS [(4, .x (.one (.ptr 104 0)))], mkH [(104, .var [.p (.val (.int .u64 y2)), .p (.val (.int .u64 y))])]⟩) rfl rfl imp_au
theorem ok_ref01_Divide (a : ref01_Wide) (b : ref01_Wide) (r_ : ref01_Wide × ref01_Wide) (H0 : ref01_Divide a b = some r_) : CallOK Try.prog 60 [.agg [.p (.val (.int .u64 a.Hi)), .p (.val (.int .u64 a.Lo))], .agg [.p (.val (.int .u64 b.Hi)), .p (.val (.int .u64 b.Lo))]] [] [.agg [.p (.val (.int .u64 r_.1.Hi)), .p (.val (.int .u64 r_.1.Lo))], .agg [.p (.val (.int .u64 r_.2.Hi)), .p (.val (.int .u64 r_.2.Lo))]] [] := by
  refine callOK (n := 82) (rs := [.cell 4 61, .cell 5 61]) (nb := 0) (V := []) Try.func60 rfl (by kernel_rfl) rfl rfl rfl rfl (Nat.le_of_ble_eq_true rfl) (by decide) ?_
  unfold ref01_Divide at H0
  refine lok_rt E0 (⟨82, mkS [(2, .x (.one (.ptr 102 0))), (3, .x (.one (.ptr 103 0))), (4, .x (.one (.ptr 104 0))), (5, .x (.one (.ptr 105 0)))], mkH [(102, .var [.p (.val (.int .u64 a.Hi)), .p (.val (.int .u64 a.Lo))]), (103, .var [.p (.val (.int .u64 b.Hi)), .p (.val (.int .u64 b.Lo))]), (104, .var [.p (.val (.int .u64 (0 : Int))), .p (.val (.int .u64 (0 : Int)))]), (105, .var [.p (.val (.int .u64 (0 : Int))), .p (.val (.int .u64 (0 : Int)))])]⟩) ?_
  refine lok_seq ?_
  refine lok_rt E0 (⟨82, mkS [(2, .x (.one (.ptr 102 0))), (3, .x (.one (.ptr 103 0))), (4, .x (.one (.ptr 104 0))), (5, .x (.one (.ptr 105 0))), (18, .x (.one (.p (.val (.bool ((a.Hi == (0 : Int)) && (b.Hi == (0 : Int))))))))], mkH [(102, .var [.p (.val (.int .u64 a.Hi)), .p (.val (.int .u64 a.Lo))]), (103, .var [.p (.val (.int .u64 b.Hi)), .p (.val (.int .u64 b.Lo))]), (104, .var [.p (.val (.int .u64 (0 : Int))), .p (.val (.int .u64 (0 : Int)))]), (105, .var [.p (.val (.int .u64 (0 : Int))), .p (.val (.int .u64 (0 : Int)))])]⟩) ?_
  refine lok_c ((a.Hi == (0 : Int)) && (b.Hi == (0 : Int))) ?_ ?_
  · intro b_13
    replace H0 := cpos H0 b_13
    replace H0 := req_some H0
    obtain ⟨q_0, H0⟩ := H0
    refine lok_et E0 82 [⟨[(2, .x (.one (.ptr 102 0)))], [], [(19, .x (.one (.ptr 102 1)))], [], none⟩,
      ⟨[(19, .x (.one (.ptr 102 1)))], [(102, some (.var [.p (.val (.int .u64 a.Hi)), .p (.val (.int .u64 a.Lo))]))], [(20, .x (.one (.p (.val (.int .u64 a.Lo)))))], [], none⟩,
      ⟨[(3, .x (.one (.ptr 103 0)))], [], [(21, .x (.one (.ptr 103 1)))], [], none⟩,
      ⟨[(21, .x (.one (.ptr 103 1)))], [(103, some (.var [.p (.val (.int .u64 b.Hi)), .p (.val (.int .u64 b.Lo))]))], [(22, .x (.one (.p (.val (.int .u64 b.Lo)))))], [], none⟩,
      ⟨[(20, .x (.one (.p (.val (.int .u64 a.Lo))))), (22, .x (.one (.p (.val (.int .u64 b.Lo)))))], [], [(23, .x (.one (.p (.val (.int .u64 (IntKind.u64.wrap (Int.tdiv a.Lo b.Lo)))))))], [], none⟩,
      ⟨[(23, .x (.one (.p (.val (.int .u64 (IntKind.u64.wrap (Int.tdiv a.Lo b.Lo)))))))], [], [(24, .x (.agg [.p (.val (.int .u64 (0 : Int))), .p (.val (.int .u64 (IntKind.u64.wrap (Int.tdiv a.Lo b.Lo))))]))], [], none⟩,
      ⟨[(2, .x (.one (.ptr 102 0)))], [], [(25, .x (.one (.ptr 102 1)))], [], none⟩,
      ⟨[(25, .x (.one (.ptr 102 1)))], [(102, some (.var [.p (.val (.int .u64 a.Hi)), .p (.val (.int .u64 a.Lo))]))], [(26, .x (.one (.p (.val (.int .u64 a.Lo)))))], [], none⟩,
      ⟨[(3, .x (.one (.ptr 103 0)))], [], [(27, .x (.one (.ptr 103 1)))], [], none⟩,
      ⟨[(27, .x (.one (.ptr 103 1)))], [(103, some (.var [.p (.val (.int .u64 b.Hi)), .p (.val (.int .u64 b.Lo))]))], [(28, .x (.one (.p (.val (.int .u64 b.Lo)))))], [], none⟩,
      ⟨[(26, .x (.one (.p (.val (.int .u64 a.Lo))))), (28, .x (.one (.p (.val (.int .u64 b.Lo)))))], [], [(29, .x (.one (.p (.val (.int .u64 (Int.tmod a.Lo b.Lo))))))], [], none⟩,
      ⟨[(29, .x (.one (.p (.val (.int .u64 (Int.tmod a.Lo b.Lo))))))], [], [(30, .x (.agg [.p (.val (.int .u64 (0 : Int))), .p (.val (.int .u64 (Int.tmod a.Lo b.Lo)))]))], [], none⟩,
      ⟨[(4, .x (.one (.ptr 104 0))), (24, .x (.agg [.p (.val (.int .u64 (0 : Int))), .p (.val (.int .u64 (IntKind.u64.wrap (Int.tdiv a.Lo b.Lo))))]))], [(104, some (.var [.p (.val (.int .u64 (0 : Int))), .p (.val (.int .u64 (0 : Int)))]))], [], [(104, some (.var [.p (.val (.int .u64 (0 : Int))), .p (.val (.int .u64 (IntKind.u64.wrap (Int.tdiv a.Lo b.Lo))))]))], none⟩] (⟨82, mkS [(4, .x (.one (.ptr 104 0))), (5, .x (.one (.ptr 105 0)))], mkH [(104, .var [.p (.val (.int .u64 (0 : Int))), .p (.val (.int .u64 (IntKind.u64.wrap (Int.tdiv a.Lo b.Lo))))]), (105, .var [.p (.val (.int .u64 (0 : Int))), .p (.val (.int .u64 (Int.tmod a.Lo b.Lo)))])]⟩) (by kernel_rfl) (by kernel_rfl) (by kernel_rfl) rfl rfl rfl ?_
    refine lok_ret ?_
    obtain rfl := Option.some.inj H0
    try simp only [thenL, blockL]
    exact fin_au _ (.inr rfl) [] (⟨82, mkS [(4, .x (.one (.ptr 104 0))), (5, .x (.one (.ptr 105 0)))], mkH [(104, .var [.p (.val (.int .u64 (0 : Int))), .p (.val (.int .u64 (IntKind.u64.wrap (Int.tdiv a.Lo b.Lo))))]), (105, .var [.p (.val (.int .u64 (0 : Int))), .p (.val (.int .u64 (Int.tmod a.Lo b.Lo)))])]⟩) rfl rfl imp_au
  · intro b_13
    replace H0 := cneg H0 b_13
    refine lok_skip ?_
    try simp only [thenL, blockL, ↓reduceIte, reduceCtorEq]
    refine lok_rt E0 (⟨82, mkS [(2, .x (.one (.ptr 102 0))), (3, .x (.one (.ptr 103 0))), (4, .x (.one (.ptr 104 0))), (5, .x (.one (.ptr 105 0))), (6, .x (.one (.ptr 106 0))), (7, .x (.one (.ptr 107 0)))], mkH [(102, .var [.p (.val (.int .u64 a.Hi)), .p (.val (.int .u64 a.Lo))]), (103, .var [.p (.val (.int .u64 b.Hi)), .p (.val (.int .u64 b.Lo))]), (104, .var [.p (.val (.int .u64 (0 : Int))), .p (.val (.int .u64 (0 : Int)))]), (105, .var [.p (.val (.int .u64 (0 : Int))), .p (.val (.int .u64 (0 : Int)))]), (106, .var [.p (.val (.int .u64 (0 : Int))), .p (.val (.int .u64 (0 : Int)))]), (107, .var [.p (.val (.int .u64 (0 : Int))), .p (.val (.int .u64 (0 : Int)))])]⟩) ?_
    refine lok_join (fun x_ : Int × Int × Int × Int => ref01_Divide_j1 x_.1 x_.2.1 x_.2.2.1 x_.2.2.2 = some r_) (fun x_ => ⟨82, mkS [(4, .x (.one (.ptr 104 0))), (5, .x (.one (.ptr 105 0))), (6, .x (.one (.ptr 106 0))), (7, .x (.one (.ptr 107 0)))], mkH [(104, .var [.p (.val (.int .u64 (0 : Int))), .p (.val (.int .u64 (0 : Int)))]), (105, .var [.p (.val (.int .u64 (0 : Int))), .p (.val (.int .u64 (0 : Int)))]), (106, .var [.p (.val (.int .u64 x_.1)), .p (.val (.int .u64 x_.2.1))]), (107, .var [.p (.val (.int .u64 x_.2.2.1)), .p (.val (.int .u64 x_.2.2.2))])]⟩) ?hyref01_Divide_j1 ?hxref01_Divide_j1
    case hyref01_Divide_j1 =>
      rintro ⟨q, q1, r, r1⟩ H0
      try dsimp only at H0 ⊢
      unfold ref01_Divide_j1 at H0
      refine lok_et E0 82 [⟨[(6, .x (.one (.ptr 106 0)))], [(106, some (.var [.p (.val (.int .u64 q)), .p (.val (.int .u64 q1))]))], [(80, .x (.agg [.p (.val (.int .u64 q)), .p (.val (.int .u64 q1))]))], [], none⟩,
      ⟨[(7, .x (.one (.ptr 107 0)))], [(107, some (.var [.p (.val (.int .u64 r)), .p (.val (.int .u64 r1))]))], [(81, .x (.agg [.p (.val (.int .u64 r)), .p (.val (.int .u64 r1))]))], [], none⟩,
      ⟨[(4, .x (.one (.ptr 104 0))), (80, .x (.agg [.p (.val (.int .u64 q)), .p (.val (.int .u64 q1))]))], [(104, some (.var [.p (.val (.int .u64 (0 : Int))), .p (.val (.int .u64 (0 : Int)))]))], [], [(104, some (.var [.p (.val (.int .u64 q)), .p (.val (.int .u64 q1))]))], none⟩] (⟨82, mkS [(4, .x (.one (.ptr 104 0))), (5, .x (.one (.ptr 105 0)))], mkH [(104, .var [.p (.val (.int .u64 q)), .p (.val (.int .u64 q1))]), (105, .var [.p (.val (.int .u64 r)), .p (.val (.int .u64 r1))])]⟩) (by kernel_rfl) (by kernel_rfl) (by kernel_rfl) rfl rfl rfl ?_
      refine lok_ret ?_
      obtain rfl := Option.some.inj H0
      try simp only [thenL, blockL]
      exact fin_au _ (.inr rfl) [] (⟨82, mkS [(4, .x (.one (.ptr 104 0))), (5, .x (.one (.ptr 105 0)))], mkH [(104, .var [.p (.val (.int .u64 q)), .p (.val (.int .u64 q1))]), (105, .var [.p (.val (.int .u64 r)), .p (.val (.int .u64 r1))])]⟩) rfl rfl imp_au
    case hxref01_Divide_j1 =>
      refine lok_rt E0 (⟨82, mkS [(2, .x (.one (.ptr 102 0))), (3, .x (.one (.ptr 103 0))), (4, .x (.one (.ptr 104 0))), (5, .x (.one (.ptr 105 0))), (6, .x (.one (.ptr 106 0))), (7, .x (.one (.ptr 107 0))), (8, .x (.one (.p (pi (127 : Int)))))], mkH [(102, .var [.p (.val (.int .u64 a.Hi)), .p (.val (.int .u64 a.Lo))]), (103, .var [.p (.val (.int .u64 b.Hi)), .p (.val (.int .u64 b.Lo))]), (104, .var [.p (.val (.int .u64 (0 : Int))), .p (.val (.int .u64 (0 : Int)))]), (105, .var [.p (.val (.int .u64 (0 : Int))), .p (.val (.int .u64 (0 : Int)))]), (106, .var [.p (.val (.int .u64 (0 : Int))), .p (.val (.int .u64 (0 : Int)))]), (107, .var [.p (.val (.int .u64 (0 : Int))), .p (.val (.int .u64 (0 : Int)))])]⟩) ?_
      refine lok_block ?_
      replace H0 := bind_some H0
      obtain ⟨v_1, hv_1, H0⟩ := H0
      refine lok_iter (fun x_ => ⟨82, mkS [(2, .x (.one (.ptr 102 0))), (3, .x (.one (.ptr 103 0))), (4, .x (.one (.ptr 104 0))), (5, .x (.one (.ptr 105 0))), (6, .x (.one (.ptr 106 0))), (7, .x (.one (.ptr 107 0))), (8, .x (.one (.p (pi x_.1))))], mkH [(102, .var [.p (.val (.int .u64 a.Hi)), .p (.val (.int .u64 a.Lo))]), (103, .var [.p (.val (.int .u64 b.Hi)), .p (.val (.int .u64 b.Lo))]), (104, .var [.p (.val (.int .u64 (0 : Int))), .p (.val (.int .u64 (0 : Int)))]), (105, .var [.p (.val (.int .u64 (0 : Int))), .p (.val (.int .u64 (0 : Int)))]), (106, .var [.p (.val (.int .u64 x_.2.1)), .p (.val (.int .u64 x_.2.2.1))]), (107, .var [.p (.val (.int .u64 x_.2.2.2.1)), .p (.val (.int .u64 x_.2.2.2.2))])]⟩) hv_1 imp_au ?_
      · rintro ⟨i, q2, q3, r2, r3⟩ o_1 H1 k_1
        unfold ref01_Divide_l4 at H1
        try dsimp only at H1 ⊢
        refine lok_seq ?_
        refine lok_rt E0 (⟨82, mkS [(2, .x (.one (.ptr 102 0))), (3, .x (.one (.ptr 103 0))), (4, .x (.one (.ptr 104 0))), (5, .x (.one (.ptr 105 0))), (6, .x (.one (.ptr 106 0))), (7, .x (.one (.ptr 107 0))), (8, .x (.one (.p (pi i)))), (34, .x (.one (.p (.val (.bool (decide ((0 : Int) ≤ i)))))))], mkH [(102, .var [.p (.val (.int .u64 a.Hi)), .p (.val (.int .u64 a.Lo))]), (103, .var [.p (.val (.int .u64 b.Hi)), .p (.val (.int .u64 b.Lo))]), (104, .var [.p (.val (.int .u64 (0 : Int))), .p (.val (.int .u64 (0 : Int)))]), (105, .var [.p (.val (.int .u64 (0 : Int))), .p (.val (.int .u64 (0 : Int)))]), (106, .var [.p (.val (.int .u64 q2)), .p (.val (.int .u64 q3))]), (107, .var [.p (.val (.int .u64 r2)), .p (.val (.int .u64 r3))])]⟩) ?_
        refine lok_c (decide ((0 : Int) ≤ i)) ?_ ?_
        · intro b_12
          replace H1 := cpos H1 b_12
          refine lok_skip ?_
          try simp only [thenL, blockL, ↓reduceIte, reduceCtorEq]
          refine lok_join (fun x_ : Int × Int × Int × Int => ref01_Divide_j2 i x_.1 x_.2.1 x_.2.2.1 x_.2.2.2 = some o_1) (fun x_ => ⟨82, mkS [(2, .x (.one (.ptr 102 0))), (3, .x (.one (.ptr 103 0))), (4, .x (.one (.ptr 104 0))), (5, .x (.one (.ptr 105 0))), (6, .x (.one (.ptr 106 0))), (7, .x (.one (.ptr 107 0))), (8, .x (.one (.p (pi i))))], mkH [(102, .var [.p (.val (.int .u64 a.Hi)), .p (.val (.int .u64 a.Lo))]), (103, .var [.p (.val (.int .u64 b.Hi)), .p (.val (.int .u64 b.Lo))]), (104, .var [.p (.val (.int .u64 (0 : Int))), .p (.val (.int .u64 (0 : Int)))]), (105, .var [.p (.val (.int .u64 (0 : Int))), .p (.val (.int .u64 (0 : Int)))]), (106, .var [.p (.val (.int .u64 x_.1)), .p (.val (.int .u64 x_.2.1))]), (107, .var [.p (.val (.int .u64 x_.2.2.1)), .p (.val (.int .u64 x_.2.2.2))])]⟩) ?hyref01_Divide_j2 ?hxref01_Divide_j2
          case hyref01_Divide_j2 =>
            rintro ⟨q6, q7, r6, r7⟩ H1
            try dsimp only at H1 ⊢
            unfold ref01_Divide_j2 at H1
            refine lok_rl E0 (⟨82, mkS [(2, .x (.one (.ptr 102 0))), (3, .x (.one (.ptr 103 0))), (4, .x (.one (.ptr 104 0))), (5, .x (.one (.ptr 105 0))), (6, .x (.one (.ptr 106 0))), (7, .x (.one (.ptr 107 0))), (8, .x (.one (.p (pi (IntKind.i64.wrap (i - (1 : Int)))))))], mkH [(102, .var [.p (.val (.int .u64 a.Hi)), .p (.val (.int .u64 a.Lo))]), (103, .var [.p (.val (.int .u64 b.Hi)), .p (.val (.int .u64 b.Lo))]), (104, .var [.p (.val (.int .u64 (0 : Int))), .p (.val (.int .u64 (0 : Int)))]), (105, .var [.p (.val (.int .u64 (0 : Int))), .p (.val (.int .u64 (0 : Int)))]), (106, .var [.p (.val (.int .u64 q6)), .p (.val (.int .u64 q7))]), (107, .var [.p (.val (.int .u64 r6)), .p (.val (.int .u64 r7))])]⟩) ?_
            try simp only [thenL, blockL, ↓reduceIte, reduceCtorEq]
            exact ⟨((IntKind.i64.wrap (i - (1 : Int))), q6, q7, r6, r7), (Option.some.inj H1).symm, imp_au⟩
          case hxref01_Divide_j2 =>
            refine lok_block ?_
            replace H1 := req_some H1
            obtain ⟨q_11, H1⟩ := H1
            replace H1 := bindV_some H1
            obtain ⟨bit, a_2, H1⟩ := H1
            refine lok_rtg E0 a_2 (⟨82, mkS [(2, .x (.one (.ptr 102 0))), (3, .x (.one (.ptr 103 0))), (4, .x (.one (.ptr 104 0))), (5, .x (.one (.ptr 105 0))), (6, .x (.one (.ptr 106 0))), (7, .x (.one (.ptr 107 0))), (8, .x (.one (.p (pi i)))), (9, .x (.one (.p (.val (.int .u64 bit)))))], mkH [(102, .var [.p (.val (.int .u64 a.Hi)), .p (.val (.int .u64 a.Lo))]), (103, .var [.p (.val (.int .u64 b.Hi)), .p (.val (.int .u64 b.Lo))]), (104, .var [.p (.val (.int .u64 (0 : Int))), .p (.val (.int .u64 (0 : Int)))]), (105, .var [.p (.val (.int .u64 (0 : Int))), .p (.val (.int .u64 (0 : Int)))]), (106, .var [.p (.val (.int .u64 q2)), .p (.val (.int .u64 q3))]), (107, .var [.p (.val (.int .u64 r2)), .p (.val (.int .u64 r3))])]⟩) ?_
            refine lok_join (fun x_ : Int => ref01_Divide_j3 b i q2 q3 r2 r3 x_ = some o_1) (fun x_ => ⟨82, mkS [(2, .x (.one (.ptr 102 0))), (3, .x (.one (.ptr 103 0))), (4, .x (.one (.ptr 104 0))), (5, .x (.one (.ptr 105 0))), (6, .x (.one (.ptr 106 0))), (7, .x (.one (.ptr 107 0))), (8, .x (.one (.p (pi i)))), (9, .x (.one (.p (.val (.int .u64 x_)))))], mkH [(102, .var [.p (.val (.int .u64 a.Hi)), .p (.val (.int .u64 a.Lo))]), (103, .var [.p (.val (.int .u64 b.Hi)), .p (.val (.int .u64 b.Lo))]), (104, .var [.p (.val (.int .u64 (0 : Int))), .p (.val (.int .u64 (0 : Int)))]), (105, .var [.p (.val (.int .u64 (0 : Int))), .p (.val (.int .u64 (0 : Int)))]), (106, .var [.p (.val (.int .u64 q2)), .p (.val (.int .u64 q3))]), (107, .var [.p (.val (.int .u64 r2)), .p (.val (.int .u64 r3))])]⟩) ?hyref01_Divide_j3 ?hxref01_Divide_j3
            case hyref01_Divide_j3 =>
              rintro bit1 H1
              try dsimp only at H1 ⊢
              unfold ref01_Divide_j3 at H1
              refine lok_rt E0 (⟨82, mkS [(2, .x (.one (.ptr 102 0))), (3, .x (.one (.ptr 103 0))), (4, .x (.one (.ptr 104 0))), (5, .x (.one (.ptr 105 0))), (6, .x (.one (.ptr 106 0))), (7, .x (.one (.ptr 107 0))), (8, .x (.one (.p (pi i)))), (9, .x (.one (.p (.val (.int .u64 bit1))))), (10, .x (.one (.p (.val (.bool ((bShr .u64 r2 (63 : Int)) == (1 : Int)))))))], mkH [(102, .var [.p (.val (.int .u64 a.Hi)), .p (.val (.int .u64 a.Lo))]), (103, .var [.p (.val (.int .u64 b.Hi)), .p (.val (.int .u64 b.Lo))]), (104, .var [.p (.val (.int .u64 (0 : Int))), .p (.val (.int .u64 (0 : Int)))]), (105, .var [.p (.val (.int .u64 (0 : Int))), .p (.val (.int .u64 (0 : Int)))]), (106, .var [.p (.val (.int .u64 q2)), .p (.val (.int .u64 q3))]), (107, .var [.p (.val (.int .u64 r2)), .p (.val (.int .u64 r3))])]⟩) ?_
              replace H1 := bind_some H1
              obtain ⟨y, h_3, H1⟩ := H1
              refine lok_rt (Env.of E0 [⟨some 58, 69, [.agg [.p (.val (.int .u64 r2)), .p (.val (.int .u64 r3))]], [], [.agg [.p (.val (.int .u64 y.Hi)), .p (.val (.int .u64 y.Lo))]], [], True, fun _ => ok_ref01_Twice (ref01_Wide.mk r2 r3) y h_3, []⟩]) (⟨82, mkS [(2, .x (.one (.ptr 102 0))), (3, .x (.one (.ptr 103 0))), (4, .x (.one (.ptr 104 0))), (5, .x (.one (.ptr 105 0))), (6, .x (.one (.ptr 106 0))), (7, .x (.one (.ptr 107 0))), (8, .x (.one (.p (pi i)))), (9, .x (.one (.p (.val (.int .u64 bit1))))), (10, .x (.one (.p (.val (.bool ((bShr .u64 r2 (63 : Int)) == (1 : Int)))))))], mkH [(102, .var [.p (.val (.int .u64 a.Hi)), .p (.val (.int .u64 a.Lo))]), (103, .var [.p (.val (.int .u64 b.Hi)), .p (.val (.int .u64 b.Lo))]), (104, .var [.p (.val (.int .u64 (0 : Int))), .p (.val (.int .u64 (0 : Int)))]), (105, .var [.p (.val (.int .u64 (0 : Int))), .p (.val (.int .u64 (0 : Int)))]), (106, .var [.p (.val (.int .u64 q2)), .p (.val (.int .u64 q3))]), (107, .var [.p (.val (.int .u64 y.Hi)), .p (.val (.int .u64 y.Lo))])]⟩) ?_
              refine lok_rt E0 (⟨82, mkS [(2, .x (.one (.ptr 102 0))), (3, .x (.one (.ptr 103 0))), (4, .x (.one (.ptr 104 0))), (5, .x (.one (.ptr 105 0))), (6, .x (.one (.ptr 106 0))), (7, .x (.one (.ptr 107 0))), (8, .x (.one (.p (pi i)))), (10, .x (.one (.p (.val (.bool ((bShr .u64 r2 (63 : Int)) == (1 : Int)))))))], mkH [(102, .var [.p (.val (.int .u64 a.Hi)), .p (.val (.int .u64 a.Lo))]), (103, .var [.p (.val (.int .u64 b.Hi)), .p (.val (.int .u64 b.Lo))]), (104, .var [.p (.val (.int .u64 (0 : Int))), .p (.val (.int .u64 (0 : Int)))]), (105, .var [.p (.val (.int .u64 (0 : Int))), .p (.val (.int .u64 (0 : Int)))]), (106, .var [.p (.val (.int .u64 q2)), .p (.val (.int .u64 q3))]), (107, .var [.p (.val (.int .u64 y.Hi)), .p (.val (.int .u64 (bOr .u64 y.Lo bit1)))])]⟩) ?_
              replace H1 := bind_some H1
              obtain ⟨y1, h_4, H1⟩ := H1
              refine lok_rt (Env.of E0 [⟨some 65, 69, [.agg [.p (.val (.int .u64 q2)), .p (.val (.int .u64 q3))]], [], [.agg [.p (.val (.int .u64 y1.Hi)), .p (.val (.int .u64 y1.Lo))]], [], True, fun _ => ok_ref01_Twice (ref01_Wide.mk q2 q3) y1 h_4, []⟩]) (⟨82, mkS [(2, .x (.one (.ptr 102 0))), (3, .x (.one (.ptr 103 0))), (4, .x (.one (.ptr 104 0))), (5, .x (.one (.ptr 105 0))), (6, .x (.one (.ptr 106 0))), (7, .x (.one (.ptr 107 0))), (8, .x (.one (.p (pi i)))), (10, .x (.one (.p (.val (.bool ((bShr .u64 r2 (63 : Int)) == (1 : Int)))))))], mkH [(102, .var [.p (.val (.int .u64 a.Hi)), .p (.val (.int .u64 a.Lo))]), (103, .var [.p (.val (.int .u64 b.Hi)), .p (.val (.int .u64 b.Lo))]), (104, .var [.p (.val (.int .u64 (0 : Int))), .p (.val (.int .u64 (0 : Int)))]), (105, .var [.p (.val (.int .u64 (0 : Int))), .p (.val (.int .u64 (0 : Int)))]), (106, .var [.p (.val (.int .u64 y1.Hi)), .p (.val (.int .u64 y1.Lo))]), (107, .var [.p (.val (.int .u64 y.Hi)), .p (.val (.int .u64 (bOr .u64 y.Lo bit1)))])]⟩) ?_
              replace H1 := req_some H1
              obtain ⟨q_7, H1⟩ := H1
              refine lok_rt (Env.of E0 [⟨some 70, 70, [.agg [.p (.val (.int .u64 y.Hi)), .p (.val (.int .u64 (bOr .u64 y.Lo bit1)))], .agg [.p (.val (.int .u64 b.Hi)), .p (.val (.int .u64 b.Lo))]], [], [.one (.p (pi ((ref01_Order (ref01_Wide.mk y.Hi (bOr .u64 y.Lo bit1)) b).getD default)))], [], (ref01_Order (ref01_Wide.mk y.Hi (bOr .u64 y.Lo bit1)) b).isSome = true, fun h => ok_ref01_Order (ref01_Wide.mk y.Hi (bOr .u64 y.Lo bit1)) b _ (isSome_get h), []⟩]) (⟨82, mkS [(2, .x (.one (.ptr 102 0))), (3, .x (.one (.ptr 103 0))), (4, .x (.one (.ptr 104 0))), (5, .x (.one (.ptr 105 0))), (6, .x (.one (.ptr 106 0))), (7, .x (.one (.ptr 107 0))), (8, .x (.one (.p (pi i)))), (72, .x (.one (.p (.val (.bool (((bShr .u64 r2 (63 : Int)) == (1 : Int)) || (decide ((0 : Int) ≤ ((ref01_Order (ref01_Wide.mk y.Hi (bOr .u64 y.Lo bit1)) b).getD default)))))))))], mkH [(102, .var [.p (.val (.int .u64 a.Hi)), .p (.val (.int .u64 a.Lo))]), (103, .var [.p (.val (.int .u64 b.Hi)), .p (.val (.int .u64 b.Lo))]), (104, .var [.p (.val (.int .u64 (0 : Int))), .p (.val (.int .u64 (0 : Int)))]), (105, .var [.p (.val (.int .u64 (0 : Int))), .p (.val (.int .u64 (0 : Int)))]), (106, .var [.p (.val (.int .u64 y1.Hi)), .p (.val (.int .u64 y1.Lo))]), (107, .var [.p (.val (.int .u64 y.Hi)), .p (.val (.int .u64 (bOr .u64 y.Lo bit1)))])]⟩) ?_
              refine lok_c (((bShr .u64 r2 (63 : Int)) == (1 : Int)) || (decide ((0 : Int) ≤ ((ref01_Order (ref01_Wide.mk y.Hi (bOr .u64 y.Lo bit1)) b).getD default)))) ?_ ?_
              · intro b_6
                replace H1 := cpos H1 b_6
                replace H1 := bind_some H1
                obtain ⟨y2, h_5, H1⟩ := H1
                refine lok_rt (Env.of E0 [⟨some 75, 71, [.agg [.p (.val (.int .u64 y.Hi)), .p (.val (.int .u64 (bOr .u64 y.Lo bit1)))], .agg [.p (.val (.int .u64 b.Hi)), .p (.val (.int .u64 b.Lo))]], [], [.agg [.p (.val (.int .u64 y2.Hi)), .p (.val (.int .u64 y2.Lo))]], [], True, fun _ => ok_ref01_Minus (ref01_Wide.mk y.Hi (bOr .u64 y.Lo bit1)) b y2 h_5, []⟩]) (⟨82, mkS [(2, .x (.one (.ptr 102 0))), (3, .x (.one (.ptr 103 0))), (4, .x (.one (.ptr 104 0))), (5, .x (.one (.ptr 105 0))), (6, .x (.one (.ptr 106 0))), (7, .x (.one (.ptr 107 0))), (8, .x (.one (.p (pi i))))], mkH [(102, .var [.p (.val (.int .u64 a.Hi)), .p (.val (.int .u64 a.Lo))]), (103, .var [.p (.val (.int .u64 b.Hi)), .p (.val (.int .u64 b.Lo))]), (104, .var [.p (.val (.int .u64 (0 : Int))), .p (.val (.int .u64 (0 : Int)))]), (105, .var [.p (.val (.int .u64 (0 : Int))), .p (.val (.int .u64 (0 : Int)))]), (106, .var [.p (.val (.int .u64 y1.Hi)), .p (.val (.int .u64 y1.Lo))]), (107, .var [.p (.val (.int .u64 y2.Hi)), .p (.val (.int .u64 y2.Lo))])]⟩) ?_
                refine lok_rl E0 (⟨82, mkS [(2, .x (.one (.ptr 102 0))), (3, .x (.one (.ptr 103 0))), (4, .x (.one (.ptr 104 0))), (5, .x (.one (.ptr 105 0))), (6, .x (.one (.ptr 106 0))), (7, .x (.one (.ptr 107 0))), (8, .x (.one (.p (pi i))))], mkH [(102, .var [.p (.val (.int .u64 a.Hi)), .p (.val (.int .u64 a.Lo))]), (103, .var [.p (.val (.int .u64 b.Hi)), .p (.val (.int .u64 b.Lo))]), (104, .var [.p (.val (.int .u64 (0 : Int))), .p (.val (.int .u64 (0 : Int)))]), (105, .var [.p (.val (.int .u64 (0 : Int))), .p (.val (.int .u64 (0 : Int)))]), (106, .var [.p (.val (.int .u64 y1.Hi)), .p (.val (.int .u64 (bOr .u64 y1.Lo (1 : Int))))]), (107, .var [.p (.val (.int .u64 y2.Hi)), .p (.val (.int .u64 y2.Lo))])]⟩) ?_
                try simp only [thenL, blockL, ↓reduceIte, reduceCtorEq]
                exact ⟨(y1.Hi, (bOr .u64 y1.Lo (1 : Int)), y2.Hi, y2.Lo), H1, imp_au⟩
              · intro b_6
                replace H1 := cneg H1 b_6
                refine lok_skip ?_
                try simp only [thenL, blockL, ↓reduceIte, reduceCtorEq]
                exact ⟨(y1.Hi, y1.Lo, y.Hi, (bOr .u64 y.Lo bit1)), H1, imp_au⟩
            case hxref01_Divide_j3 =>
              refine lok_rt E0 (⟨82, mkS [(2, .x (.one (.ptr 102 0))), (3, .x (.one (.ptr 103 0))), (4, .x (.one (.ptr 104 0))), (5, .x (.one (.ptr 105 0))), (6, .x (.one (.ptr 106 0))), (7, .x (.one (.ptr 107 0))), (8, .x (.one (.p (pi i)))), (9, .x (.one (.p (.val (.int .u64 bit))))), (45, .x (.one (.p (.val (.bool (decide ((64 : Int) ≤ i)))))))], mkH [(102, .var [.p (.val (.int .u64 a.Hi)), .p (.val (.int .u64 a.Lo))]), (103, .var [.p (.val (.int .u64 b.Hi)), .p (.val (.int .u64 b.Lo))]), (104, .var [.p (.val (.int .u64 (0 : Int))), .p (.val (.int .u64 (0 : Int)))]), (105, .var [.p (.val (.int .u64 (0 : Int))), .p (.val (.int .u64 (0 : Int)))]), (106, .var [.p (.val (.int .u64 q2)), .p (.val (.int .u64 q3))]), (107, .var [.p (.val (.int .u64 r2)), .p (.val (.int .u64 r3))])]⟩) ?_
              refine lok_c (decide ((64 : Int) ≤ i)) ?_ ?_
              · intro b_10
                replace H1 := cpos H1 b_10
                replace H1 := req_some H1
                obtain ⟨q_9, H1⟩ := H1
                replace H1 := bindV_some H1
                obtain ⟨bit2, a_8, H1⟩ := H1
                refine lok_rlg E0 a_8 (⟨82, mkS [(2, .x (.one (.ptr 102 0))), (3, .x (.one (.ptr 103 0))), (4, .x (.one (.ptr 104 0))), (5, .x (.one (.ptr 105 0))), (6, .x (.one (.ptr 106 0))), (7, .x (.one (.ptr 107 0))), (8, .x (.one (.p (pi i)))), (9, .x (.one (.p (.val (.int .u64 bit2)))))], mkH [(102, .var [.p (.val (.int .u64 a.Hi)), .p (.val (.int .u64 a.Lo))]), (103, .var [.p (.val (.int .u64 b.Hi)), .p (.val (.int .u64 b.Lo))]), (104, .var [.p (.val (.int .u64 (0 : Int))), .p (.val (.int .u64 (0 : Int)))]), (105, .var [.p (.val (.int .u64 (0 : Int))), .p (.val (.int .u64 (0 : Int)))]), (106, .var [.p (.val (.int .u64 q2)), .p (.val (.int .u64 q3))]), (107, .var [.p (.val (.int .u64 r2)), .p (.val (.int .u64 r3))])]⟩) ?_
                try simp only [thenL, blockL, ↓reduceIte, reduceCtorEq]
                exact ⟨bit2, H1, imp_au⟩
              · intro b_10
                replace H1 := cneg H1 b_10
                refine lok_skip ?_
                try simp only [thenL, blockL, ↓reduceIte, reduceCtorEq]
                exact ⟨bit, H1, imp_au⟩
        · intro b_12
          replace H1 := cneg H1 b_12
          refine lok_exit ?_
          try simp only [thenL, blockL, ↓reduceIte, reduceCtorEq]
          have e_1 := k_1 _ (Option.some.inj H1).symm
          subst e_1
          try dsimp only at H0
          try simp only [thenL, blockL, ↓reduceIte, reduceCtorEq]
          exact ⟨(q2, q3, r2, r3), H0, imp_au⟩
theorem ok_ref01_Divisor (a : ref01_Wide) (b : ref01_Wide) (r_ : ref01_Wide) (H0 : ref01_Divisor a b = some r_) : CallOK Try.prog 59 [.agg [.p (.val (.int .u64 a.Hi)), .p (.val (.int .u64 a.Lo))], .agg [.p (.val (.int .u64 b.Hi)), .p (.val (.int .u64 b.Lo))]] [] [.agg [.p (.val (.int .u64 r_.Hi)), .p (.val (.int .u64 r_.Lo))]] [] := by
  refine callOK (n := 19) (rs := [.cell 4 61]) (nb := 0) (V := []) Try.func59 rfl (by kernel_rfl) rfl rfl rfl rfl (Nat.le_of_ble_eq_true rfl) (by decide) ?_
  unfold ref01_Divisor at H0
  refine lok_rt E0 (⟨19, mkS [(2, .x (.one (.ptr 102 0))), (3, .x (.one (.ptr 103 0))), (4, .x (.one (.ptr 104 0)))], mkH [(102, .var [.p (.val (.int .u64 a.Hi)), .p (.val (.int .u64 a.Lo))]), (103, .var [.p (.val (.int .u64 b.Hi)), .p (.val (.int .u64 b.Lo))]), (104, .var [.p (.val (.int .u64 (0 : Int))), .p (.val (.int .u64 (0 : Int)))])]⟩) ?_
  refine lok_join (fun x_ : Int × Int => ref01_Divisor_j1 x_.1 x_.2 = some r_) (fun x_ => ⟨19, mkS [(2, .x (.one (.ptr 102 0))), (4, .x (.one (.ptr 104 0)))], mkH [(102, .var [.p (.val (.int .u64 x_.1)), .p (.val (.int .u64 x_.2))]), (104, .var [.p (.val (.int .u64 (0 : Int))), .p (.val (.int .u64 (0 : Int)))])]⟩) ?hyref01_Divisor_j1 ?hxref01_Divisor_j1
  case hyref01_Divisor_j1 =>
    rintro ⟨a1, a2⟩ H0
    try dsimp only at H0 ⊢
    unfold ref01_Divisor_j1 at H0
    refine lok_rt E0 (⟨19, mkS [(4, .x (.one (.ptr 104 0)))], mkH [(104, .var [.p (.val (.int .u64 a1)), .p (.val (.int .u64 a2))])]⟩) ?_
    refine lok_ret ?_
    obtain rfl := Option.some.inj H0
    try simp only [thenL, blockL]
    exact fin_au _ (.inr rfl) [] (⟨19, mkS [(4, .x (.one (.ptr 104 0)))], mkH [(104, .var [.p (.val (.int .u64 a1)), .p (.val (.int .u64 a2))])]⟩) rfl rfl imp_au
  case hxref01_Divisor_j1 =>
    refine lok_block ?_
    replace H0 := bind_some H0
    obtain ⟨v_0, hv_0, H0⟩ := H0
    refine lok_iter (fun x_ => ⟨19, mkS [(2, .x (.one (.ptr 102 0))), (3, .x (.one (.ptr 103 0))), (4, .x (.one (.ptr 104 0)))], mkH [(102, .var [.p (.val (.int .u64 x_.1)), .p (.val (.int .u64 x_.2.1))]), (103, .var [.p (.val (.int .u64 x_.2.2.1)), .p (.val (.int .u64 x_.2.2.2))]), (104, .var [.p (.val (.int .u64 (0 : Int))), .p (.val (.int .u64 (0 : Int)))])]⟩) hv_0 imp_au ?_
    · rintro ⟨a3, a4, b1, b2⟩ o_1 H1 k_1
      unfold ref01_Divisor_l2 at H1
      try dsimp only at H1 ⊢
      refine lok_seq ?_
      refine lok_rt E0 (⟨19, mkS [(2, .x (.one (.ptr 102 0))), (3, .x (.one (.ptr 103 0))), (4, .x (.one (.ptr 104 0))), (9, .x (.one (.p (.val (.bool (!((b1 == (0 : Int)) && (b2 == (0 : Int)))))))))], mkH [(102, .var [.p (.val (.int .u64 a3)), .p (.val (.int .u64 a4))]), (103, .var [.p (.val (.int .u64 b1)), .p (.val (.int .u64 b2))]), (104, .var [.p (.val (.int .u64 (0 : Int))), .p (.val (.int .u64 (0 : Int)))])]⟩) ?_
      refine lok_c (!((b1 == (0 : Int)) && (b2 == (0 : Int)))) ?_ ?_
      · intro b_2
        replace H1 := cpos H1 b_2
        refine lok_skip ?_
        try simp only [thenL, blockL, ↓reduceIte, reduceCtorEq]
        refine lok_block ?_
        replace H1 := bind_some H1
        obtain ⟨⟨y, y1⟩, h_1, H1⟩ := H1
        try dsimp only at H1
        refine lok_rt (Env.of E0 [⟨some 13, 60, [.agg [.p (.val (.int .u64 a3)), .p (.val (.int .u64 a4))], .agg [.p (.val (.int .u64 b1)), .p (.val (.int .u64 b2))]], [], [.agg [.p (.val (.int .u64 y.Hi)), .p (.val (.int .u64 y.Lo))], .agg [.p (.val (.int .u64 y1.Hi)), .p (.val (.int .u64 y1.Lo))]], [], True, fun _ => ok_ref01_Divide (ref01_Wide.mk a3 a4) (ref01_Wide.mk b1 b2) (y, y1) h_1, []⟩]) (⟨19, mkS [(2, .x (.one (.ptr 102 0))), (3, .x (.one (.ptr 103 0))), (4, .x (.one (.ptr 104 0))), (6, .x (.one (.ptr 106 0)))], mkH [(102, .var [.p (.val (.int .u64 a3)), .p (.val (.int .u64 a4))]), (103, .var [.p (.val (.int .u64 b1)), .p (.val (.int .u64 b2))]), (104, .var [.p (.val (.int .u64 (0 : Int))), .p (.val (.int .u64 (0 : Int)))]), (106, .var [.p (.val (.int .u64 y1.Hi)), .p (.val (.int .u64 y1.Lo))])]⟩) ?_
        refine lok_el E0 19 [⟨[(3, .x (.one (.ptr 103 0)))], [(103, some (.var [.p (.val (.int .u64 b1)), .p (.val (.int .u64 b2))]))], [(16, .x (.agg [.p (.val (.int .u64 b1)), .p (.val (.int .u64 b2))]))], [], none⟩,
      ⟨[(6, .x (.one (.ptr 106 0)))], [(106, some (.var [.p (.val (.int .u64 y1.Hi)), .p (.val (.int .u64 y1.Lo))]))], [(17, .x (.agg [.p (.val (.int .u64 y1.Hi)), .p (.val (.int .u64 y1.Lo))]))], [], none⟩,
      ⟨[(2, .x (.one (.ptr 102 0))), (16, .x (.agg [.p (.val (.int .u64 b1)), .p (.val (.int .u64 b2))]))], [(102, some (.var [.p (.val (.int .u64 a3)), .p (.val (.int .u64 a4))]))], [], [(102, some (.var [.p (.val (.int .u64 b1)), .p (.val (.int .u64 b2))]))], none⟩] (⟨19, mkS [(2, .x (.one (.ptr 102 0))), (3, .x (.one (.ptr 103 0))), (4, .x (.one (.ptr 104 0)))], mkH [(102, .var [.p (.val (.int .u64 b1)), .p (.val (.int .u64 b2))]), (103, .var [.p (.val (.int .u64 y1.Hi)), .p (.val (.int .u64 y1.Lo))]), (104, .var [.p (.val (.int .u64 (0 : Int))), .p (.val (.int .u64 (0 : Int)))])]⟩) (by kernel_rfl) (by kernel_rfl) (by kernel_rfl) rfl rfl rfl ?_
        try simp only [thenL, blockL, ↓reduceIte, reduceCtorEq]
        exact ⟨(b1, b2, y1.Hi, y1.Lo), (Option.some.inj H1).symm, imp_au⟩
      · intro b_2
        replace H1 := cneg H1 b_2
        refine lok_exit ?_
        try simp only [thenL, blockL, ↓reduceIte, reduceCtorEq]
        have e_1 := k_1 _ (Option.some.inj H1).symm
        subst e_1
        try dsimp only at H0
        try simp only [thenL, blockL, ↓reduceIte, reduceCtorEq]
        exact ⟨(a3, a4), H0, imp_au⟩
theorem ok_ref01_Reduce (negative : Bool) (num : ref01_Wide) (den : ref01_Wide) (r_ : api_Ratio × Int) (H0 : ref01_Reduce negative num den = some r_) : CallOK Try.prog 37 [.one (.p (.val (.bool negative))), .agg [.p (.val (.int .u64 num.Hi)), .p (.val (.int .u64 num.Lo))], .agg [.p (.val (.int .u64 den.Hi)), .p (.val (.int .u64 den.Lo))]] [] [.agg [.p (pi r_.1.Num), .p (pi r_.1.Den)], .one (.p (pi r_.2))] [] := by
  refine callOK (n := 61) (rs := [.cell 6 23, .tmp 7]) (nb := 0) (V := []) Try.func37 rfl (by kernel_rfl) rfl rfl rfl rfl (Nat.le_of_ble_eq_true rfl) (by decide) ?_
  unfold ref01_Reduce at H0
  refine lok_rt E0 (⟨61, mkS [(0, .x (.one (.p (.val (.bool negative))))), (4, .x (.one (.ptr 104 0))), (5, .x (.one (.ptr 105 0))), (6, .x (.one (.ptr 106 0)))], mkH [(104, .var [.p (.val (.int .u64 num.Hi)), .p (.val (.int .u64 num.Lo))]), (105, .var [.p (.val (.int .u64 den.Hi)), .p (.val (.int .u64 den.Lo))]), (106, .var [.p (pi (0 : Int)), .p (pi (0 : Int))])]⟩) ?_
  replace H0 := bind_some H0
  obtain ⟨y, h_0, H0⟩ := H0
  refine lok_rt (Env.of E0 [⟨some 16, 59, [.agg [.p (.val (.int .u64 num.Hi)), .p (.val (.int .u64 num.Lo))], .agg [.p (.val (.int .u64 den.Hi)), .p (.val (.int .u64 den.Lo))]], [], [.agg [.p (.val (.int .u64 y.Hi)), .p (.val (.int .u64 y.Lo))]], [], True, fun _ => ok_ref01_Divisor num den y h_0, []⟩]) (⟨61, mkS [(0, .x (.one (.p (.val (.bool negative))))), (4, .x (.one (.ptr 104 0))), (5, .x (.one (.ptr 105 0))), (6, .x (.one (.ptr 106 0))), (8, .x (.one (.ptr 108 0)))], mkH [(104, .var [.p (.val (.int .u64 num.Hi)), .p (.val (.int .u64 num.Lo))]), (105, .var [.p (.val (.int .u64 den.Hi)), .p (.val (.int .u64 den.Lo))]), (106, .var [.p (pi (0 : Int)), .p (pi (0 : Int))]), (108, .var [.p (.val (.int .u64 y.Hi)), .p (.val (.int .u64 y.Lo))])]⟩) ?_
  replace H0 := bind_some H0
  obtain ⟨⟨y1, y2⟩, h_1, H0⟩ := H0
  try dsimp only at H0
  refine lok_rt (Env.of E0 [⟨some 20, 60, [.agg [.p (.val (.int .u64 num.Hi)), .p (.val (.int .u64 num.Lo))], .agg [.p (.val (.int .u64 y.Hi)), .p (.val (.int .u64 y.Lo))]], [], [.agg [.p (.val (.int .u64 y1.Hi)), .p (.val (.int .u64 y1.Lo))], .agg [.p (.val (.int .u64 y2.Hi)), .p (.val (.int .u64 y2.Lo))]], [], True, fun _ => ok_ref01_Divide num y (y1, y2) h_1, []⟩]) (⟨61, mkS [(0, .x (.one (.p (.val (.bool negative))))), (5, .x (.one (.ptr 105 0))), (6, .x (.one (.ptr 106 0))), (8, .x (.one (.ptr 108 0))), (9, .x (.one (.ptr 109 0)))], mkH [(105, .var [.p (.val (.int .u64 den.Hi)), .p (.val (.int .u64 den.Lo))]), (106, .var [.p (pi (0 : Int)), .p (pi (0 : Int))]), (108, .var [.p (.val (.int .u64 y.Hi)), .p (.val (.int .u64 y.Lo))]), (109, .var [.p (.val (.int .u64 y1.Hi)), .p (.val (.int .u64 y1.Lo))])]⟩) ?_
  replace H0 := bind_some H0
  obtain ⟨⟨y3, y4⟩, h_2, H0⟩ := H0
  try dsimp only at H0
  refine lok_rt (Env.of E0 [⟨some 26, 60, [.agg [.p (.val (.int .u64 den.Hi)), .p (.val (.int .u64 den.Lo))], .agg [.p (.val (.int .u64 y.Hi)), .p (.val (.int .u64 y.Lo))]], [], [.agg [.p (.val (.int .u64 y3.Hi)), .p (.val (.int .u64 y3.Lo))], .agg [.p (.val (.int .u64 y4.Hi)), .p (.val (.int .u64 y4.Lo))]], [], True, fun _ => ok_ref01_Divide den y (y3, y4) h_2, []⟩]) (⟨61, mkS [(0, .x (.one (.p (.val (.bool negative))))), (6, .x (.one (.ptr 106 0))), (9, .x (.one (.ptr 109 0))), (11, .x (.one (.ptr 111 0)))], mkH [(106, .var [.p (pi (0 : Int)), .p (pi (0 : Int))]), (109, .var [.p (.val (.int .u64 y1.Hi)), .p (.val (.int .u64 y1.Lo))]), (111, .var [.p (.val (.int .u64 y3.Hi)), .p (.val (.int .u64 y3.Lo))])]⟩) ?_
  refine lok_seq ?_
  refine lok_rt E0 (⟨61, mkS [(0, .x (.one (.p (.val (.bool negative))))), (6, .x (.one (.ptr 106 0))), (9, .x (.one (.ptr 109 0))), (11, .x (.one (.ptr 111 0))), (46, .x (.one (.p (.val (.bool ((((decide ((0 : Int) < y1.Hi)) || (decide ((0 : Int) < y3.Hi))) || (decide ((1152921504606846976 : Int) < y1.Lo))) || (decide ((1152921504606846976 : Int) < y3.Lo))))))))], mkH [(106, .var [.p (pi (0 : Int)), .p (pi (0 : Int))]), (109, .var [.p (.val (.int .u64 y1.Hi)), .p (.val (.int .u64 y1.Lo))]), (111, .var [.p (.val (.int .u64 y3.Hi)), .p (.val (.int .u64 y3.Lo))])]⟩) ?_
  refine lok_c ((((decide ((0 : Int) < y1.Hi)) || (decide ((0 : Int) < y3.Hi))) || (decide ((1152921504606846976 : Int) < y1.Lo))) || (decide ((1152921504606846976 : Int) < y3.Lo))) ?_ ?_
  · intro b_4
    replace H0 := cpos H0 b_4
    refine lok_rt E0 (⟨61, mkS [(6, .x (.one (.ptr 106 0))), (7, .x (.one (.p (pi (6 : Int)))))], mkH [(106, .var [.p (pi (0 : Int)), .p (pi (0 : Int))])]⟩) ?_
    refine lok_ret ?_
    obtain rfl := Option.some.inj H0
    try simp only [thenL, blockL]
    exact fin_au _ (.inr rfl) [] (⟨61, mkS [(6, .x (.one (.ptr 106 0))), (7, .x (.one (.p (pi (6 : Int)))))], mkH [(106, .var [.p (pi (0 : Int)), .p (pi (0 : Int))])]⟩) rfl rfl imp_au
  · intro b_4
    replace H0 := cneg H0 b_4
    refine lok_skip ?_
    try simp only [thenL, blockL, ↓reduceIte, reduceCtorEq]
    refine lok_rt E0 (⟨61, mkS [(0, .x (.one (.p (.val (.bool negative))))), (6, .x (.one (.ptr 106 0))), (13, .x (.one (.ptr 113 0)))], mkH [(106, .var [.p (pi (0 : Int)), .p (pi (0 : Int))]), (113, .var [.p (pi (IntKind.i64.wrap y1.Lo)), .p (pi (IntKind.i64.wrap y3.Lo))])]⟩) ?_
    refine lok_join (fun x_ : Int => ref01_Reduce_j1 y3 x_ = some r_) (fun x_ => ⟨61, mkS [(6, .x (.one (.ptr 106 0))), (13, .x (.one (.ptr 113 0)))], mkH [(106, .var [.p (pi (0 : Int)), .p (pi (0 : Int))]), (113, .var [.p (pi x_), .p (pi (IntKind.i64.wrap y3.Lo))])]⟩) ?hyref01_Reduce_j1 ?hxref01_Reduce_j1
    case hyref01_Reduce_j1 =>
      rintro out H0
      try dsimp only at H0 ⊢
      unfold ref01_Reduce_j1 at H0
      refine lok_rt E0 (⟨61, mkS [(6, .x (.one (.ptr 106 0))), (7, .x (.one (.p (pi (0 : Int)))))], mkH [(106, .var [.p (pi out), .p (pi (IntKind.i64.wrap y3.Lo))])]⟩) ?_
      refine lok_ret ?_
      obtain rfl := Option.some.inj H0
      try simp only [thenL, blockL]
      exact fin_au _ (.inr rfl) [] (⟨61, mkS [(6, .x (.one (.ptr 106 0))), (7, .x (.one (.p (pi (0 : Int)))))], mkH [(106, .var [.p (pi out), .p (pi (IntKind.i64.wrap y3.Lo))])]⟩) rfl rfl imp_au
    case hxref01_Reduce_j1 =>
      refine lok_rt E0 (⟨61, mkS [(6, .x (.one (.ptr 106 0))), (13, .x (.one (.ptr 113 0))), (55, .x (.one (.p (.val (.bool negative)))))], mkH [(106, .var [.p (pi (0 : Int)), .p (pi (0 : Int))]), (113, .var [.p (pi (IntKind.i64.wrap y1.Lo)), .p (pi (IntKind.i64.wrap y3.Lo))])]⟩) ?_
      refine lok_c negative ?_ ?_
      · intro b_3
        replace H0 := cpos H0 b_3
        refine lok_rl E0 (⟨61, mkS [(6, .x (.one (.ptr 106 0))), (13, .x (.one (.ptr 113 0)))], mkH [(106, .var [.p (pi (0 : Int)), .p (pi (0 : Int))]), (113, .var [.p (pi (IntKind.i64.wrap (0 - (IntKind.i64.wrap y1.Lo)))), .p (pi (IntKind.i64.wrap y3.Lo))])]⟩) ?_
        try simp only [thenL, blockL, ↓reduceIte, reduceCtorEq]
        exact ⟨(IntKind.i64.wrap (0 - (IntKind.i64.wrap y1.Lo))), H0, imp_au⟩
      · intro b_3
        replace H0 := cneg H0 b_3
        refine lok_skip ?_
        try simp only [thenL, blockL, ↓reduceIte, reduceCtorEq]
        exact ⟨(IntKind.i64.wrap y1.Lo), H0, imp_au⟩
theorem ok_ref01_Plus (a : ref01_Wide) (b : ref01_Wide) (r_ : ref01_Wide) (H0 : ref01_Plus a b = some r_) : CallOK Try.prog 38 [.agg [.p (.val (.int .u64 a.Hi)), .p (.val (.int .u64 a.Lo))], .agg [.p (.val (.int .u64 b.Hi)), .p (.val (.int .u64 b.Lo))]] [] [.agg [.p (.val (.int .u64 r_.Hi)), .p (.val (.int .u64 r_.Lo))]] [] := by
  refine callOK (n := 29) (rs := [.cell 4 61]) (nb := 0) (V := []) Try.func38 rfl (by kernel_rfl) rfl rfl rfl rfl (Nat.le_of_ble_eq_true rfl) (by decide) ?_
  unfold ref01_Plus at H0
  refine lok_rt E0 (⟨29, mkS [(2, .x (.one (.ptr 102 0))), (3, .x (.one (.ptr 103 0))), (4, .x (.one (.ptr 104 0)))], mkH [(102, .var [.p (.val (.int .u64 a.Hi)), .p (.val (.int .u64 a.Lo))]), (103, .var [.p (.val (.int .u64 b.Hi)), .p (.val (.int .u64 b.Lo))]), (104, .var [.p (.val (.int .u64 (0 : Int))), .p (.val (.int .u64 (0 : Int)))])]⟩) ?_
  replace H0 := bind_some H0
  obtain ⟨⟨y, y1⟩, h_0, H0⟩ := H0
  try dsimp only at H0
  refine lok_rt (Env.of E0 [⟨some 14, 58, [.one (.p (.val (.int .u64 a.Lo))), .one (.p (.val (.int .u64 b.Lo))), .one (.p (.val (.int .u64 (0 : Int))))], [], [.one (.p (.val (.int .u64 y))), .one (.p (.val (.int .u64 y1)))], [], True, fun _ => ok_bits_Add64 a.Lo b.Lo (0 : Int) (y, y1) h_0, []⟩]) (⟨29, mkS [(2, .x (.one (.ptr 102 0))), (3, .x (.one (.ptr 103 0))), (4, .x (.one (.ptr 104 0))), (5, .x (.one (.p (.val (.int .u64 y))))), (6, .x (.one (.p (.val (.int .u64 y1)))))], mkH [(102, .var [.p (.val (.int .u64 a.Hi)), .p (.val (.int .u64 a.Lo))]), (103, .var [.p (.val (.int .u64 b.Hi)), .p (.val (.int .u64 b.Lo))]), (104, .var [.p (.val (.int .u64 (0 : Int))), .p (.val (.int .u64 (0 : Int)))])]⟩) ?_
  replace H0 := bind_some H0
  obtain ⟨⟨y2, y3⟩, h_1, H0⟩ := H0
  try dsimp only at H0
  refine lok_rt (Env.of E0 [⟨some 23, 58, [.one (.p (.val (.int .u64 a.Hi))), .one (.p (.val (.int .u64 b.Hi))), .one (.p (.val (.int .u64 y1)))], [], [.one (.p (.val (.int .u64 y2))), .one (.p (.val (.int .u64 y3)))], [], True, fun _ => ok_bits_Add64 a.Hi b.Hi y1 (y2, y3) h_1, []⟩]) (⟨29, mkS [(4, .x (.one (.ptr 104 0))), (5, .x (.one (.p (.val (.int .u64 y))))), (7, .x (.one (.p (.val (.int .u64 y2)))))], mkH [(104, .var [.p (.val (.int .u64 (0 : Int))), .p (.val (.int .u64 (0 : Int)))])]⟩) ?_
  refine lok_rt E0 (⟨29, mkS [(4, .x (.one (.ptr 104 0)))], mkH [(104, .var [.p (.val (.int .u64 y2)), .p (.val (.int .u64 y))])]⟩) ?_
  refine lok_ret ?_
  obtain rfl := Option.some.inj H0
  try simp only [thenL, blockL]
  exact fin_au _ (.inr rfl) [] (⟨29, mkS [(4, .x (.one (.ptr 104 0)))], mkH [(104, .var [.p (.val (.int .u64 y2)), .p (.val (.int .u64 y))])]⟩) rfl rfl imp_au
theorem ok_ref01_Product (a : Int) (b : Int) (r_ : ref01_Wide) (H0 : ref01_Product a b = some r_) : CallOK Try.prog 39 [.one (.p (.val (.int .u64 a))), .one (.p (.val (.int .u64 b)))] [] [.agg [.p (.val (.int .u64 r_.Hi)), .p (.val (.int .u64 r_.Lo))]] [] := by
  refine callOK (n := 16) (rs := [.cell 4 61]) (nb := 0) (V := []) Try.func39 rfl (by kernel_rfl) rfl rfl rfl rfl (Nat.le_of_ble_eq_true rfl) (by decide) ?_
  unfold ref01_Product at H0
  refine lok_rt E0 (⟨16, mkS [(0, .x (.one (.p (.val (.int .u64 a))))), (1, .x (.one (.p (.val (.int .u64 b))))), (4, .x (.one (.ptr 104 0)))], mkH [(104, .var [.p (.val (.int .u64 (0 : Int))), .p (.val (.int .u64 (0 : Int)))])]⟩) ?_
  replace H0 := bind_some H0
  obtain ⟨⟨y, y1⟩, h_0, H0⟩ := H0
  try dsimp only at H0
  refine lok_rt (Env.of E0 [⟨some 10, 57, [.one (.p (.val (.int .u64 a))), .one (.p (.val (.int .u64 b)))], [], [.one (.p (.val (.int .u64 y))), .one (.p (.val (.int .u64 y1)))], [], True, fun _ => ok_bits_Mul64 a b (y, y1) h_0, []⟩]) (⟨16, mkS [(4, .x (.one (.ptr 104 0))), (5, .x (.one (.p (.val (.int .u64 y))))), (6, .x (.one (.p (.val (.int .u64 y1)))))], mkH [(104, .var [.p (.val (.int .u64 (0 : Int))), .p (.val (.int .u64 (0 : Int)))])]⟩) ?_
  refine lok_rt E0 (⟨16, mkS [(4, .x (.one (.ptr 104 0)))], mkH [(104, .var [.p (.val (.int .u64 y)), .p (.val (.int .u64 y1))])]⟩) ?_
  refine lok_ret ?_
  obtain rfl := Option.some.inj H0
  try simp only [thenL, blockL]
  exact fin_au _ (.inr rfl) [] (⟨16, mkS [(4, .x (.one (.ptr 104 0)))], mkH [(104, .var [.p (.val (.int .u64 y)), .p (.val (.int .u64 y1))])]⟩) rfl rfl imp_au
theorem ok_ref01_Parse (s : Str) (r_ : api_Ratio × Int) (H0 : ref01_Parse s = some r_) : CallOK Try.prog 9 [.one (.p (.val (.string (bs s))))] [] [.agg [.p (pi r_.1.Num), .p (pi r_.1.Den)], .one (.p (pi r_.2))] [] := by
  refine callOK (n := 145) (rs := [.cell 2 23, .tmp 3]) (nb := 0) (V := []) Try.func9 rfl (by kernel_rfl) rfl rfl rfl rfl (Nat.le_of_ble_eq_true rfl) (by decide) ?_
  unfold ref01_Parse at H0
  refine lok_rt E0 (⟨145, mkS [(0, .x (.one (.p (.val (.string (bs s)))))), (2, .x (.one (.ptr 102 0)))], mkH [(102, .var [.p (pi (0 : Int)), .p (pi (0 : Int))])]⟩) ?_
  replace H0 := req_some H0
  obtain ⟨q_26, H0⟩ := H0
  refine lok_rt E0 (⟨145, mkS [(0, .x (.one (.p (.val (.string (bs s)))))), (2, .x (.one (.ptr 102 0))), (4, .x (.one (.p (.val (.bool ((decide ((0 : Int) < (s.length : Int))) && ((sx s (0 : Int)) == (45 : Int))))))))], mkH [(102, .var [.p (pi (0 : Int)), .p (pi (0 : Int))])]⟩) ?_
  refine lok_join (fun x_ : Str => ref01_Parse_j3 s x_ = some r_) (fun x_ => ⟨145, mkS [(0, .x (.one (.p (.val (.string (bs x_)))))), (2, .x (.one (.ptr 102 0))), (4, .x (.one (.p (.val (.bool ((decide ((0 : Int) < (s.length : Int))) && ((sx s (0 : Int)) == (45 : Int))))))))], mkH [(102, .var [.p (pi (0 : Int)), .p (pi (0 : Int))])]⟩) ?hyref01_Parse_j3 ?hxref01_Parse_j3
  case hyref01_Parse_j3 =>
    rintro s1 H0
    try dsimp only at H0 ⊢
    unfold ref01_Parse_j3 at H0
    replace H0 := bind_some H0
    obtain ⟨y, h_0, H0⟩ := H0
    replace H0 := bind_some H0
    obtain ⟨y1, h_1, H0⟩ := H0
    refine lok_rt (Env.of E0 [⟨some 32, 35, [.one (.p (.val (.string (bs s1)))), .one (.p (.val (.int .u8 (47 : Int))))], [], [.one (.p (pi y))], [], True, fun _ => ok_ref01_index s1 (47 : Int) y h_0, []⟩,
      ⟨some 34, 35, [.one (.p (.val (.string (bs s1)))), .one (.p (.val (.int .u8 (46 : Int))))], [], [.one (.p (pi y1))], [], True, fun _ => ok_ref01_index s1 (46 : Int) y1 h_1, []⟩]) (⟨145, mkS [(0, .x (.one (.p (.val (.string (bs s1)))))), (2, .x (.one (.ptr 102 0))), (4, .x (.one (.p (.val (.bool ((decide ((0 : Int) < (s.length : Int))) && ((sx s (0 : Int)) == (45 : Int)))))))), (5, .x (.one (.p (pi y)))), (6, .x (.one (.p (pi y1))))], mkH [(102, .var [.p (pi (0 : Int)), .p (pi (0 : Int))])]⟩) ?_
    refine lok_seq ?_
    refine lok_rt E0 (⟨145, mkS [(0, .x (.one (.p (.val (.string (bs s1)))))), (2, .x (.one (.ptr 102 0))), (4, .x (.one (.p (.val (.bool ((decide ((0 : Int) < (s.length : Int))) && ((sx s (0 : Int)) == (45 : Int)))))))), (5, .x (.one (.p (pi y)))), (6, .x (.one (.p (pi y1)))), (36, .x (.one (.p (.val (.bool (decide ((0 : Int) ≤ y)))))))], mkH [(102, .var [.p (pi (0 : Int)), .p (pi (0 : Int))])]⟩) ?_
    refine lok_c (decide ((0 : Int) ≤ y)) ?_ ?_
    · intro b_23
      replace H0 := cpos H0 b_23
      replace H0 := req_some H0
      obtain ⟨q_8, H0⟩ := H0
      replace H0 := bind_some H0
      obtain ⟨⟨y2, y3⟩, h_2, H0⟩ := H0
      try dsimp only at H0
      refine lok_rt (Env.of E0 [⟨some 41, 36, [.one (.p (.val (.string (bs (List.take y.toNat s1))))), .one (.p (pi (19 : Int)))], [], [.one (.p (.val (.int .u64 y2))), .one (.p (.val (.bool y3)))], [], True, fun _ => ok_ref01_number (List.take y.toNat s1) (19 : Int) (y2, y3) h_2, []⟩]) (⟨145, mkS [(0, .x (.one (.p (.val (.string (bs s1)))))), (2, .x (.one (.ptr 102 0))), (4, .x (.one (.p (.val (.bool ((decide ((0 : Int) < (s.length : Int))) && ((sx s (0 : Int)) == (45 : Int)))))))), (5, .x (.one (.p (pi y)))), (7, .x (.one (.p (.val (.int .u64 y2))))), (8, .x (.one (.p (.val (.bool y3)))))], mkH [(102, .var [.p (pi (0 : Int)), .p (pi (0 : Int))])]⟩) ?_
      replace H0 := req_some H0
      obtain ⟨q_7, H0⟩ := H0
      replace H0 := bind_some H0
      obtain ⟨⟨y4, y5⟩, h_3, H0⟩ := H0
      try dsimp only at H0
      refine lok_rt (Env.of E0 [⟨some 49, 36, [.one (.p (.val (.string (bs (List.drop (IntKind.i64.wrap (y + (1 : Int))).toNat s1))))), .one (.p (pi (19 : Int)))], [], [.one (.p (.val (.int .u64 y4))), .one (.p (.val (.bool y5)))], [], True, fun _ => ok_ref01_number (List.drop (IntKind.i64.wrap (y + (1 : Int))).toNat s1) (19 : Int) (y4, y5) h_3, []⟩]) (⟨145, mkS [(2, .x (.one (.ptr 102 0))), (4, .x (.one (.p (.val (.bool ((decide ((0 : Int) < (s.length : Int))) && ((sx s (0 : Int)) == (45 : Int)))))))), (7, .x (.one (.p (.val (.int .u64 y2))))), (8, .x (.one (.p (.val (.bool y3))))), (9, .x (.one (.p (.val (.int .u64 y4))))), (10, .x (.one (.p (.val (.bool y5)))))], mkH [(102, .var [.p (pi (0 : Int)), .p (pi (0 : Int))])]⟩) ?_
      refine lok_seq ?_
      refine lok_rt E0 (⟨145, mkS [(2, .x (.one (.ptr 102 0))), (4, .x (.one (.p (.val (.bool ((decide ((0 : Int) < (s.length : Int))) && ((sx s (0 : Int)) == (45 : Int)))))))), (7, .x (.one (.p (.val (.int .u64 y2))))), (9, .x (.one (.p (.val (.int .u64 y4))))), (57, .x (.one (.p (.val (.bool ((!y3) || (!y5)))))))], mkH [(102, .var [.p (pi (0 : Int)), .p (pi (0 : Int))])]⟩) ?_
      refine lok_c ((!y3) || (!y5)) ?_ ?_
      · intro b_6
        replace H0 := cpos H0 b_6
        refine lok_rt E0 (⟨145, mkS [(2, .x (.one (.ptr 102 0))), (3, .x (.one (.p (pi (7 : Int)))))], mkH [(102, .var [.p (pi (0 : Int)), .p (pi (0 : Int))])]⟩) ?_
        refine lok_ret ?_
        obtain rfl := Option.some.inj H0
        try simp only [thenL, blockL]
        exact fin_au _ (.inr rfl) [] (⟨145, mkS [(2, .x (.one (.ptr 102 0))), (3, .x (.one (.p (pi (7 : Int)))))], mkH [(102, .var [.p (pi (0 : Int)), .p (pi (0 : Int))])]⟩) rfl rfl imp_au
      · intro b_6
        replace H0 := cneg H0 b_6
        refine lok_skip ?_
        try simp only [thenL, blockL, ↓reduceIte, reduceCtorEq]
        refine lok_seq ?_
        refine lok_rt E0 (⟨145, mkS [(2, .x (.one (.ptr 102 0))), (4, .x (.one (.p (.val (.bool ((decide ((0 : Int) < (s.length : Int))) && ((sx s (0 : Int)) == (45 : Int)))))))), (7, .x (.one (.p (.val (.int .u64 y2))))), (9, .x (.one (.p (.val (.int .u64 y4))))), (60, .x (.one (.p (.val (.bool (y4 == (0 : Int)))))))], mkH [(102, .var [.p (pi (0 : Int)), .p (pi (0 : Int))])]⟩) ?_
        refine lok_c (y4 == (0 : Int)) ?_ ?_
        · intro b_5
          replace H0 := cpos H0 b_5
          refine lok_rt E0 (⟨145, mkS [(2, .x (.one (.ptr 102 0))), (3, .x (.one (.p (pi (2 : Int)))))], mkH [(102, .var [.p (pi (0 : Int)), .p (pi (0 : Int))])]⟩) ?_
          refine lok_ret ?_
          obtain rfl := Option.some.inj H0
          try simp only [thenL, blockL]
          exact fin_au _ (.inr rfl) [] (⟨145, mkS [(2, .x (.one (.ptr 102 0))), (3, .x (.one (.p (pi (2 : Int)))))], mkH [(102, .var [.p (pi (0 : Int)), .p (pi (0 : Int))])]⟩) rfl rfl imp_au
        · intro b_5
          replace H0 := cneg H0 b_5
          refine lok_skip ?_
          try simp only [thenL, blockL, ↓reduceIte, reduceCtorEq]
          replace H0 := bind_some H0
          obtain ⟨⟨y6, y7⟩, h_4, H0⟩ := H0
          try dsimp only at H0
          refine lok_rt (Env.of E0 [⟨some 71, 37, [.one (.p (.val (.bool (((decide ((0 : Int) < (s.length : Int))) && ((sx s (0 : Int)) == (45 : Int))) && (decide ((0 : Int) < y2)))))), .agg [.p (.val (.int .u64 (0 : Int))), .p (.val (.int .u64 y2))], .agg [.p (.val (.int .u64 (0 : Int))), .p (.val (.int .u64 y4))]], [], [.agg [.p (pi y6.Num), .p (pi y6.Den)], .one (.p (pi y7))], [], True, fun _ => ok_ref01_Reduce (((decide ((0 : Int) < (s.length : Int))) && ((sx s (0 : Int)) == (45 : Int))) && (decide ((0 : Int) < y2))) (ref01_Wide.mk (0 : Int) y2) (ref01_Wide.mk (0 : Int) y4) (y6, y7) h_4, []⟩]) (⟨145, mkS [(2, .x (.one (.ptr 102 0))), (3, .x (.one (.p (pi y7))))], mkH [(102, .var [.p (pi y6.Num), .p (pi y6.Den)])]⟩) ?_
          refine lok_ret ?_
          obtain rfl := Option.some.inj H0
          try simp only [thenL, blockL]
          exact fin_au _ (.inr rfl) [] (⟨145, mkS [(2, .x (.one (.ptr 102 0))), (3, .x (.one (.p (pi y7))))], mkH [(102, .var [.p (pi y6.Num), .p (pi y6.Den)])]⟩) rfl rfl imp_au
    · intro b_23
      replace H0 := cneg H0 b_23
      refine lok_skip ?_
      try simp only [thenL, blockL, ↓reduceIte, reduceCtorEq]
      refine lok_seq ?_
      refine lok_rt E0 (⟨145, mkS [(0, .x (.one (.p (.val (.string (bs s1)))))), (2, .x (.one (.ptr 102 0))), (4, .x (.one (.p (.val (.bool ((decide ((0 : Int) < (s.length : Int))) && ((sx s (0 : Int)) == (45 : Int)))))))), (6, .x (.one (.p (pi y1)))), (75, .x (.one (.p (.val (.bool (decide (y1 < (0 : Int))))))))], mkH [(102, .var [.p (pi (0 : Int)), .p (pi (0 : Int))])]⟩) ?_
      refine lok_c (decide (y1 < (0 : Int))) ?_ ?_
      · intro b_22
        replace H0 := cpos H0 b_22
        replace H0 := bind_some H0
        obtain ⟨⟨y8, y9⟩, h_9, H0⟩ := H0
        try dsimp only at H0
        refine lok_rt (Env.of E0 [⟨some 78, 36, [.one (.p (.val (.string (bs s1)))), .one (.p (pi (19 : Int)))], [], [.one (.p (.val (.int .u64 y8))), .one (.p (.val (.bool y9)))], [], True, fun _ => ok_ref01_number s1 (19 : Int) (y8, y9) h_9, []⟩]) (⟨145, mkS [(2, .x (.one (.ptr 102 0))), (4, .x (.one (.p (.val (.bool ((decide ((0 : Int) < (s.length : Int))) && ((sx s (0 : Int)) == (45 : Int)))))))), (11, .x (.one (.p (.val (.int .u64 y8))))), (12, .x (.one (.p (.val (.bool y9)))))], mkH [(102, .var [.p (pi (0 : Int)), .p (pi (0 : Int))])]⟩) ?_
        refine lok_seq ?_
        refine lok_rt E0 (⟨145, mkS [(2, .x (.one (.ptr 102 0))), (4, .x (.one (.p (.val (.bool ((decide ((0 : Int) < (s.length : Int))) && ((sx s (0 : Int)) == (45 : Int)))))))), (11, .x (.one (.p (.val (.int .u64 y8))))), (82, .x (.one (.p (.val (.bool (!y9))))))], mkH [(102, .var [.p (pi (0 : Int)), .p (pi (0 : Int))])]⟩) ?_
        refine lok_c (!y9) ?_ ?_
        · intro b_11
          replace H0 := cpos H0 b_11
          refine lok_rt E0 (⟨145, mkS [(2, .x (.one (.ptr 102 0))), (3, .x (.one (.p (pi (7 : Int)))))], mkH [(102, .var [.p (pi (0 : Int)), .p (pi (0 : Int))])]⟩) ?_
          refine lok_ret ?_
          obtain rfl := Option.some.inj H0
          try simp only [thenL, blockL]
          exact fin_au _ (.inr rfl) [] (⟨145, mkS [(2, .x (.one (.ptr 102 0))), (3, .x (.one (.p (pi (7 : Int)))))], mkH [(102, .var [.p (pi (0 : Int)), .p (pi (0 : Int))])]⟩) rfl rfl imp_au
        · intro b_11
          replace H0 := cneg H0 b_11
          refine lok_skip ?_
          try simp only [thenL, blockL, ↓reduceIte, reduceCtorEq]
          replace H0 := bind_some H0
          obtain ⟨⟨y10, y11⟩, h_10, H0⟩ := H0
          try dsimp only at H0
          refine lok_rt (Env.of E0 [⟨some 92, 37, [.one (.p (.val (.bool (((decide ((0 : Int) < (s.length : Int))) && ((sx s (0 : Int)) == (45 : Int))) && (decide ((0 : Int) < y8)))))), .agg [.p (.val (.int .u64 (0 : Int))), .p (.val (.int .u64 y8))], .agg [.p (.val (.int .u64 (0 : Int))), .p (.val (.int .u64 (1 : Int)))]], [], [.agg [.p (pi y10.Num), .p (pi y10.Den)], .one (.p (pi y11))], [], True, fun _ => ok_ref01_Reduce (((decide ((0 : Int) < (s.length : Int))) && ((sx s (0 : Int)) == (45 : Int))) && (decide ((0 : Int) < y8))) (ref01_Wide.mk (0 : Int) y8) (ref01_Wide.mk (0 : Int) (1 : Int)) (y10, y11) h_10, []⟩]) (⟨145, mkS [(2, .x (.one (.ptr 102 0))), (3, .x (.one (.p (pi y11))))], mkH [(102, .var [.p (pi y10.Num), .p (pi y10.Den)])]⟩) ?_
          refine lok_ret ?_
          obtain rfl := Option.some.inj H0
          try simp only [thenL, blockL]
          exact fin_au _ (.inr rfl) [] (⟨145, mkS [(2, .x (.one (.ptr 102 0))), (3, .x (.one (.p (pi y11))))], mkH [(102, .var [.p (pi y10.Num), .p (pi y10.Den)])]⟩) rfl rfl imp_au
      · intro b_22
        replace H0 := cneg H0 b_22
        refine lok_skip ?_
        try simp only [thenL, blockL, ↓reduceIte, reduceCtorEq]
        replace H0 := req_some H0
        obtain ⟨q_21, H0⟩ := H0
        replace H0 := bind_some H0
        obtain ⟨⟨y12, y13⟩, h_12, H0⟩ := H0
        try dsimp only at H0
        refine lok_rt (Env.of E0 [⟨some 99, 36, [.one (.p (.val (.string (bs (List.take y1.toNat s1))))), .one (.p (pi (19 : Int)))], [], [.one (.p (.val (.int .u64 y12))), .one (.p (.val (.bool y13)))], [], True, fun _ => ok_ref01_number (List.take y1.toNat s1) (19 : Int) (y12, y13) h_12, []⟩]) (⟨145, mkS [(0, .x (.one (.p (.val (.string (bs s1)))))), (2, .x (.one (.ptr 102 0))), (4, .x (.one (.p (.val (.bool ((decide ((0 : Int) < (s.length : Int))) && ((sx s (0 : Int)) == (45 : Int)))))))), (6, .x (.one (.p (pi y1)))), (13, .x (.one (.p (.val (.int .u64 y12))))), (14, .x (.one (.p (.val (.bool y13)))))], mkH [(102, .var [.p (pi (0 : Int)), .p (pi (0 : Int))])]⟩) ?_
        replace H0 := req_some H0
        obtain ⟨q_20, H0⟩ := H0
        replace H0 := bind_some H0
        obtain ⟨⟨y14, y15⟩, h_13, H0⟩ := H0
        try dsimp only at H0
        refine lok_rt (Env.of E0 [⟨some 107, 36, [.one (.p (.val (.string (bs (List.drop (IntKind.i64.wrap (y1 + (1 : Int))).toNat s1))))), .one (.p (pi (9 : Int)))], [], [.one (.p (.val (.int .u64 y14))), .one (.p (.val (.bool y15)))], [], True, fun _ => ok_ref01_number (List.drop (IntKind.i64.wrap (y1 + (1 : Int))).toNat s1) (9 : Int) (y14, y15) h_13, []⟩]) (⟨145, mkS [(0, .x (.one (.p (.val (.string (bs s1)))))), (2, .x (.one (.ptr 102 0))), (4, .x (.one (.p (.val (.bool ((decide ((0 : Int) < (s.length : Int))) && ((sx s (0 : Int)) == (45 : Int)))))))), (6, .x (.one (.p (pi y1)))), (13, .x (.one (.p (.val (.int .u64 y12))))), (14, .x (.one (.p (.val (.bool y13))))), (15, .x (.one (.p (.val (.int .u64 y14))))), (16, .x (.one (.p (.val (.bool y15)))))], mkH [(102, .var [.p (pi (0 : Int)), .p (pi (0 : Int))])]⟩) ?_
        refine lok_seq ?_
        refine lok_rt E0 (⟨145, mkS [(0, .x (.one (.p (.val (.string (bs s1)))))), (2, .x (.one (.ptr 102 0))), (4, .x (.one (.p (.val (.bool ((decide ((0 : Int) < (s.length : Int))) && ((sx s (0 : Int)) == (45 : Int)))))))), (6, .x (.one (.p (pi y1)))), (13, .x (.one (.p (.val (.int .u64 y12))))), (15, .x (.one (.p (.val (.int .u64 y14))))), (115, .x (.one (.p (.val (.bool ((!y13) || (!y15)))))))], mkH [(102, .var [.p (pi (0 : Int)), .p (pi (0 : Int))])]⟩) ?_
        refine lok_c ((!y13) || (!y15)) ?_ ?_
        · intro b_19
          replace H0 := cpos H0 b_19
          refine lok_rt E0 (⟨145, mkS [(2, .x (.one (.ptr 102 0))), (3, .x (.one (.p (pi (7 : Int)))))], mkH [(102, .var [.p (pi (0 : Int)), .p (pi (0 : Int))])]⟩) ?_
          refine lok_ret ?_
          obtain rfl := Option.some.inj H0
          try simp only [thenL, blockL]
          exact fin_au _ (.inr rfl) [] (⟨145, mkS [(2, .x (.one (.ptr 102 0))), (3, .x (.one (.p (pi (7 : Int)))))], mkH [(102, .var [.p (pi (0 : Int)), .p (pi (0 : Int))])]⟩) rfl rfl imp_au
        · intro b_19
          replace H0 := cneg H0 b_19
          refine lok_skip ?_
          try simp only [thenL, blockL, ↓reduceIte, reduceCtorEq]
          refine lok_rt E0 (⟨145, mkS [(0, .x (.one (.p (.val (.string (bs s1)))))), (2, .x (.one (.ptr 102 0))), (4, .x (.one (.p (.val (.bool ((decide ((0 : Int) < (s.length : Int))) && ((sx s (0 : Int)) == (45 : Int)))))))), (6, .x (.one (.p (pi y1)))), (13, .x (.one (.p (.val (.int .u64 y12))))), (15, .x (.one (.p (.val (.int .u64 y14))))), (17, .x (.one (.p (.val (.int .u64 (1 : Int))))))], mkH [(102, .var [.p (pi (0 : Int)), .p (pi (0 : Int))])]⟩) ?_
          refine lok_join (fun x_ : Int => ref01_Parse_j1 s y12 y14 x_ = some r_) (fun x_ => ⟨145, mkS [(2, .x (.one (.ptr 102 0))), (4, .x (.one (.p (.val (.bool ((decide ((0 : Int) < (s.length : Int))) && ((sx s (0 : Int)) == (45 : Int)))))))), (13, .x (.one (.p (.val (.int .u64 y12))))), (15, .x (.one (.p (.val (.int .u64 y14))))), (17, .x (.one (.p (.val (.int .u64 x_)))))], mkH [(102, .var [.p (pi (0 : Int)), .p (pi (0 : Int))])]⟩) ?hyref01_Parse_j1 ?hxref01_Parse_j1
          case hyref01_Parse_j1 =>
            rintro ten H0
            try dsimp only at H0 ⊢
            unfold ref01_Parse_j1 at H0
            replace H0 := bind_some H0
            obtain ⟨y16, h_14, H0⟩ := H0
            replace H0 := bind_some H0
            obtain ⟨y17, h_15, H0⟩ := H0
            refine lok_rt (Env.of E0 [⟨some 129, 39, [.one (.p (.val (.int .u64 y12))), .one (.p (.val (.int .u64 ten)))], [], [.agg [.p (.val (.int .u64 y16.Hi)), .p (.val (.int .u64 y16.Lo))]], [], True, fun _ => ok_ref01_Product y12 ten y16 h_14, []⟩,
      ⟨some 132, 38, [.agg [.p (.val (.int .u64 y16.Hi)), .p (.val (.int .u64 y16.Lo))], .agg [.p (.val (.int .u64 (0 : Int))), .p (.val (.int .u64 y14))]], [], [.agg [.p (.val (.int .u64 y17.Hi)), .p (.val (.int .u64 y17.Lo))]], [], True, fun _ => ok_ref01_Plus y16 (ref01_Wide.mk (0 : Int) y14) y17 h_15, []⟩]) (⟨145, mkS [(2, .x (.one (.ptr 102 0))), (4, .x (.one (.p (.val (.bool ((decide ((0 : Int) < (s.length : Int))) && ((sx s (0 : Int)) == (45 : Int)))))))), (17, .x (.one (.p (.val (.int .u64 ten))))), (19, .x (.one (.ptr 119 0)))], mkH [(102, .var [.p (pi (0 : Int)), .p (pi (0 : Int))]), (119, .var [.p (.val (.int .u64 y17.Hi)), .p (.val (.int .u64 y17.Lo))])]⟩) ?_
            replace H0 := bind_some H0
            obtain ⟨⟨y18, y19⟩, h_16, H0⟩ := H0
            try dsimp only at H0
            refine lok_dt (Env.of E0 [⟨some 142, 37, [.one (.p (.val (.bool (((decide ((0 : Int) < (s.length : Int))) && ((sx s (0 : Int)) == (45 : Int))) && (!((y17.Hi == (0 : Int)) && (y17.Lo == (0 : Int)))))))), .agg [.p (.val (.int .u64 y17.Hi)), .p (.val (.int .u64 y17.Lo))], .agg [.p (.val (.int .u64 (0 : Int))), .p (.val (.int .u64 ten))]], [], [.agg [.p (pi y18.Num), .p (pi y18.Den)], .one (.p (pi y19))], [], True, fun _ => ok_ref01_Reduce (((decide ((0 : Int) < (s.length : Int))) && ((sx s (0 : Int)) == (45 : Int))) && (!((y17.Hi == (0 : Int)) && (y17.Lo == (0 : Int))))) y17 (ref01_Wide.mk (0 : Int) ten) (y18, y19) h_16, []⟩]) 12 (⟨145, mkS [(2, .x (.one (.ptr 102 0))), (3, .x (.one (.p (pi y19))))], mkH [(102, .var [.p (pi y18.Num), .p (pi y18.Den)])]⟩) (by kernel_rfl) (by kernel_rfl) ?_
            refine lok_ret ?_
            obtain rfl := Option.some.inj H0
            try simp only [thenL, blockL]
            exact fin_au _ (.inr rfl) [] (⟨145, mkS [(2, .x (.one (.ptr 102 0))), (3, .x (.one (.p (pi y19))))], mkH [(102, .var [.p (pi y18.Num), .p (pi y18.Den)])]⟩) rfl rfl imp_au
          case hxref01_Parse_j1 =>
            refine lok_rt E0 (⟨145, mkS [(0, .x (.one (.p (.val (.string (bs s1)))))), (2, .x (.one (.ptr 102 0))), (4, .x (.one (.p (.val (.bool ((decide ((0 : Int) < (s.length : Int))) && ((sx s (0 : Int)) == (45 : Int)))))))), (13, .x (.one (.p (.val (.int .u64 y12))))), (15, .x (.one (.p (.val (.int .u64 y14))))), (17, .x (.one (.p (.val (.int .u64 (1 : Int)))))), (18, .x (.one (.p (pi (IntKind.i64.wrap (y1 + (1 : Int)))))))], mkH [(102, .var [.p (pi (0 : Int)), .p (pi (0 : Int))])]⟩) ?_
            refine lok_block ?_
            replace H0 := bind_some H0
            obtain ⟨v_17, hv_17, H0⟩ := H0
            refine lok_iter (fun x_ => ⟨145, mkS [(0, .x (.one (.p (.val (.string (bs s1)))))), (2, .x (.one (.ptr 102 0))), (4, .x (.one (.p (.val (.bool ((decide ((0 : Int) < (s.length : Int))) && ((sx s (0 : Int)) == (45 : Int)))))))), (13, .x (.one (.p (.val (.int .u64 y12))))), (15, .x (.one (.p (.val (.int .u64 y14))))), (17, .x (.one (.p (.val (.int .u64 x_.1))))), (18, .x (.one (.p (pi x_.2))))], mkH [(102, .var [.p (pi (0 : Int)), .p (pi (0 : Int))])]⟩) hv_17 imp_au ?_
            · rintro ⟨ten1, i⟩ o_1 H1 k_1
              unfold ref01_Parse_l2 at H1
              try dsimp only at H1 ⊢
              refine lok_seq ?_
              refine lok_rt E0 (⟨145, mkS [(0, .x (.one (.p (.val (.string (bs s1)))))), (2, .x (.one (.ptr 102 0))), (4, .x (.one (.p (.val (.bool ((decide ((0 : Int) < (s.length : Int))) && ((sx s (0 : Int)) == (45 : Int)))))))), (13, .x (.one (.p (.val (.int .u64 y12))))), (15, .x (.one (.p (.val (.int .u64 y14))))), (17, .x (.one (.p (.val (.int .u64 ten1))))), (18, .x (.one (.p (pi i)))), (122, .x (.one (.p (.val (.bool (decide (i < (s1.length : Int))))))))], mkH [(102, .var [.p (pi (0 : Int)), .p (pi (0 : Int))])]⟩) ?_
              refine lok_c (decide (i < (s1.length : Int))) ?_ ?_
              · intro b_18
                replace H1 := cpos H1 b_18
                refine lok_skip ?_
                try simp only [thenL, blockL, ↓reduceIte, reduceCtorEq]
                refine lok_seq ?_
                refine lok_block ?_
                refine lok_rl E0 (⟨145, mkS [(0, .x (.one (.p (.val (.string (bs s1)))))), (2, .x (.one (.ptr 102 0))), (4, .x (.one (.p (.val (.bool ((decide ((0 : Int) < (s.length : Int))) && ((sx s (0 : Int)) == (45 : Int)))))))), (13, .x (.one (.p (.val (.int .u64 y12))))), (15, .x (.one (.p (.val (.int .u64 y14))))), (17, .x (.one (.p (.val (.int .u64 (IntKind.u64.wrap (ten1 * (10 : Int)))))))), (18, .x (.one (.p (pi i))))], mkH [(102, .var [.p (pi (0 : Int)), .p (pi (0 : Int))])]⟩) ?_
                try simp only [thenL, blockL, ↓reduceIte, reduceCtorEq]
                refine lok_rl E0 (⟨145, mkS [(0, .x (.one (.p (.val (.string (bs s1)))))), (2, .x (.one (.ptr 102 0))), (4, .x (.one (.p (.val (.bool ((decide ((0 : Int) < (s.length : Int))) && ((sx s (0 : Int)) == (45 : Int)))))))), (13, .x (.one (.p (.val (.int .u64 y12))))), (15, .x (.one (.p (.val (.int .u64 y14))))), (17, .x (.one (.p (.val (.int .u64 (IntKind.u64.wrap (ten1 * (10 : Int)))))))), (18, .x (.one (.p (pi (IntKind.i64.wrap (i + (1 : Int)))))))], mkH [(102, .var [.p (pi (0 : Int)), .p (pi (0 : Int))])]⟩) ?_
                try simp only [thenL, blockL, ↓reduceIte, reduceCtorEq]
                exact ⟨((IntKind.u64.wrap (ten1 * (10 : Int))), (IntKind.i64.wrap (i + (1 : Int)))), (Option.some.inj H1).symm, imp_au⟩
              · intro b_18
                replace H1 := cneg H1 b_18
                refine lok_exit ?_
                try simp only [thenL, blockL, ↓reduceIte, reduceCtorEq]
                have e_1 := k_1 _ (Option.some.inj H1).symm
                subst e_1
                try dsimp only at H0
                try simp only [thenL, blockL, ↓reduceIte, reduceCtorEq]
                exact ⟨ten1, H0, imp_au⟩
  case hxref01_Parse_j3 =>
    refine lok_rt E0 (⟨145, mkS [(0, .x (.one (.p (.val (.string (bs s)))))), (2, .x (.one (.ptr 102 0))), (4, .x (.one (.p (.val (.bool ((decide ((0 : Int) < (s.length : Int))) && ((sx s (0 : Int)) == (45 : Int)))))))), (28, .x (.one (.p (.val (.bool ((decide ((0 : Int) < (s.length : Int))) && ((sx s (0 : Int)) == (45 : Int))))))))], mkH [(102, .var [.p (pi (0 : Int)), .p (pi (0 : Int))])]⟩) ?_
    refine lok_c ((decide ((0 : Int) < (s.length : Int))) && ((sx s (0 : Int)) == (45 : Int))) ?_ ?_
    · intro b_25
      replace H0 := cpos H0 b_25
      replace H0 := req_some H0
      obtain ⟨q_24, H0⟩ := H0
      refine lok_rl E0 (⟨145, mkS [(0, .x (.one (.p (.val (.string (bs (List.drop (1 : Int).toNat s))))))), (2, .x (.one (.ptr 102 0))), (4, .x (.one (.p (.val (.bool ((decide ((0 : Int) < (s.length : Int))) && ((sx s (0 : Int)) == (45 : Int))))))))], mkH [(102, .var [.p (pi (0 : Int)), .p (pi (0 : Int))])]⟩) ?_
      try simp only [thenL, blockL, ↓reduceIte, reduceCtorEq]
      exact ⟨(List.drop (1 : Int).toNat s), H0, imp_au⟩
    · intro b_25
      replace H0 := cneg H0 b_25
      refine lok_skip ?_
      try simp only [thenL, blockL, ↓reduceIte, reduceCtorEq]
      exact ⟨s, H0, imp_au⟩
theorem ok_law01_RatioParses (s : Str) (r_ : Bool) (H0 : law01_RatioParses s = some r_) : CallOK Try.prog 3 [.one (.p (.val (.string (bs s))))] [] [.one (.p (.val (.bool r_)))] [] := by
  refine callOK (n := 31) (rs := [.tmp 2]) (nb := 0) (V := []) Try.func3 rfl (by kernel_rfl) rfl rfl rfl rfl (Nat.le_of_ble_eq_true rfl) (by decide) ?_
  unfold law01_RatioParses at H0
  refine lok_rt E0 (⟨31, mkS [(0, .x (.one (.p (.val (.string (bs s))))))], mkH []⟩) ?_
  refine lok_seq ?_
  refine lok_rt E0 (⟨31, mkS [(0, .x (.one (.p (.val (.string (bs s)))))), (9, .x (.one (.p (.val (.bool (decide ((60 : Int) < (s.length : Int))))))))], mkH []⟩) ?_
  refine lok_c (decide ((60 : Int) < (s.length : Int))) ?_ ?_
  · intro b_3
    replace H0 := cpos H0 b_3
    refine lok_rt E0 (⟨31, mkS [(2, .x (.one (.p (.val (.bool true)))))], mkH []⟩) ?_
    refine lok_ret ?_
    obtain rfl := Option.some.inj H0
    try simp only [thenL, blockL]
    exact fin_au _ (.inr rfl) [] (⟨31, mkS [(2, .x (.one (.p (.val (.bool true)))))], mkH []⟩) rfl rfl imp_au
  · intro b_3
    replace H0 := cneg H0 b_3
    refine lok_skip ?_
    try simp only [thenL, blockL, ↓reduceIte, reduceCtorEq]
    replace H0 := bind_some H0
    obtain ⟨⟨y, y1⟩, h_0, H0⟩ := H0
    try dsimp only at H0
    refine lok_rt (Env.of E0 [⟨some 12, 8, [.one (.p (.val (.string (bs s))))], [], [.agg [.p (pi y.Num), .p (pi y.Den)], .one (.p (pi y1))], [], True, fun _ => ok_ratio_Parse s (y, y1) h_0, []⟩]) (⟨31, mkS [(0, .x (.one (.p (.val (.string (bs s)))))), (3, .x (.one (.ptr 103 0))), (4, .x (.one (.p (pi y1))))], mkH [(103, .var [.p (pi y.Num), .p (pi y.Den)])]⟩) ?_
    replace H0 := bind_some H0
    obtain ⟨⟨y2, y3⟩, h_1, H0⟩ := H0
    try dsimp only at H0
    refine lok_rt (Env.of E0 [⟨some 17, 9, [.one (.p (.val (.string (bs s))))], [], [.agg [.p (pi y2.Num), .p (pi y2.Den)], .one (.p (pi y3))], [], True, fun _ => ok_ref01_Parse s (y2, y3) h_1, []⟩]) (⟨31, mkS [(3, .x (.one (.ptr 103 0))), (4, .x (.one (.p (pi y1)))), (5, .x (.one (.ptr 105 0))), (6, .x (.one (.p (pi y3))))], mkH [(103, .var [.p (pi y.Num), .p (pi y.Den)]), (105, .var [.p (pi y2.Num), .p (pi y2.Den)])]⟩) ?_
    replace H0 := req_some H0
    obtain ⟨q_2, H0⟩ := H0
    refine lok_rt (Env.of E0 [⟨some 29, 10, [], [], [.one (.p (.val (.bool ((law01_awake).getD default))))], [], (law01_awake).isSome = true, fun h => ok_law01_awake _ (isSome_get h), []⟩]) (⟨31, mkS [(2, .x (.one (.p (.val (.bool ((((y.Num == y2.Num) && (y.Den == y2.Den)) && (y1 == y3)) && ((law01_awake).getD default)))))))], mkH []⟩) ?_
    refine lok_ret ?_
    obtain rfl := Option.some.inj H0
    try simp only [thenL, blockL]
    exact fin_au _ (.inr rfl) [] (⟨31, mkS [(2, .x (.one (.p (.val (.bool ((((y.Num == y2.Num) && (y.Den == y2.Den)) && (y1 == y3)) && ((law01_awake).getD default)))))))], mkH []⟩) rfl rfl imp_au
theorem ok_make_Cut (x : Int) (n : Int) (r_ : Int) (H0 : make_Cut x n = some r_) : CallOK Try.prog 17 [.one (.p (pi x)), .one (.p (pi n))] [] [.one (.p (pi r_))] [] := by
  refine callOK (n := 16) (rs := [.tmp 4]) (nb := 0) (V := []) Try.func17 rfl (by kernel_rfl) rfl rfl rfl rfl (Nat.le_of_ble_eq_true rfl) (by decide) ?_
  unfold make_Cut at H0
  refine lok_rt E0 (⟨16, mkS [(0, .x (.one (.p (pi x)))), (1, .x (.one (.p (pi n))))], mkH []⟩) ?_
  refine lok_seq ?_
  refine lok_rt E0 (⟨16, mkS [(0, .x (.one (.p (pi x)))), (1, .x (.one (.p (pi n)))), (6, .x (.one (.p (.val (.bool (decide (n < (1 : Int))))))))], mkH []⟩) ?_
  refine lok_c (decide (n < (1 : Int))) ?_ ?_
  · intro b_2
    replace H0 := cpos H0 b_2
    refine lok_rt E0 (⟨16, mkS [(4, .x (.one (.p (pi (0 : Int)))))], mkH []⟩) ?_
    refine lok_ret ?_
    obtain rfl := Option.some.inj H0
    try simp only [thenL, blockL]
    exact fin_au _ (.inr rfl) [] (⟨16, mkS [(4, .x (.one (.p (pi (0 : Int)))))], mkH []⟩) rfl rfl imp_au
  · intro b_2
    replace H0 := cneg H0 b_2
    refine lok_skip ?_
    try simp only [thenL, blockL, ↓reduceIte, reduceCtorEq]
    replace H0 := req_some H0
    obtain ⟨q_1, H0⟩ := H0
    refine lok_rt E0 (⟨16, mkS [(0, .x (.one (.p (pi (Int.tmod x n))))), (1, .x (.one (.p (pi n))))], mkH []⟩) ?_
    refine lok_join (fun x_ : Int => make_Cut_j1 x_ = some r_) (fun x_ => ⟨16, mkS [(0, .x (.one (.p (pi x_))))], mkH []⟩) ?hymake_Cut_j1 ?hxmake_Cut_j1
    case hymake_Cut_j1 =>
      rintro x1 H0
      try dsimp only at H0 ⊢
      unfold make_Cut_j1 at H0
      refine lok_rt E0 (⟨16, mkS [(4, .x (.one (.p (pi x1))))], mkH []⟩) ?_
      refine lok_ret ?_
      obtain rfl := Option.some.inj H0
      try simp only [thenL, blockL]
      exact fin_au _ (.inr rfl) [] (⟨16, mkS [(4, .x (.one (.p (pi x1))))], mkH []⟩) rfl rfl imp_au
    case hxmake_Cut_j1 =>
      refine lok_rt E0 (⟨16, mkS [(0, .x (.one (.p (pi (Int.tmod x n))))), (1, .x (.one (.p (pi n)))), (11, .x (.one (.p (.val (.bool (decide ((Int.tmod x n) < (0 : Int))))))))], mkH []⟩) ?_
      refine lok_c (decide ((Int.tmod x n) < (0 : Int))) ?_ ?_
      · intro b_0
        replace H0 := cpos H0 b_0
        refine lok_rl E0 (⟨16, mkS [(0, .x (.one (.p (pi (IntKind.i64.wrap ((Int.tmod x n) + n))))))], mkH []⟩) ?_
        try simp only [thenL, blockL, ↓reduceIte, reduceCtorEq]
        exact ⟨(IntKind.i64.wrap ((Int.tmod x n) + n)), H0, imp_au⟩
      · intro b_0
        replace H0 := cneg H0 b_0
        refine lok_skip ?_
        try simp only [thenL, blockL, ↓reduceIte, reduceCtorEq]
        exact ⟨(Int.tmod x n), H0, imp_au⟩
theorem ok_ratio_Valid (a : api_Ratio) (r_ : Bool) (H0 : ratio_Valid a = some r_) : CallOK Try.prog 43 [.agg [.p (pi a.Num), .p (pi a.Den)]] [] [.one (.p (.val (.bool r_)))] [] := by
  refine callOK (n := 29) (rs := [.tmp 2]) (nb := 0) (V := []) Try.func43 rfl (by kernel_rfl) rfl rfl rfl rfl (Nat.le_of_ble_eq_true rfl) (by decide) ?_
  unfold ratio_Valid at H0
  refine lok_rt E0 (⟨29, mkS [(1, .x (.one (.ptr 101 0)))], mkH [(101, .var [.p (pi a.Num), .p (pi a.Den)])]⟩) ?_
  refine lok_seq ?_
  refine lok_rt E0 (⟨29, mkS [(1, .x (.one (.ptr 101 0))), (20, .x (.one (.p (.val (.bool ((((decide (a.Den < (1 : Int))) || (decide ((1152921504606846976 : Int) < a.Den))) || (decide (a.Num < (-1152921504606846976 : Int)))) || (decide ((1152921504606846976 : Int) < a.Num))))))))], mkH [(101, .var [.p (pi a.Num), .p (pi a.Den)])]⟩) ?_
  refine lok_c ((((decide (a.Den < (1 : Int))) || (decide ((1152921504606846976 : Int) < a.Den))) || (decide (a.Num < (-1152921504606846976 : Int)))) || (decide ((1152921504606846976 : Int) < a.Num))) ?_ ?_
  · intro b_2
    replace H0 := cpos H0 b_2
    refine lok_rt E0 (⟨29, mkS [(2, .x (.one (.p (.val (.bool false)))))], mkH []⟩) ?_
    refine lok_ret ?_
    obtain rfl := Option.some.inj H0
    try simp only [thenL, blockL]
    exact fin_au _ (.inr rfl) [] (⟨29, mkS [(2, .x (.one (.p (.val (.bool false)))))], mkH []⟩) rfl rfl imp_au
  · intro b_2
    replace H0 := cneg H0 b_2
    refine lok_skip ?_
    try simp only [thenL, blockL, ↓reduceIte, reduceCtorEq]
    replace H0 := bind_some H0
    obtain ⟨y, h_0, H0⟩ := H0
    replace H0 := bind_some H0
    obtain ⟨y1, h_1, H0⟩ := H0
    refine lok_dt (Env.of E0 [⟨some 23, 42, [.one (.p (pi a.Num))], [], [.one (.p (.val (.int .u64 y)))], [], True, fun _ => ok_ratio_magnitude a.Num y h_0, []⟩,
      ⟨some 27, 44, [.one (.p (.val (.int .u64 y))), .one (.p (.val (.int .u64 (IntKind.u64.wrap a.Den))))], [], [.one (.p (.val (.int .u64 y1)))], [], True, fun _ => ok_ratio_gcd y (IntKind.u64.wrap a.Den) y1 h_1, []⟩]) 6 (⟨29, mkS [(2, .x (.one (.p (.val (.bool (y1 == (1 : Int)))))))], mkH []⟩) (by kernel_rfl) (by kernel_rfl) ?_
    refine lok_ret ?_
    obtain rfl := Option.some.inj H0
    try simp only [thenL, blockL]
    exact fin_au _ (.inr rfl) [] (⟨29, mkS [(2, .x (.one (.p (.val (.bool (y1 == (1 : Int)))))))], mkH []⟩) rfl rfl imp_au
theorem ok_ratio_Mul (a : api_Ratio) (b : api_Ratio) (r_ : api_Ratio × Int) (H0 : ratio_Mul a b = some r_) : CallOK Try.prog 19 [.agg [.p (pi a.Num), .p (pi a.Den)], .agg [.p (pi b.Num), .p (pi b.Den)]] [] [.agg [.p (pi r_.1.Num), .p (pi r_.1.Den)], .one (.p (pi r_.2))] [] := by
  refine callOK (n := 65) (rs := [.cell 4 23, .tmp 5]) (nb := 0) (V := []) Try.func19 rfl (by kernel_rfl) rfl rfl rfl rfl (Nat.le_of_ble_eq_true rfl) (by decide) ?_
  unfold ratio_Mul at H0
  refine lok_rt E0 (⟨65, mkS [(2, .x (.one (.ptr 102 0))), (3, .x (.one (.ptr 103 0))), (4, .x (.one (.ptr 104 0)))], mkH [(102, .var [.p (pi a.Num), .p (pi a.Den)]), (103, .var [.p (pi b.Num), .p (pi b.Den)]), (104, .var [.p (pi (0 : Int)), .p (pi (0 : Int))])]⟩) ?_
  refine lok_seq ?_
  replace H0 := bind_some H0
  obtain ⟨y, h_0, H0⟩ := H0
  replace H0 := req_some H0
  obtain ⟨q_13, H0⟩ := H0
  refine lok_rt (Env.of E0 [⟨some 14, 43, [.agg [.p (pi a.Num), .p (pi a.Den)]], [], [.one (.p (.val (.bool y)))], [], True, fun _ => ok_ratio_Valid a y h_0, []⟩,
      ⟨some 18, 43, [.agg [.p (pi b.Num), .p (pi b.Den)]], [], [.one (.p (.val (.bool ((ratio_Valid b).getD default))))], [], (ratio_Valid b).isSome = true, fun h => ok_ratio_Valid b _ (isSome_get h), []⟩]) (⟨65, mkS [(2, .x (.one (.ptr 102 0))), (3, .x (.one (.ptr 103 0))), (4, .x (.one (.ptr 104 0))), (20, .x (.one (.p (.val (.bool ((!y) || (!((ratio_Valid b).getD default))))))))], mkH [(102, .var [.p (pi a.Num), .p (pi a.Den)]), (103, .var [.p (pi b.Num), .p (pi b.Den)]), (104, .var [.p (pi (0 : Int)), .p (pi (0 : Int))])]⟩) ?_
  refine lok_c ((!y) || (!((ratio_Valid b).getD default))) ?_ ?_
  · intro b_12
    replace H0 := cpos H0 b_12
    refine lok_rt E0 (⟨65, mkS [(4, .x (.one (.ptr 104 0))), (5, .x (.one (.p (pi (1 : Int)))))], mkH [(104, .var [.p (pi (0 : Int)), .p (pi (0 : Int))])]⟩) ?_
    refine lok_ret ?_
    obtain rfl := Option.some.inj H0
    try simp only [thenL, blockL]
    exact fin_au _ (.inr rfl) [] (⟨65, mkS [(4, .x (.one (.ptr 104 0))), (5, .x (.one (.p (pi (1 : Int)))))], mkH [(104, .var [.p (pi (0 : Int)), .p (pi (0 : Int))])]⟩) rfl rfl imp_au
  · intro b_12
    replace H0 := cneg H0 b_12
    refine lok_skip ?_
    try simp only [thenL, blockL, ↓reduceIte, reduceCtorEq]
    replace H0 := bind_some H0
    obtain ⟨y1, h_1, H0⟩ := H0
    replace H0 := bind_some H0
    obtain ⟨y2, h_2, H0⟩ := H0
    refine lok_dt (Env.of E0 [⟨some 24, 42, [.one (.p (pi a.Num))], [], [.one (.p (.val (.int .u64 y1)))], [], True, fun _ => ok_ratio_magnitude a.Num y1 h_1, []⟩,
      ⟨some 27, 42, [.one (.p (pi b.Num))], [], [.one (.p (.val (.int .u64 y2)))], [], True, fun _ => ok_ratio_magnitude b.Num y2 h_2, []⟩]) 5 (⟨65, mkS [(2, .x (.one (.ptr 102 0))), (3, .x (.one (.ptr 103 0))), (4, .x (.one (.ptr 104 0))), (6, .x (.one (.p (.val (.int .u64 y1))))), (7, .x (.one (.p (.val (.int .u64 y2)))))], mkH [(102, .var [.p (pi a.Num), .p (pi a.Den)]), (103, .var [.p (pi b.Num), .p (pi b.Den)]), (104, .var [.p (pi (0 : Int)), .p (pi (0 : Int))])]⟩) (by kernel_rfl) (by kernel_rfl) ?_
    refine lok_dt E0 7 (⟨65, mkS [(2, .x (.one (.ptr 102 0))), (3, .x (.one (.ptr 103 0))), (4, .x (.one (.ptr 104 0))), (6, .x (.one (.p (.val (.int .u64 y1))))), (7, .x (.one (.p (.val (.int .u64 y2))))), (8, .x (.one (.p (.val (.int .u64 (IntKind.u64.wrap a.Den)))))), (9, .x (.one (.p (.val (.int .u64 (IntKind.u64.wrap b.Den))))))], mkH [(102, .var [.p (pi a.Num), .p (pi a.Den)]), (103, .var [.p (pi b.Num), .p (pi b.Den)]), (104, .var [.p (pi (0 : Int)), .p (pi (0 : Int))])]⟩) (by kernel_rfl) (by kernel_rfl) ?_
    replace H0 := bind_some H0
    obtain ⟨y3, h_3, H0⟩ := H0
    replace H0 := bind_some H0
    obtain ⟨y4, h_4, H0⟩ := H0
    refine lok_rt (Env.of E0 [⟨some 36, 44, [.one (.p (.val (.int .u64 y1))), .one (.p (.val (.int .u64 (IntKind.u64.wrap b.Den))))], [], [.one (.p (.val (.int .u64 y3)))], [], True, fun _ => ok_ratio_gcd y1 (IntKind.u64.wrap b.Den) y3 h_3, []⟩,
      ⟨some 39, 44, [.one (.p (.val (.int .u64 y2))), .one (.p (.val (.int .u64 (IntKind.u64.wrap a.Den))))], [], [.one (.p (.val (.int .u64 y4)))], [], True, fun _ => ok_ratio_gcd y2 (IntKind.u64.wrap a.Den) y4 h_4, []⟩]) (⟨65, mkS [(2, .x (.one (.ptr 102 0))), (3, .x (.one (.ptr 103 0))), (4, .x (.one (.ptr 104 0))), (6, .x (.one (.p (.val (.int .u64 y1))))), (7, .x (.one (.p (.val (.int .u64 y2))))), (8, .x (.one (.p (.val (.int .u64 (IntKind.u64.wrap a.Den)))))), (9, .x (.one (.p (.val (.int .u64 (IntKind.u64.wrap b.Den)))))), (10, .x (.one (.p (.val (.int .u64 y3))))), (11, .x (.one (.p (.val (.int .u64 y4)))))], mkH [(102, .var [.p (pi a.Num), .p (pi a.Den)]), (103, .var [.p (pi b.Num), .p (pi b.Den)]), (104, .var [.p (pi (0 : Int)), .p (pi (0 : Int))])]⟩) ?_
    refine lok_rt E0 (⟨65, mkS [(4, .x (.one (.ptr 104 0))), (6, .x (.one (.p (.val (.int .u64 y1))))), (7, .x (.one (.p (.val (.int .u64 y2))))), (8, .x (.one (.p (.val (.int .u64 (IntKind.u64.wrap a.Den)))))), (9, .x (.one (.p (.val (.int .u64 (IntKind.u64.wrap b.Den)))))), (10, .x (.one (.p (.val (.int .u64 y3))))), (11, .x (.one (.p (.val (.int .u64 y4))))), (12, .x (.one (.p (.val (.bool (!((decide (a.Num < (0 : Int))) == (decide (b.Num < (0 : Int))))))))))], mkH [(104, .var [.p (pi (0 : Int)), .p (pi (0 : Int))])]⟩) ?_
    replace H0 := req_some H0
    obtain ⟨⟨q_8, q_9⟩, H0⟩ := H0
    replace H0 := bind_some H0
    obtain ⟨y5, h_5, H0⟩ := H0
    replace H0 := req_some H0
    obtain ⟨⟨q_10, q_11⟩, H0⟩ := H0
    replace H0 := bind_some H0
    obtain ⟨y6, h_6, H0⟩ := H0
    replace H0 := bind_some H0
    obtain ⟨⟨y7, y8⟩, h_7, H0⟩ := H0
    try dsimp only at H0
    refine lok_dt (Env.of E0 [⟨some 54, 33, [.one (.p (.val (.int .u64 (IntKind.u64.wrap (Int.tdiv y1 y3))))), .one (.p (.val (.int .u64 (IntKind.u64.wrap (Int.tdiv y2 y4)))))], [], [.agg [.p (.val (.int .u64 y5.hi)), .p (.val (.int .u64 y5.lo))]], [], True, fun _ => ok_ratio_product (IntKind.u64.wrap (Int.tdiv y1 y3)) (IntKind.u64.wrap (Int.tdiv y2 y4)) y5 h_5, []⟩,
      ⟨some 61, 33, [.one (.p (.val (.int .u64 (IntKind.u64.wrap (Int.tdiv (IntKind.u64.wrap a.Den) y4))))), .one (.p (.val (.int .u64 (IntKind.u64.wrap (Int.tdiv (IntKind.u64.wrap b.Den) y3)))))], [], [.agg [.p (.val (.int .u64 y6.hi)), .p (.val (.int .u64 y6.lo))]], [], True, fun _ => ok_ratio_product (IntKind.u64.wrap (Int.tdiv (IntKind.u64.wrap a.Den) y4)) (IntKind.u64.wrap (Int.tdiv (IntKind.u64.wrap b.Den) y3)) y6 h_6, []⟩,
      ⟨some 62, 45, [.one (.p (.val (.bool (!((decide (a.Num < (0 : Int))) == (decide (b.Num < (0 : Int)))))))), .agg [.p (.val (.int .u64 y5.hi)), .p (.val (.int .u64 y5.lo))], .agg [.p (.val (.int .u64 y6.hi)), .p (.val (.int .u64 y6.lo))]], [], [.agg [.p (pi y7.Num), .p (pi y7.Den)], .one (.p (pi y8))], [], True, fun _ => ok_ratio_fitted (!((decide (a.Num < (0 : Int))) == (decide (b.Num < (0 : Int))))) y5 y6 (y7, y8) h_7, []⟩]) 18 (⟨65, mkS [(4, .x (.one (.ptr 104 0))), (5, .x (.one (.p (pi y8))))], mkH [(104, .var [.p (pi y7.Num), .p (pi y7.Den)])]⟩) (by kernel_rfl) (by kernel_rfl) ?_
    refine lok_ret ?_
    obtain rfl := Option.some.inj H0
    try simp only [thenL, blockL]
    exact fin_au _ (.inr rfl) [] (⟨65, mkS [(4, .x (.one (.ptr 104 0))), (5, .x (.one (.p (pi y8))))], mkH [(104, .var [.p (pi y7.Num), .p (pi y7.Den)])]⟩) rfl rfl imp_au
theorem ok_cmp_isNaN_uint64 (x : Int) (r_ : Bool) (H0 : cmp_isNaN_uint64 x = some r_) : CallOK Try.prog 79 [.one (.p (.val (.int .u64 x)))] [] [.one (.p (.val (.bool r_)))] [] := by
  refine callOK (n := 6) (rs := [.tmp 2]) (nb := 0) (V := []) Try.func79 rfl (by kernel_rfl) rfl rfl rfl rfl (Nat.le_of_ble_eq_true rfl) (by decide) ?_
  unfold cmp_isNaN_uint64 at H0
  refine lok_rt E0 (⟨6, mkS [(0, .x (.one (.p (.val (.int .u64 x)))))], mkH []⟩) ?_
  refine lok_rt E0 (⟨6, mkS [(2, .x (.one (.p (.val (.bool (x != x))))))], mkH []⟩) ?_
  refine lok_ret ?_
  obtain rfl := Option.some.inj H0
  try simp only [thenL, blockL]
  exact fin_au _ (.inr rfl) [] (⟨6, mkS [(2, .x (.one (.p (.val (.bool (x != x))))))], mkH []⟩) rfl rfl imp_au
theorem ok_cmp_Compare_uint64 (x : Int) (y : Int) (r_ : Int) (H0 : cmp_Compare_uint64 x y = some r_) : CallOK Try.prog 74 [.one (.p (.val (.int .u64 x))), .one (.p (.val (.int .u64 y)))] [] [.one (.p (pi r_))] [] := by
  refine callOK (n := 20) (rs := [.tmp 4]) (nb := 0) (V := []) Try.func74 rfl (by kernel_rfl) rfl rfl rfl rfl (Nat.le_of_ble_eq_true rfl) (by decide) ?_
  unfold cmp_Compare_uint64 at H0
  refine lok_rt E0 (⟨20, mkS [(0, .x (.one (.p (.val (.int .u64 x))))), (1, .x (.one (.p (.val (.int .u64 y)))))], mkH []⟩) ?_
  replace H0 := bind_some H0
  obtain ⟨y1, h_0, H0⟩ := H0
  refine lok_rt (Env.of E0 [⟨some 8, 79, [.one (.p (.val (.int .u64 x)))], [], [.one (.p (.val (.bool y1)))], [], True, fun _ => ok_cmp_isNaN_uint64 x y1 h_0, []⟩]) (⟨20, mkS [(0, .x (.one (.p (.val (.int .u64 x))))), (1, .x (.one (.p (.val (.int .u64 y))))), (5, .x (.one (.p (.val (.bool y1)))))], mkH []⟩) ?_
  replace H0 := bind_some H0
  obtain ⟨y2, h_1, H0⟩ := H0
  refine lok_rt (Env.of E0 [⟨some 10, 79, [.one (.p (.val (.int .u64 y)))], [], [.one (.p (.val (.bool y2)))], [], True, fun _ => ok_cmp_isNaN_uint64 y y2 h_1, []⟩]) (⟨20, mkS [(0, .x (.one (.p (.val (.int .u64 x))))), (1, .x (.one (.p (.val (.int .u64 y))))), (5, .x (.one (.p (.val (.bool y1))))), (6, .x (.one (.p (.val (.bool y2)))))], mkH []⟩) ?_
  refine lok_seq ?_
  refine lok_rt E0 (⟨20, mkS [(0, .x (.one (.p (.val (.int .u64 x))))), (1, .x (.one (.p (.val (.int .u64 y))))), (6, .x (.one (.p (.val (.bool y2))))), (11, .x (.one (.p (.val (.bool y1)))))], mkH []⟩) ?_
  refine lok_c y1 ?_ ?_
  · intro b_6
    replace H0 := cpos H0 b_6
    refine lok_seq ?_
    refine lok_rt E0 (⟨20, mkS [(12, .x (.one (.p (.val (.bool y2)))))], mkH []⟩) ?_
    refine lok_c y2 ?_ ?_
    · intro b_2
      replace H0 := cpos H0 b_2
      refine lok_rt E0 (⟨20, mkS [(4, .x (.one (.p (pi (0 : Int)))))], mkH []⟩) ?_
      refine lok_ret ?_
      obtain rfl := Option.some.inj H0
      try simp only [thenL, blockL]
      exact fin_au _ (.inr rfl) [] (⟨20, mkS [(4, .x (.one (.p (pi (0 : Int)))))], mkH []⟩) rfl rfl imp_au
    · intro b_2
      replace H0 := cneg H0 b_2
      refine lok_skip ?_
      try simp only [thenL, blockL, ↓reduceIte, reduceCtorEq]
      refine lok_rt E0 (⟨20, mkS [(4, .x (.one (.p (pi (-1 : Int)))))], mkH []⟩) ?_
      refine lok_ret ?_
      obtain rfl := Option.some.inj H0
      try simp only [thenL, blockL]
      exact fin_au _ (.inr rfl) [] (⟨20, mkS [(4, .x (.one (.p (pi (-1 : Int)))))], mkH []⟩) rfl rfl imp_au
  · intro b_6
    replace H0 := cneg H0 b_6
    refine lok_skip ?_
    try simp only [thenL, blockL, ↓reduceIte, reduceCtorEq]
    refine lok_seq ?_
    refine lok_rt E0 (⟨20, mkS [(0, .x (.one (.p (.val (.int .u64 x))))), (1, .x (.one (.p (.val (.int .u64 y))))), (13, .x (.one (.p (.val (.bool y2)))))], mkH []⟩) ?_
    refine lok_c y2 ?_ ?_
    · intro b_5
      replace H0 := cpos H0 b_5
      refine lok_rt E0 (⟨20, mkS [(4, .x (.one (.p (pi (1 : Int)))))], mkH []⟩) ?_
      refine lok_ret ?_
      obtain rfl := Option.some.inj H0
      try simp only [thenL, blockL]
      exact fin_au _ (.inr rfl) [] (⟨20, mkS [(4, .x (.one (.p (pi (1 : Int)))))], mkH []⟩) rfl rfl imp_au
    · intro b_5
      replace H0 := cneg H0 b_5
      refine lok_skip ?_
      try simp only [thenL, blockL, ↓reduceIte, reduceCtorEq]
      refine lok_seq ?_
      refine lok_rt E0 (⟨20, mkS [(0, .x (.one (.p (.val (.int .u64 x))))), (1, .x (.one (.p (.val (.int .u64 y))))), (16, .x (.one (.p (.val (.bool (decide (x < y)))))))], mkH []⟩) ?_
      refine lok_c (decide (x < y)) ?_ ?_
      · intro b_4
        replace H0 := cpos H0 b_4
        refine lok_rt E0 (⟨20, mkS [(4, .x (.one (.p (pi (-1 : Int)))))], mkH []⟩) ?_
        refine lok_ret ?_
        obtain rfl := Option.some.inj H0
        try simp only [thenL, blockL]
        exact fin_au _ (.inr rfl) [] (⟨20, mkS [(4, .x (.one (.p (pi (-1 : Int)))))], mkH []⟩) rfl rfl imp_au
      · intro b_4
        replace H0 := cneg H0 b_4
        refine lok_skip ?_
        try simp only [thenL, blockL, ↓reduceIte, reduceCtorEq]
        refine lok_seq ?_
        refine lok_rt E0 (⟨20, mkS [(19, .x (.one (.p (.val (.bool (decide (y < x)))))))], mkH []⟩) ?_
        refine lok_c (decide (y < x)) ?_ ?_
        · intro b_3
          replace H0 := cpos H0 b_3
          refine lok_rt E0 (⟨20, mkS [(4, .x (.one (.p (pi (1 : Int)))))], mkH []⟩) ?_
          refine lok_ret ?_
          obtain rfl := Option.some.inj H0
          try simp only [thenL, blockL]
          exact fin_au _ (.inr rfl) [] (⟨20, mkS [(4, .x (.one (.p (pi (1 : Int)))))], mkH []⟩) rfl rfl imp_au
        · intro b_3
          replace H0 := cneg H0 b_3
          refine lok_skip ?_
          try simp only [thenL, blockL, ↓reduceIte, reduceCtorEq]
          refine lok_rt E0 (⟨20, mkS [(4, .x (.one (.p (pi (0 : Int)))))], mkH []⟩) ?_
          refine lok_ret ?_
          obtain rfl := Option.some.inj H0
          try simp only [thenL, blockL]
          exact fin_au _ (.inr rfl) [] (⟨20, mkS [(4, .x (.one (.p (pi (0 : Int)))))], mkH []⟩) rfl rfl imp_au
theorem ok_ratio_wide_compare (a : ratio_wide) (b : ratio_wide) (r_ : Int) (H0 : ratio_wide_compare a b = some r_) : CallOK Try.prog 64 [.agg [.p (.val (.int .u64 a.hi)), .p (.val (.int .u64 a.lo))], .agg [.p (.val (.int .u64 b.hi)), .p (.val (.int .u64 b.lo))]] [] [.one (.p (pi r_))] [] := by
  refine callOK (n := 19) (rs := [.tmp 4]) (nb := 0) (V := []) Try.func64 rfl (by kernel_rfl) rfl rfl rfl rfl (Nat.le_of_ble_eq_true rfl) (by decide) ?_
  unfold ratio_wide_compare at H0
  refine lok_rt E0 (⟨19, mkS [(2, .x (.one (.ptr 102 0))), (3, .x (.one (.ptr 103 0)))], mkH [(102, .var [.p (.val (.int .u64 a.hi)), .p (.val (.int .u64 a.lo))]), (103, .var [.p (.val (.int .u64 b.hi)), .p (.val (.int .u64 b.lo))])]⟩) ?_
  refine lok_seq ?_
  replace H0 := bind_some H0
  obtain ⟨y, h_0, H0⟩ := H0
  refine lok_rt (Env.of E0 [⟨some 10, 74, [.one (.p (.val (.int .u64 a.hi))), .one (.p (.val (.int .u64 b.hi)))], [], [.one (.p (pi y))], [], True, fun _ => ok_cmp_Compare_uint64 a.hi b.hi y h_0, []⟩]) (⟨19, mkS [(2, .x (.one (.ptr 102 0))), (3, .x (.one (.ptr 103 0))), (5, .x (.one (.p (pi y))))], mkH [(102, .var [.p (.val (.int .u64 a.hi)), .p (.val (.int .u64 a.lo))]), (103, .var [.p (.val (.int .u64 b.hi)), .p (.val (.int .u64 b.lo))])]⟩) ?_
  refine lok_rt E0 (⟨19, mkS [(2, .x (.one (.ptr 102 0))), (3, .x (.one (.ptr 103 0))), (5, .x (.one (.p (pi y)))), (12, .x (.one (.p (.val (.bool (y != (0 : Int)))))))], mkH [(102, .var [.p (.val (.int .u64 a.hi)), .p (.val (.int .u64 a.lo))]), (103, .var [.p (.val (.int .u64 b.hi)), .p (.val (.int .u64 b.lo))])]⟩) ?_
  refine lok_c (y != (0 : Int)) ?_ ?_
  · intro b_2
    replace H0 := cpos H0 b_2
    refine lok_rt E0 (⟨19, mkS [(4, .x (.one (.p (pi y))))], mkH []⟩) ?_
    refine lok_ret ?_
    obtain rfl := Option.some.inj H0
    try simp only [thenL, blockL]
    exact fin_au _ (.inr rfl) [] (⟨19, mkS [(4, .x (.one (.p (pi y))))], mkH []⟩) rfl rfl imp_au
  · intro b_2
    replace H0 := cneg H0 b_2
    refine lok_skip ?_
    try simp only [thenL, blockL, ↓reduceIte, reduceCtorEq]
    replace H0 := bind_some H0
    obtain ⟨y1, h_1, H0⟩ := H0
    refine lok_rt (Env.of E0 [⟨some 18, 74, [.one (.p (.val (.int .u64 a.lo))), .one (.p (.val (.int .u64 b.lo)))], [], [.one (.p (pi y1))], [], True, fun _ => ok_cmp_Compare_uint64 a.lo b.lo y1 h_1, []⟩]) (⟨19, mkS [(4, .x (.one (.p (pi y1))))], mkH []⟩) ?_
    refine lok_ret ?_
    obtain rfl := Option.some.inj H0
    try simp only [thenL, blockL]
    exact fin_au _ (.inr rfl) [] (⟨19, mkS [(4, .x (.one (.p (pi y1))))], mkH []⟩) rfl rfl imp_au
theorem ok_ratio_wide_minus (a : ratio_wide) (b : ratio_wide) (r_ : ratio_wide) (H0 : ratio_wide_minus a b = some r_) : CallOK Try.prog 65 [.agg [.p (.val (.int .u64 a.hi)), .p (.val (.int .u64 a.lo))], .agg [.p (.val (.int .u64 b.hi)), .p (.val (.int .u64 b.lo))]] [] [.agg [.p (.val (.int .u64 r_.hi)), .p (.val (.int .u64 r_.lo))]] [] := by
  refine callOK (n := 29) (rs := [.cell 4 52]) (nb := 0) (V := []) Try.func65 rfl (by kernel_rfl) rfl rfl rfl rfl (Nat.le_of_ble_eq_true rfl) (by decide) ?_
  unfold ratio_wide_minus at H0
  refine lok_rt E0 (⟨29, mkS [(2, .x (.one (.ptr 102 0))), (3, .x (.one (.ptr 103 0))), (4, .x (.one (.ptr 104 0)))], mkH [(102, .var [.p (.val (.int .u64 a.hi)), .p (.val (.int .u64 a.lo))]), (103, .var [.p (.val (.int .u64 b.hi)), .p (.val (.int .u64 b.lo))]), (104, .var [.p (.val (.int .u64 (0 : Int))), .p (.val (.int .u64 (0 : Int)))])]⟩) ?_
  replace H0 := bind_some H0
  obtain ⟨⟨y, y1⟩, h_0, H0⟩ := H0
  try dsimp only at H0
  refine lok_rt (Env.of E0 [⟨some 14, 75, [.one (.p (.val (.int .u64 a.lo))), .one (.p (.val (.int .u64 b.lo))), .one (.p (.val (.int .u64 (0 : Int))))], [], [.one (.p (.val (.int .u64 y))), .one (.p (.val (.int .u64 y1)))], [], True, fun _ => ok_bits_Sub64 a.lo b.lo (0 : Int) (y, y1) h_0, []⟩]) (⟨29, mkS [(2, .x (.one (.ptr 102 0))), (3, .x (.one (.ptr 103 0))), (4, .x (.one (.ptr 104 0))), (5, .x (.one (.p (.val (.int .u64 y))))), (6, .x (.one (.p (.val (.int .u64 y1)))))], mkH [(102, .var [.p (.val (.int .u64 a.hi)), .p (.val (.int .u64 a.lo))]), (103, .var [.p (.val (.int .u64 b.hi)), .p (.val (.int .u64 b.lo))]), (104, .var [.p (.val (.int .u64 (0 : Int))), .p (.val (.int .u64 (0 : Int)))])]⟩) ?_
  replace H0 := bind_some H0
  obtain ⟨⟨y2, y3⟩, h_1, H0⟩ := H0
  try dsimp only at H0
  refine lok_rt (Env.of E0 [⟨some 23, 75, [.one (.p (.val (.int .u64 a.hi))), .one (.p (.val (.int .u64 b.hi))), .one (.p (.val (.int .u64 y1)))], [], [.one (.p (.val (.int .u64 y2))), .one (.p (.val (.int .u64 y3)))], [], True, fun _ => ok_bits_Sub64 a.hi b.hi y1 (y2, y3) h_1, []⟩]) (⟨29, mkS [(4, .x (.one (.ptr 104 0))), (5, .x (.one (.p (.val (.int .u64 y))))), (7, .x (.one (.p (.val (.int .u64 y2)))))], mkH [(104, .var [.p (.val (.int .u64 (0 : Int))), .p (.val (.int .u64 (0 : Int)))])]⟩) ?_
  refine lok_rt E0 (⟨29, mkS [(4, .x (.one (.ptr 104 0)))], mkH [(104, .var [.p (.val (.int .u64 y2)), .p (.val (.int .u64 y))])]⟩) ?_
  refine lok_ret ?_
  obtain rfl := Option.some.inj H0
  try simp only [thenL, blockL]
  exact fin_au _ (.inr rfl) [] (⟨29, mkS [(4, .x (.one (.ptr 104 0)))], mkH [(104, .var [.p (.val (.int .u64 y2)), .p (.val (.int .u64 y))])]⟩) rfl rfl imp_au
theorem ok_ratio_signed_plus (a : ratio_signed) (b : ratio_signed) (r_ : ratio_signed) (H0 : ratio_signed_plus a b = some r_) : CallOK Try.prog 46 [.agg [.p (.val (.bool a.neg)), .p (.val (.int .u64 a.abs.hi)), .p (.val (.int .u64 a.abs.lo))], .agg [.p (.val (.bool b.neg)), .p (.val (.int .u64 b.abs.hi)), .p (.val (.int .u64 b.abs.lo))]] [] [.agg [.p (.val (.bool r_.neg)), .p (.val (.int .u64 r_.abs.hi)), .p (.val (.int .u64 r_.abs.lo))]] [] := by
  refine callOK (n := 40) (rs := [.cell 4 54]) (nb := 0) (V := []) Try.func46 rfl (by kernel_rfl) rfl rfl rfl rfl (Nat.le_of_ble_eq_true rfl) (by decide) ?_
  unfold ratio_signed_plus at H0
  refine lok_rt E0 (⟨40, mkS [(2, .x (.one (.ptr 102 0))), (3, .x (.one (.ptr 103 0))), (4, .x (.one (.ptr 104 0)))], mkH [(102, .var [.p (.val (.bool a.neg)), .p (.val (.int .u64 a.abs.hi)), .p (.val (.int .u64 a.abs.lo))]), (103, .var [.p (.val (.bool b.neg)), .p (.val (.int .u64 b.abs.hi)), .p (.val (.int .u64 b.abs.lo))]), (104, .var [.p (.val (.bool false)), .p (.val (.int .u64 (0 : Int))), .p (.val (.int .u64 (0 : Int)))])]⟩) ?_
  refine lok_seq ?_
  refine lok_rt E0 (⟨40, mkS [(2, .x (.one (.ptr 102 0))), (3, .x (.one (.ptr 103 0))), (4, .x (.one (.ptr 104 0))), (9, .x (.one (.p (.val (.bool (a.neg == b.neg))))))], mkH [(102, .var [.p (.val (.bool a.neg)), .p (.val (.int .u64 a.abs.hi)), .p (.val (.int .u64 a.abs.lo))]), (103, .var [.p (.val (.bool b.neg)), .p (.val (.int .u64 b.abs.hi)), .p (.val (.int .u64 b.abs.lo))]), (104, .var [.p (.val (.bool false)), .p (.val (.int .u64 (0 : Int))), .p (.val (.int .u64 (0 : Int)))])]⟩) ?_
  refine lok_c (a.neg == b.neg) ?_ ?_
  · intro b_5
    replace H0 := cpos H0 b_5
    replace H0 := bind_some H0
    obtain ⟨y, h_0, H0⟩ := H0
    refine lok_dt (Env.of E0 [⟨some 16, 34, [.agg [.p (.val (.int .u64 a.abs.hi)), .p (.val (.int .u64 a.abs.lo))], .agg [.p (.val (.int .u64 b.abs.hi)), .p (.val (.int .u64 b.abs.lo))]], [], [.agg [.p (.val (.int .u64 y.hi)), .p (.val (.int .u64 y.lo))]], [], True, fun _ => ok_ratio_wide_plus a.abs b.abs y h_0, []⟩]) 7 (⟨40, mkS [(4, .x (.one (.ptr 104 0)))], mkH [(104, .var [.p (.val (.bool a.neg)), .p (.val (.int .u64 y.hi)), .p (.val (.int .u64 y.lo))])]⟩) (by kernel_rfl) (by kernel_rfl) ?_
    refine lok_ret ?_
    obtain rfl := Option.some.inj H0
    try simp only [thenL, blockL]
    exact fin_au _ (.inr rfl) [] (⟨40, mkS [(4, .x (.one (.ptr 104 0)))], mkH [(104, .var [.p (.val (.bool a.neg)), .p (.val (.int .u64 y.hi)), .p (.val (.int .u64 y.lo))])]⟩) rfl rfl imp_au
  · intro b_5
    replace H0 := cneg H0 b_5
    refine lok_skip ?_
    try simp only [thenL, blockL, ↓reduceIte, reduceCtorEq]
    refine lok_seq ?_
    replace H0 := bind_some H0
    obtain ⟨y1, h_1, H0⟩ := H0
    refine lok_rt (Env.of E0 [⟨some 22, 64, [.agg [.p (.val (.int .u64 a.abs.hi)), .p (.val (.int .u64 a.abs.lo))], .agg [.p (.val (.int .u64 b.abs.hi)), .p (.val (.int .u64 b.abs.lo))]], [], [.one (.p (pi y1))], [], True, fun _ => ok_ratio_wide_compare a.abs b.abs y1 h_1, []⟩]) (⟨40, mkS [(2, .x (.one (.ptr 102 0))), (3, .x (.one (.ptr 103 0))), (4, .x (.one (.ptr 104 0))), (23, .x (.one (.p (.val (.bool (decide ((0 : Int) ≤ y1)))))))], mkH [(102, .var [.p (.val (.bool a.neg)), .p (.val (.int .u64 a.abs.hi)), .p (.val (.int .u64 a.abs.lo))]), (103, .var [.p (.val (.bool b.neg)), .p (.val (.int .u64 b.abs.hi)), .p (.val (.int .u64 b.abs.lo))]), (104, .var [.p (.val (.bool false)), .p (.val (.int .u64 (0 : Int))), .p (.val (.int .u64 (0 : Int)))])]⟩) ?_
    refine lok_c (decide ((0 : Int) ≤ y1)) ?_ ?_
    · intro b_4
      replace H0 := cpos H0 b_4
      replace H0 := bind_some H0
      obtain ⟨y2, h_2, H0⟩ := H0
      refine lok_dt (Env.of E0 [⟨some 30, 65, [.agg [.p (.val (.int .u64 a.abs.hi)), .p (.val (.int .u64 a.abs.lo))], .agg [.p (.val (.int .u64 b.abs.hi)), .p (.val (.int .u64 b.abs.lo))]], [], [.agg [.p (.val (.int .u64 y2.hi)), .p (.val (.int .u64 y2.lo))]], [], True, fun _ => ok_ratio_wide_minus a.abs b.abs y2 h_2, []⟩]) 7 (⟨40, mkS [(4, .x (.one (.ptr 104 0)))], mkH [(104, .var [.p (.val (.bool a.neg)), .p (.val (.int .u64 y2.hi)), .p (.val (.int .u64 y2.lo))])]⟩) (by kernel_rfl) (by kernel_rfl) ?_
      refine lok_ret ?_
      obtain rfl := Option.some.inj H0
      try simp only [thenL, blockL]
      exact fin_au _ (.inr rfl) [] (⟨40, mkS [(4, .x (.one (.ptr 104 0)))], mkH [(104, .var [.p (.val (.bool a.neg)), .p (.val (.int .u64 y2.hi)), .p (.val (.int .u64 y2.lo))])]⟩) rfl rfl imp_au
    · intro b_4
      replace H0 := cneg H0 b_4
      refine lok_skip ?_
      try simp only [thenL, blockL, ↓reduceIte, reduceCtorEq]
      replace H0 := bind_some H0
      obtain ⟨y3, h_3, H0⟩ := H0
      refine lok_dt (Env.of E0 [⟨some 38, 65, [.agg [.p (.val (.int .u64 b.abs.hi)), .p (.val (.int .u64 b.abs.lo))], .agg [.p (.val (.int .u64 a.abs.hi)), .p (.val (.int .u64 a.abs.lo))]], [], [.agg [.p (.val (.int .u64 y3.hi)), .p (.val (.int .u64 y3.lo))]], [], True, fun _ => ok_ratio_wide_minus b.abs a.abs y3 h_3, []⟩]) 7 (⟨40, mkS [(4, .x (.one (.ptr 104 0)))], mkH [(104, .var [.p (.val (.bool b.neg)), .p (.val (.int .u64 y3.hi)), .p (.val (.int .u64 y3.lo))])]⟩) (by kernel_rfl) (by kernel_rfl) ?_
      refine lok_ret ?_
      obtain rfl := Option.some.inj H0
      try simp only [thenL, blockL]
      exact fin_au _ (.inr rfl) [] (⟨40, mkS [(4, .x (.one (.ptr 104 0)))], mkH [(104, .var [.p (.val (.bool b.neg)), .p (.val (.int .u64 y3.hi)), .p (.val (.int .u64 y3.lo))])]⟩) rfl rfl imp_au
theorem ok_ratio_signedProduct (num : Int) (factor : Int) (r_ : ratio_signed) (H0 : ratio_signedProduct num factor = some r_) : CallOK Try.prog 47 [.one (.p (pi num)), .one (.p (.val (.int .u64 factor)))] [] [.agg [.p (.val (.bool r_.neg)), .p (.val (.int .u64 r_.abs.hi)), .p (.val (.int .u64 r_.abs.lo))]] [] := by
  refine callOK (n := 12) (rs := [.cell 4 54]) (nb := 0) (V := []) Try.func47 rfl (by kernel_rfl) rfl rfl rfl rfl (Nat.le_of_ble_eq_true rfl) (by decide) ?_
  unfold ratio_signedProduct at H0
  refine lok_rt E0 (⟨12, mkS [(0, .x (.one (.p (pi num)))), (1, .x (.one (.p (.val (.int .u64 factor))))), (4, .x (.one (.ptr 104 0)))], mkH [(104, .var [.p (.val (.bool false)), .p (.val (.int .u64 (0 : Int))), .p (.val (.int .u64 (0 : Int)))])]⟩) ?_
  replace H0 := bind_some H0
  obtain ⟨y, h_0, H0⟩ := H0
  replace H0 := bind_some H0
  obtain ⟨y1, h_1, H0⟩ := H0
  refine lok_rt (Env.of E0 [⟨some 8, 42, [.one (.p (pi num))], [], [.one (.p (.val (.int .u64 y)))], [], True, fun _ => ok_ratio_magnitude num y h_0, []⟩,
      ⟨some 10, 33, [.one (.p (.val (.int .u64 y))), .one (.p (.val (.int .u64 factor)))], [], [.agg [.p (.val (.int .u64 y1.hi)), .p (.val (.int .u64 y1.lo))]], [], True, fun _ => ok_ratio_product y factor y1 h_1, []⟩]) (⟨12, mkS [(4, .x (.one (.ptr 104 0)))], mkH [(104, .var [.p (.val (.bool (decide (num < (0 : Int))))), .p (.val (.int .u64 y1.hi)), .p (.val (.int .u64 y1.lo))])]⟩) ?_
  refine lok_ret ?_
  obtain rfl := Option.some.inj H0
  try simp only [thenL, blockL]
  exact fin_au _ (.inr rfl) [] (⟨12, mkS [(4, .x (.one (.ptr 104 0)))], mkH [(104, .var [.p (.val (.bool (decide (num < (0 : Int))))), .p (.val (.int .u64 y1.hi)), .p (.val (.int .u64 y1.lo))])]⟩) rfl rfl imp_au
theorem ok_ratio_Sum (l : List api_Ratio) (r_ : api_Ratio × Int) (H0 : ratio_Sum l = some r_) : CallOK Try.prog 20 [.one (.p (.sl 2 (List.map enc_api_Ratio l)))] [] [.agg [.p (pi r_.1.Num), .p (pi r_.1.Den)], .one (.p (pi r_.2))] [] := by
  refine callOK (n := 79) (rs := [.cell 2 23, .tmp 3]) (nb := 0) (V := []) Try.func20 rfl (by kernel_rfl) rfl rfl rfl rfl (Nat.le_of_ble_eq_true rfl) (by decide) ?_
  unfold ratio_Sum at H0
  refine lok_rt E0 (⟨79, mkS [(0, .x (.one (.p (.sl 2 (List.map enc_api_Ratio l))))), (2, .x (.one (.ptr 102 0)))], mkH [(102, .var [.p (pi (0 : Int)), .p (pi (0 : Int))])]⟩) ?_
  refine lok_seq ?_
  refine lok_rt E0 (⟨79, mkS [(0, .x (.one (.p (.sl 2 (List.map enc_api_Ratio l))))), (2, .x (.one (.ptr 102 0))), (16, .x (.one (.p (.val (.bool (decide ((100 : Int) < (l.length : Int))))))))], mkH [(102, .var [.p (pi (0 : Int)), .p (pi (0 : Int))])]⟩) ?_
  refine lok_c (decide ((100 : Int) < (l.length : Int))) ?_ ?_
  · intro b_19
    replace H0 := cpos H0 b_19
    refine lok_rt E0 (⟨79, mkS [(2, .x (.one (.ptr 102 0))), (3, .x (.one (.p (pi (3 : Int)))))], mkH [(102, .var [.p (pi (0 : Int)), .p (pi (0 : Int))])]⟩) ?_
    refine lok_ret ?_
    obtain rfl := Option.some.inj H0
    try simp only [thenL, blockL]
    exact fin_au _ (.inr rfl) [] (⟨79, mkS [(2, .x (.one (.ptr 102 0))), (3, .x (.one (.p (pi (3 : Int)))))], mkH [(102, .var [.p (pi (0 : Int)), .p (pi (0 : Int))])]⟩) rfl rfl imp_au
  · intro b_19
    replace H0 := cneg H0 b_19
    refine lok_skip ?_
    try simp only [thenL, blockL, ↓reduceIte, reduceCtorEq]
    refine lok_join (fun x_ : Unit => ratio_Sum_j5 l = some r_) (fun x_ => ⟨79, mkS [(0, .x (.one (.p (.sl 2 (List.map enc_api_Ratio l))))), (2, .x (.one (.ptr 102 0)))], mkH [(102, .var [.p (pi (0 : Int)), .p (pi (0 : Int))])]⟩) ?hyratio_Sum_j5 ?hxratio_Sum_j5
    case hyratio_Sum_j5 =>
      rintro _ H0
      try dsimp only at H0 ⊢
      unfold ratio_Sum_j5 at H0
      refine lok_rt E0 (⟨79, mkS [(0, .x (.one (.p (.sl 2 (List.map enc_api_Ratio l))))), (2, .x (.one (.ptr 102 0))), (6, .x (.one (.p (.val (.int .u64 (1 : Int))))))], mkH [(102, .var [.p (pi (0 : Int)), .p (pi (0 : Int))])]⟩) ?_
      refine lok_join (fun x_ : Int => ratio_Sum_j3 l x_ = some r_) (fun x_ => ⟨79, mkS [(0, .x (.one (.p (.sl 2 (List.map enc_api_Ratio l))))), (2, .x (.one (.ptr 102 0))), (6, .x (.one (.p (.val (.int .u64 x_)))))], mkH [(102, .var [.p (pi (0 : Int)), .p (pi (0 : Int))])]⟩) ?hyratio_Sum_j3 ?hxratio_Sum_j3
      case hyratio_Sum_j3 =>
        rintro common H0
        try dsimp only at H0 ⊢
        unfold ratio_Sum_j3 at H0
        refine lok_rt E0 (⟨79, mkS [(0, .x (.one (.p (.sl 2 (List.map enc_api_Ratio l))))), (2, .x (.one (.ptr 102 0))), (6, .x (.one (.p (.val (.int .u64 common))))), (11, .x (.one (.ptr 111 0)))], mkH [(102, .var [.p (pi (0 : Int)), .p (pi (0 : Int))]), (111, .var [.p (.val (.bool false)), .p (.val (.int .u64 (0 : Int))), .p (.val (.int .u64 (0 : Int)))])]⟩) ?_
        refine lok_join (fun x_ : Bool × Int × Int => ratio_Sum_j1 common x_.1 x_.2.1 x_.2.2 = some r_) (fun x_ => ⟨79, mkS [(2, .x (.one (.ptr 102 0))), (6, .x (.one (.p (.val (.int .u64 common))))), (11, .x (.one (.ptr 111 0)))], mkH [(102, .var [.p (pi (0 : Int)), .p (pi (0 : Int))]), (111, .var [.p (.val (.bool x_.1)), .p (.val (.int .u64 x_.2.1)), .p (.val (.int .u64 x_.2.2))])]⟩) ?hyratio_Sum_j1 ?hxratio_Sum_j1
        case hyratio_Sum_j1 =>
          rintro ⟨sum, sum1, sum2⟩ H0
          try dsimp only at H0 ⊢
          unfold ratio_Sum_j1 at H0
          replace H0 := bind_some H0
          obtain ⟨⟨y, y1⟩, h_0, H0⟩ := H0
          try dsimp only at H0
          refine lok_rt (Env.of E0 [⟨some 76, 31, [.agg [.p (.val (.bool sum)), .p (.val (.int .u64 sum1)), .p (.val (.int .u64 sum2))], .one (.p (.val (.int .u64 common)))], [], [.agg [.p (pi y.Num), .p (pi y.Den)], .one (.p (pi y1))], [], True, fun _ => ok_ratio_reduced (ratio_signed.mk sum (ratio_wide.mk sum1 sum2)) common (y, y1) h_0, []⟩]) (⟨79, mkS [(2, .x (.one (.ptr 102 0))), (3, .x (.one (.p (pi y1))))], mkH [(102, .var [.p (pi y.Num), .p (pi y.Den)])]⟩) ?_
          refine lok_ret ?_
          obtain rfl := Option.some.inj H0
          try simp only [thenL, blockL]
          exact fin_au _ (.inr rfl) [] (⟨79, mkS [(2, .x (.one (.ptr 102 0))), (3, .x (.one (.p (pi y1))))], mkH [(102, .var [.p (pi y.Num), .p (pi y.Den)])]⟩) rfl rfl imp_au
        case hxratio_Sum_j1 =>
          refine lok_rt E0 (⟨79, mkS [(2, .x (.one (.ptr 102 0))), (6, .x (.one (.p (.val (.int .u64 common))))), (11, .x (.one (.ptr 111 0))), (57, .x (.one (.p (.sl 2 (List.map enc_api_Ratio l))))), (58, .x (.one (.p (pi (l.length : Int))))), (59, .x (.one (.p (pi (0 : Int)))))], mkH [(102, .var [.p (pi (0 : Int)), .p (pi (0 : Int))]), (111, .var [.p (.val (.bool false)), .p (.val (.int .u64 (0 : Int))), .p (.val (.int .u64 (0 : Int)))])]⟩) ?_
          refine lok_block ?_
          replace H0 := bind_some H0
          obtain ⟨v_1, hv_1, H0⟩ := H0
          refine lok_iter (fun x_ => ⟨79, mkS [(2, .x (.one (.ptr 102 0))), (6, .x (.one (.p (.val (.int .u64 common))))), (11, .x (.one (.ptr 111 0))), (57, .x (.one (.p (.sl 2 (List.map enc_api_Ratio l))))), (58, .x (.one (.p (pi (l.length : Int))))), (59, .x (.one (.p (pi x_.1))))], mkH [(102, .var [.p (pi (0 : Int)), .p (pi (0 : Int))]), (111, .var [.p (.val (.bool x_.2.1)), .p (.val (.int .u64 x_.2.2.1)), .p (.val (.int .u64 x_.2.2.2))])]⟩) hv_1 imp_au ?_
          · rintro ⟨v, sum3, sum4, sum5⟩ o_1 H1 k_1
            unfold ratio_Sum_l2 at H1
            try dsimp only at H1 ⊢
            refine lok_rt E0 (⟨79, mkS [(2, .x (.one (.ptr 102 0))), (6, .x (.one (.p (.val (.int .u64 common))))), (11, .x (.one (.ptr 111 0))), (57, .x (.one (.p (.sl 2 (List.map enc_api_Ratio l))))), (58, .x (.one (.p (pi (l.length : Int))))), (59, .x (.one (.p (pi v)))), (60, .x (.one (.p (.val (.bool (decide (v < (l.length : Int))))))))], mkH [(102, .var [.p (pi (0 : Int)), .p (pi (0 : Int))]), (111, .var [.p (.val (.bool sum3)), .p (.val (.int .u64 sum4)), .p (.val (.int .u64 sum5))])]⟩) ?_
            refine lok_seq ?_
            refine lok_c (decide (v < (l.length : Int))) ?_ ?_
            · intro b_6
              replace H1 := cpos H1 b_6
              refine lok_skip ?_
              try simp only [thenL, blockL, ↓reduceIte, reduceCtorEq]
              refine lok_seq ?_
              refine lok_block ?_
              replace H1 := req_some H1
              obtain ⟨q_5, H1⟩ := H1
              refine lok_rt E0 (⟨79, mkS [(2, .x (.one (.ptr 102 0))), (6, .x (.one (.p (.val (.int .u64 common))))), (11, .x (.one (.ptr 111 0))), (13, .x (.one (.ptr 113 0))), (57, .x (.one (.p (.sl 2 (List.map enc_api_Ratio l))))), (58, .x (.one (.p (pi (l.length : Int))))), (59, .x (.one (.p (pi v))))], mkH [(102, .var [.p (pi (0 : Int)), .p (pi (0 : Int))]), (111, .var [.p (.val (.bool sum3)), .p (.val (.int .u64 sum4)), .p (.val (.int .u64 sum5))]), (113, .var [.p (pi ((ix l v).Num)), .p (pi ((ix l v).Den))])]⟩) ?_
              replace H1 := req_some H1
              obtain ⟨q_4, H1⟩ := H1
              replace H1 := bind_some H1
              obtain ⟨y2, h_2, H1⟩ := H1
              replace H1 := bind_some H1
              obtain ⟨y3, h_3, H1⟩ := H1
              refine lok_dl (Env.of E0 [⟨some 71, 47, [.one (.p (pi ((ix l v).Num))), .one (.p (.val (.int .u64 (IntKind.u64.wrap (Int.tdiv common (IntKind.u64.wrap ((ix l v).Den)))))))], [], [.agg [.p (.val (.bool y2.neg)), .p (.val (.int .u64 y2.abs.hi)), .p (.val (.int .u64 y2.abs.lo))]], [], True, fun _ => ok_ratio_signedProduct ((ix l v).Num) (IntKind.u64.wrap (Int.tdiv common (IntKind.u64.wrap ((ix l v).Den)))) y2 h_2, []⟩,
      ⟨some 72, 46, [.agg [.p (.val (.bool sum3)), .p (.val (.int .u64 sum4)), .p (.val (.int .u64 sum5))], .agg [.p (.val (.bool y2.neg)), .p (.val (.int .u64 y2.abs.hi)), .p (.val (.int .u64 y2.abs.lo))]], [], [.agg [.p (.val (.bool y3.neg)), .p (.val (.int .u64 y3.abs.hi)), .p (.val (.int .u64 y3.abs.lo))]], [], True, fun _ => ok_ratio_signed_plus (ratio_signed.mk sum3 (ratio_wide.mk sum4 sum5)) y2 y3 h_3, []⟩]) 9 (⟨79, mkS [(2, .x (.one (.ptr 102 0))), (6, .x (.one (.p (.val (.int .u64 common))))), (11, .x (.one (.ptr 111 0))), (57, .x (.one (.p (.sl 2 (List.map enc_api_Ratio l))))), (58, .x (.one (.p (pi (l.length : Int))))), (59, .x (.one (.p (pi v))))], mkH [(102, .var [.p (pi (0 : Int)), .p (pi (0 : Int))]), (111, .var [.p (.val (.bool y3.neg)), .p (.val (.int .u64 y3.abs.hi)), .p (.val (.int .u64 y3.abs.lo))])]⟩) (by kernel_rfl) (by kernel_rfl) ?_
              try simp only [thenL, blockL, ↓reduceIte, reduceCtorEq]
              refine lok_rl E0 (⟨79, mkS [(2, .x (.one (.ptr 102 0))), (6, .x (.one (.p (.val (.int .u64 common))))), (11, .x (.one (.ptr 111 0))), (57, .x (.one (.p (.sl 2 (List.map enc_api_Ratio l))))), (58, .x (.one (.p (pi (l.length : Int))))), (59, .x (.one (.p (pi (IntKind.i64.wrap (v + (1 : Int)))))))], mkH [(102, .var [.p (pi (0 : Int)), .p (pi (0 : Int))]), (111, .var [.p (.val (.bool y3.neg)), .p (.val (.int .u64 y3.abs.hi)), .p (.val (.int .u64 y3.abs.lo))])]⟩) ?_
              try simp only [thenL, blockL, ↓reduceIte, reduceCtorEq]
              exact ⟨((IntKind.i64.wrap (v + (1 : Int))), y3.neg, y3.abs.hi, y3.abs.lo), (Option.some.inj H1).symm, imp_au⟩
            · intro b_6
              replace H1 := cneg H1 b_6
              refine lok_exit ?_
              try simp only [thenL, blockL, ↓reduceIte, reduceCtorEq]
              have e_1 := k_1 _ (Option.some.inj H1).symm
              subst e_1
              try dsimp only at H0
              try simp only [thenL, blockL, ↓reduceIte, reduceCtorEq]
              exact ⟨(sum3, sum4, sum5), H0, imp_au⟩
      case hxratio_Sum_j3 =>
        refine lok_rt E0 (⟨79, mkS [(0, .x (.one (.p (.sl 2 (List.map enc_api_Ratio l))))), (2, .x (.one (.ptr 102 0))), (6, .x (.one (.p (.val (.int .u64 (1 : Int)))))), (29, .x (.one (.p (.sl 2 (List.map enc_api_Ratio l))))), (30, .x (.one (.p (pi (l.length : Int))))), (31, .x (.one (.p (pi (0 : Int)))))], mkH [(102, .var [.p (pi (0 : Int)), .p (pi (0 : Int))])]⟩) ?_
        refine lok_block ?_
        replace H0 := bind_some H0
        obtain ⟨v_7, hv_7, H0⟩ := H0
        refine lok_iter (fun x_ => ⟨79, mkS [(0, .x (.one (.p (.sl 2 (List.map enc_api_Ratio l))))), (2, .x (.one (.ptr 102 0))), (6, .x (.one (.p (.val (.int .u64 x_.1))))), (29, .x (.one (.p (.sl 2 (List.map enc_api_Ratio l))))), (30, .x (.one (.p (pi (l.length : Int))))), (31, .x (.one (.p (pi x_.2))))], mkH [(102, .var [.p (pi (0 : Int)), .p (pi (0 : Int))])]⟩) hv_7 imp_au ?_
        · rintro ⟨common1, v1⟩ o_1 H1 k_1
          unfold ratio_Sum_l4 at H1
          try dsimp only at H1 ⊢
          refine lok_rt E0 (⟨79, mkS [(0, .x (.one (.p (.sl 2 (List.map enc_api_Ratio l))))), (2, .x (.one (.ptr 102 0))), (6, .x (.one (.p (.val (.int .u64 common1))))), (29, .x (.one (.p (.sl 2 (List.map enc_api_Ratio l))))), (30, .x (.one (.p (pi (l.length : Int))))), (31, .x (.one (.p (pi v1)))), (32, .x (.one (.p (.val (.bool (decide (v1 < (l.length : Int))))))))], mkH [(102, .var [.p (pi (0 : Int)), .p (pi (0 : Int))])]⟩) ?_
          refine lok_seq ?_
          refine lok_c (decide (v1 < (l.length : Int))) ?_ ?_
          · intro b_13
            replace H1 := cpos H1 b_13
            refine lok_skip ?_
            try simp only [thenL, blockL, ↓reduceIte, reduceCtorEq]
            refine lok_seq ?_
            refine lok_block ?_
            replace H1 := req_some H1
            obtain ⟨q_12, H1⟩ := H1
            refine lok_rt E0 (⟨79, mkS [(0, .x (.one (.p (.sl 2 (List.map enc_api_Ratio l))))), (2, .x (.one (.ptr 102 0))), (6, .x (.one (.p (.val (.int .u64 common1))))), (8, .x (.one (.ptr 108 0))), (29, .x (.one (.p (.sl 2 (List.map enc_api_Ratio l))))), (30, .x (.one (.p (pi (l.length : Int))))), (31, .x (.one (.p (pi v1))))], mkH [(102, .var [.p (pi (0 : Int)), .p (pi (0 : Int))]), (108, .var [.p (pi ((ix l v1).Num)), .p (pi ((ix l v1).Den))])]⟩) ?_
            refine lok_rt E0 (⟨79, mkS [(0, .x (.one (.p (.sl 2 (List.map enc_api_Ratio l))))), (2, .x (.one (.ptr 102 0))), (6, .x (.one (.p (.val (.int .u64 common1))))), (9, .x (.one (.p (.val (.int .u64 (IntKind.u64.wrap ((ix l v1).Den))))))), (29, .x (.one (.p (.sl 2 (List.map enc_api_Ratio l))))), (30, .x (.one (.p (pi (l.length : Int))))), (31, .x (.one (.p (pi v1))))], mkH [(102, .var [.p (pi (0 : Int)), .p (pi (0 : Int))])]⟩) ?_
            replace H1 := bind_some H1
            obtain ⟨y4, h_8, H1⟩ := H1
            replace H1 := req_some H1
            obtain ⟨q_11, H1⟩ := H1
            replace H1 := bind_some H1
            obtain ⟨y5, h_9, H1⟩ := H1
            refine lok_rt (Env.of E0 [⟨some 42, 44, [.one (.p (.val (.int .u64 common1))), .one (.p (.val (.int .u64 (IntKind.u64.wrap ((ix l v1).Den)))))], [], [.one (.p (.val (.int .u64 y4)))], [], True, fun _ => ok_ratio_gcd common1 (IntKind.u64.wrap ((ix l v1).Den)) y4 h_8, []⟩,
      ⟨some 44, 33, [.one (.p (.val (.int .u64 common1))), .one (.p (.val (.int .u64 (IntKind.u64.wrap (Int.tdiv (IntKind.u64.wrap ((ix l v1).Den)) y4)))))], [], [.agg [.p (.val (.int .u64 y5.hi)), .p (.val (.int .u64 y5.lo))]], [], True, fun _ => ok_ratio_product common1 (IntKind.u64.wrap (Int.tdiv (IntKind.u64.wrap ((ix l v1).Den)) y4)) y5 h_9, []⟩]) (⟨79, mkS [(0, .x (.one (.p (.sl 2 (List.map enc_api_Ratio l))))), (2, .x (.one (.ptr 102 0))), (10, .x (.one (.ptr 110 0))), (29, .x (.one (.p (.sl 2 (List.map enc_api_Ratio l))))), (30, .x (.one (.p (pi (l.length : Int))))), (31, .x (.one (.p (pi v1))))], mkH [(102, .var [.p (pi (0 : Int)), .p (pi (0 : Int))]), (110, .var [.p (.val (.int .u64 y5.hi)), .p (.val (.int .u64 y5.lo))])]⟩) ?_
            refine lok_seq ?_
            refine lok_rt E0 (⟨79, mkS [(0, .x (.one (.p (.sl 2 (List.map enc_api_Ratio l))))), (2, .x (.one (.ptr 102 0))), (10, .x (.one (.ptr 110 0))), (29, .x (.one (.p (.sl 2 (List.map enc_api_Ratio l))))), (30, .x (.one (.p (pi (l.length : Int))))), (31, .x (.one (.p (pi v1)))), (52, .x (.one (.p (.val (.bool ((y5.hi != (0 : Int)) || (decide ((1152921504606846976 : Int) < y5.lo))))))))], mkH [(102, .var [.p (pi (0 : Int)), .p (pi (0 : Int))]), (110, .var [.p (.val (.int .u64 y5.hi)), .p (.val (.int .u64 y5.lo))])]⟩) ?_
            refine lok_c ((y5.hi != (0 : Int)) || (decide ((1152921504606846976 : Int) < y5.lo))) ?_ ?_
            · intro b_10
              replace H1 := cpos H1 b_10
              refine lok_rt E0 (⟨79, mkS [(2, .x (.one (.ptr 102 0))), (3, .x (.one (.p (pi (6 : Int)))))], mkH [(102, .var [.p (pi (0 : Int)), .p (pi (0 : Int))])]⟩) ?_
              refine lok_ret ?_
              try simp only [thenL, blockL, ↓reduceIte, reduceCtorEq]
              have e_1 := k_1 _ (Option.some.inj H1).symm
              subst e_1
              try dsimp only at H0
              obtain rfl := Option.some.inj H0
              try simp only [thenL, blockL]
              exact fin_au _ (.inr rfl) [] (⟨79, mkS [(2, .x (.one (.ptr 102 0))), (3, .x (.one (.p (pi (6 : Int)))))], mkH [(102, .var [.p (pi (0 : Int)), .p (pi (0 : Int))])]⟩) rfl rfl imp_au
            · intro b_10
              replace H1 := cneg H1 b_10
              refine lok_skip ?_
              try simp only [thenL, blockL, ↓reduceIte, reduceCtorEq]
              refine lok_rl E0 (⟨79, mkS [(0, .x (.one (.p (.sl 2 (List.map enc_api_Ratio l))))), (2, .x (.one (.ptr 102 0))), (6, .x (.one (.p (.val (.int .u64 y5.lo))))), (29, .x (.one (.p (.sl 2 (List.map enc_api_Ratio l))))), (30, .x (.one (.p (pi (l.length : Int))))), (31, .x (.one (.p (pi v1))))], mkH [(102, .var [.p (pi (0 : Int)), .p (pi (0 : Int))])]⟩) ?_
              try simp only [thenL, blockL, ↓reduceIte, reduceCtorEq]
              refine lok_rl E0 (⟨79, mkS [(0, .x (.one (.p (.sl 2 (List.map enc_api_Ratio l))))), (2, .x (.one (.ptr 102 0))), (6, .x (.one (.p (.val (.int .u64 y5.lo))))), (29, .x (.one (.p (.sl 2 (List.map enc_api_Ratio l))))), (30, .x (.one (.p (pi (l.length : Int))))), (31, .x (.one (.p (pi (IntKind.i64.wrap (v1 + (1 : Int)))))))], mkH [(102, .var [.p (pi (0 : Int)), .p (pi (0 : Int))])]⟩) ?_
              try simp only [thenL, blockL, ↓reduceIte, reduceCtorEq]
              exact ⟨(y5.lo, (IntKind.i64.wrap (v1 + (1 : Int)))), (Option.some.inj H1).symm, imp_au⟩
          · intro b_13
            replace H1 := cneg H1 b_13
            refine lok_exit ?_
            try simp only [thenL, blockL, ↓reduceIte, reduceCtorEq]
            have e_1 := k_1 _ (Option.some.inj H1).symm
            subst e_1
            try dsimp only at H0
            try simp only [thenL, blockL, ↓reduceIte, reduceCtorEq]
            exact ⟨common1, H0, imp_au⟩
    case hxratio_Sum_j5 =>
      refine lok_rt E0 (⟨79, mkS [(0, .x (.one (.p (.sl 2 (List.map enc_api_Ratio l))))), (2, .x (.one (.ptr 102 0))), (18, .x (.one (.p (.sl 2 (List.map enc_api_Ratio l))))), (19, .x (.one (.p (pi (l.length : Int))))), (20, .x (.one (.p (pi (0 : Int)))))], mkH [(102, .var [.p (pi (0 : Int)), .p (pi (0 : Int))])]⟩) ?_
      refine lok_block ?_
      replace H0 := bind_some H0
      obtain ⟨v_14, hv_14, H0⟩ := H0
      refine lok_iter (fun x_ => ⟨79, mkS [(0, .x (.one (.p (.sl 2 (List.map enc_api_Ratio l))))), (2, .x (.one (.ptr 102 0))), (18, .x (.one (.p (.sl 2 (List.map enc_api_Ratio l))))), (19, .x (.one (.p (pi (l.length : Int))))), (20, .x (.one (.p (pi x_))))], mkH [(102, .var [.p (pi (0 : Int)), .p (pi (0 : Int))])]⟩) hv_14 imp_au ?_
      · rintro v2 o_1 H1 k_1
        unfold ratio_Sum_l6 at H1
        try dsimp only at H1 ⊢
        refine lok_rt E0 (⟨79, mkS [(0, .x (.one (.p (.sl 2 (List.map enc_api_Ratio l))))), (2, .x (.one (.ptr 102 0))), (18, .x (.one (.p (.sl 2 (List.map enc_api_Ratio l))))), (19, .x (.one (.p (pi (l.length : Int))))), (20, .x (.one (.p (pi v2)))), (21, .x (.one (.p (.val (.bool (decide (v2 < (l.length : Int))))))))], mkH [(102, .var [.p (pi (0 : Int)), .p (pi (0 : Int))])]⟩) ?_
        refine lok_seq ?_
        refine lok_c (decide (v2 < (l.length : Int))) ?_ ?_
        · intro b_18
          replace H1 := cpos H1 b_18
          refine lok_skip ?_
          try simp only [thenL, blockL, ↓reduceIte, reduceCtorEq]
          refine lok_seq ?_
          refine lok_block ?_
          replace H1 := req_some H1
          obtain ⟨q_17, H1⟩ := H1
          refine lok_rt E0 (⟨79, mkS [(0, .x (.one (.p (.sl 2 (List.map enc_api_Ratio l))))), (2, .x (.one (.ptr 102 0))), (5, .x (.one (.ptr 105 0))), (18, .x (.one (.p (.sl 2 (List.map enc_api_Ratio l))))), (19, .x (.one (.p (pi (l.length : Int))))), (20, .x (.one (.p (pi v2))))], mkH [(102, .var [.p (pi (0 : Int)), .p (pi (0 : Int))]), (105, .var [.p (pi ((ix l v2).Num)), .p (pi ((ix l v2).Den))])]⟩) ?_
          replace H1 := bind_some H1
          obtain ⟨y6, h_15, H1⟩ := H1
          refine lok_rt (Env.of E0 [⟨some 25, 43, [.agg [.p (pi ((ix l v2).Num)), .p (pi ((ix l v2).Den))]], [], [.one (.p (.val (.bool y6)))], [], True, fun _ => ok_ratio_Valid (ix l v2) y6 h_15, []⟩]) (⟨79, mkS [(0, .x (.one (.p (.sl 2 (List.map enc_api_Ratio l))))), (2, .x (.one (.ptr 102 0))), (18, .x (.one (.p (.sl 2 (List.map enc_api_Ratio l))))), (19, .x (.one (.p (pi (l.length : Int))))), (20, .x (.one (.p (pi v2)))), (26, .x (.one (.p (.val (.bool (!y6))))))], mkH [(102, .var [.p (pi (0 : Int)), .p (pi (0 : Int))])]⟩) ?_
          refine lok_c (!y6) ?_ ?_
          · intro b_16
            replace H1 := cpos H1 b_16
            refine lok_rt E0 (⟨79, mkS [(2, .x (.one (.ptr 102 0))), (3, .x (.one (.p (pi (1 : Int)))))], mkH [(102, .var [.p (pi (0 : Int)), .p (pi (0 : Int))])]⟩) ?_
            refine lok_ret ?_
            try simp only [thenL, blockL, ↓reduceIte, reduceCtorEq]
            have e_1 := k_1 _ (Option.some.inj H1).symm
            subst e_1
            try dsimp only at H0
            obtain rfl := Option.some.inj H0
            try simp only [thenL, blockL]
            exact fin_au _ (.inr rfl) [] (⟨79, mkS [(2, .x (.one (.ptr 102 0))), (3, .x (.one (.p (pi (1 : Int)))))], mkH [(102, .var [.p (pi (0 : Int)), .p (pi (0 : Int))])]⟩) rfl rfl imp_au
          · intro b_16
            replace H1 := cneg H1 b_16
            refine lok_skip ?_
            try simp only [thenL, blockL, ↓reduceIte, reduceCtorEq]
            refine lok_rl E0 (⟨79, mkS [(0, .x (.one (.p (.sl 2 (List.map enc_api_Ratio l))))), (2, .x (.one (.ptr 102 0))), (18, .x (.one (.p (.sl 2 (List.map enc_api_Ratio l))))), (19, .x (.one (.p (pi (l.length : Int))))), (20, .x (.one (.p (pi (IntKind.i64.wrap (v2 + (1 : Int)))))))], mkH [(102, .var [.p (pi (0 : Int)), .p (pi (0 : Int))])]⟩) ?_
            try simp only [thenL, blockL, ↓reduceIte, reduceCtorEq]
            exact ⟨(IntKind.i64.wrap (v2 + (1 : Int))), (Option.some.inj H1).symm, imp_au⟩
        · intro b_18
          replace H1 := cneg H1 b_18
          refine lok_exit ?_
          try simp only [thenL, blockL, ↓reduceIte, reduceCtorEq]
          have e_1 := k_1 _ (Option.some.inj H1).symm
          subst e_1
          try dsimp only at H0
          try simp only [thenL, blockL, ↓reduceIte, reduceCtorEq]
          exact ⟨(), H0, imp_au⟩
theorem ok_law01_RatioSumsLong (n : Int) (num : Int) (den : Int) (r_ : Bool) (H0 : law01_RatioSumsLong n num den = some r_) : CallOK Try.prog 5 [.one (.p (pi n)), .one (.p (pi num)), .one (.p (pi den))] [] [.one (.p (.val (.bool r_)))] [] := by
  refine callOK (n := 88) (rs := [.tmp 6]) (nb := 0) (V := []) Try.func5 rfl (by kernel_rfl) rfl rfl rfl rfl (Nat.le_of_ble_eq_true rfl) (by decide) ?_
  unfold law01_RatioSumsLong at H0
  refine lok_rt E0 (⟨88, mkS [(0, .x (.one (.p (pi n)))), (1, .x (.one (.p (pi num)))), (2, .x (.one (.p (pi den))))], mkH []⟩) ?_
  replace H0 := bind_some H0
  obtain ⟨y, h_0, H0⟩ := H0
  refine lok_rt (Env.of E0 [⟨some 18, 17, [.one (.p (pi n)), .one (.p (pi (110 : Int)))], [], [.one (.p (pi y))], [], True, fun _ => ok_make_Cut n (110 : Int) y h_0, []⟩]) (⟨88, mkS [(0, .x (.one (.p (pi y)))), (1, .x (.one (.p (pi num)))), (2, .x (.one (.p (pi den))))], mkH []⟩) ?_
  replace H0 := bind_some H0
  obtain ⟨y1, h_1, H0⟩ := H0
  replace H0 := bind_some H0
  obtain ⟨y2, h_2, H0⟩ := H0
  replace H0 := bind_some H0
  obtain ⟨⟨y3, y4⟩, h_3, H0⟩ := H0
  try dsimp only at H0
  refine lok_rt (Env.of E0 [⟨some 21, 17, [.one (.p (pi num)), .one (.p (pi (1000 : Int)))], [], [.one (.p (pi y1))], [], True, fun _ => ok_make_Cut num (1000 : Int) y1 h_1, []⟩,
      ⟨some 24, 17, [.one (.p (pi den)), .one (.p (pi (1000 : Int)))], [], [.one (.p (pi y2))], [], True, fun _ => ok_make_Cut den (1000 : Int) y2 h_2, []⟩,
      ⟨some 26, 18, [.one (.p (pi (IntKind.i64.wrap (y1 - (500 : Int))))), .one (.p (pi (IntKind.i64.wrap ((1 : Int) + y2))))], [], [.agg [.p (pi y3.Num), .p (pi y3.Den)], .one (.p (pi y4))], [], True, fun _ => ok_ratio_New (IntKind.i64.wrap (y1 - (500 : Int))) (IntKind.i64.wrap ((1 : Int) + y2)) (y3, y4) h_3, []⟩]) (⟨88, mkS [(0, .x (.one (.p (pi y)))), (7, .x (.one (.ptr 107 0))), (8, .x (.one (.p (pi y4))))], mkH [(107, .var [.p (pi y3.Num), .p (pi y3.Den)])]⟩) ?_
  replace H0 := bind_some H0
  obtain ⟨⟨y5, y6⟩, h_4, H0⟩ := H0
  try dsimp only at H0
  refine lok_rt (Env.of E0 [⟨some 31, 18, [.one (.p (pi y)), .one (.p (pi (1 : Int)))], [], [.agg [.p (pi y5.Num), .p (pi y5.Den)], .one (.p (pi y6))], [], True, fun _ => ok_ratio_New y (1 : Int) (y5, y6) h_4, []⟩]) (⟨88, mkS [(0, .x (.one (.p (pi y)))), (7, .x (.one (.ptr 107 0))), (8, .x (.one (.p (pi y4)))), (9, .x (.one (.ptr 109 0))), (10, .x (.one (.p (pi y6))))], mkH [(107, .var [.p (pi y3.Num), .p (pi y3.Den)]), (109, .var [.p (pi y5.Num), .p (pi y5.Den)])]⟩) ?_
  replace H0 := bind_some H0
  obtain ⟨⟨y7, y8⟩, h_5, H0⟩ := H0
  try dsimp only at H0
  refine lok_rt (Env.of E0 [⟨some 37, 19, [.agg [.p (pi y3.Num), .p (pi y3.Den)], .agg [.p (pi y5.Num), .p (pi y5.Den)]], [], [.agg [.p (pi y7.Num), .p (pi y7.Den)], .one (.p (pi y8))], [], True, fun _ => ok_ratio_Mul y3 y5 (y7, y8) h_5, []⟩]) (⟨88, mkS [(0, .x (.one (.p (pi y)))), (7, .x (.one (.ptr 107 0))), (8, .x (.one (.p (pi y4)))), (10, .x (.one (.p (pi y6)))), (11, .x (.one (.ptr 111 0))), (12, .x (.one (.p (pi y8))))], mkH [(107, .var [.p (pi y3.Num), .p (pi y3.Den)]), (111, .var [.p (pi y7.Num), .p (pi y7.Den)])]⟩) ?_
  refine lok_rt E0 (⟨88, mkS [(0, .x (.one (.p (pi y)))), (7, .x (.one (.ptr 107 0))), (8, .x (.one (.p (pi y4)))), (10, .x (.one (.p (pi y6)))), (11, .x (.one (.ptr 111 0))), (12, .x (.one (.p (pi y8)))), (13, .x (.one (.vw 113)))], mkH [(107, .var [.p (pi y3.Num), .p (pi y3.Den)]), (111, .var [.p (pi y7.Num), .p (pi y7.Den)]), (113, .arr 2 (List.map enc_api_Ratio ([] : List api_Ratio)))]⟩) ?_
  refine lok_join (fun x_ : (List api_Ratio) => law01_RatioSumsLong_j1 y y4 y6 y7 y8 x_ = some r_) (fun x_ => ⟨88, mkS [(0, .x (.one (.p (pi y)))), (8, .x (.one (.p (pi y4)))), (10, .x (.one (.p (pi y6)))), (11, .x (.one (.ptr 111 0))), (12, .x (.one (.p (pi y8)))), (13, .x (.one (.vw 113)))], mkH [(111, .var [.p (pi y7.Num), .p (pi y7.Den)]), (113, .arr 2 (List.map enc_api_Ratio x_))]⟩) ?hylaw01_RatioSumsLong_j1 ?hxlaw01_RatioSumsLong_j1
  case hylaw01_RatioSumsLong_j1 =>
    rintro l H0
    try dsimp only at H0 ⊢
    unfold law01_RatioSumsLong_j1 at H0
    replace H0 := bind_some H0
    obtain ⟨⟨y9, y10⟩, h_6, H0⟩ := H0
    try dsimp only at H0
    refine lok_rt (Env.of E0 [⟨some 51, 20, [.one (.p (.sl 2 (List.map enc_api_Ratio l)))], [], [.agg [.p (pi y9.Num), .p (pi y9.Den)], .one (.p (pi y10))], [], True, fun _ => ok_ratio_Sum l (y9, y10) h_6, []⟩]) (⟨88, mkS [(0, .x (.one (.p (pi y)))), (8, .x (.one (.p (pi y4)))), (10, .x (.one (.p (pi y6)))), (11, .x (.one (.ptr 111 0))), (12, .x (.one (.p (pi y8)))), (15, .x (.one (.ptr 115 0))), (16, .x (.one (.p (pi y10))))], mkH [(111, .var [.p (pi y7.Num), .p (pi y7.Den)]), (115, .var [.p (pi y9.Num), .p (pi y9.Den)])]⟩) ?_
    refine lok_seq ?_
    refine lok_rt E0 (⟨88, mkS [(8, .x (.one (.p (pi y4)))), (10, .x (.one (.p (pi y6)))), (11, .x (.one (.ptr 111 0))), (12, .x (.one (.p (pi y8)))), (15, .x (.one (.ptr 115 0))), (16, .x (.one (.p (pi y10)))), (55, .x (.one (.p (.val (.bool (decide ((100 : Int) < y)))))))], mkH [(111, .var [.p (pi y7.Num), .p (pi y7.Den)]), (115, .var [.p (pi y9.Num), .p (pi y9.Den)])]⟩) ?_
    refine lok_c (decide ((100 : Int) < y)) ?_ ?_
    · intro b_9
      replace H0 := cpos H0 b_9
      replace H0 := req_some H0
      obtain ⟨q_7, H0⟩ := H0
      refine lok_rt (Env.of E0 [⟨some 64, 10, [], [], [.one (.p (.val (.bool ((law01_awake).getD default))))], [], (law01_awake).isSome = true, fun h => ok_law01_awake _ (isSome_get h), []⟩]) (⟨88, mkS [(6, .x (.one (.p (.val (.bool ((((y9.Num == (0 : Int)) && (y9.Den == (0 : Int))) && (y10 == (3 : Int))) && ((law01_awake).getD default)))))))], mkH []⟩) ?_
      refine lok_ret ?_
      obtain rfl := Option.some.inj H0
      try simp only [thenL, blockL]
      exact fin_au _ (.inr rfl) [] (⟨88, mkS [(6, .x (.one (.p (.val (.bool ((((y9.Num == (0 : Int)) && (y9.Den == (0 : Int))) && (y10 == (3 : Int))) && ((law01_awake).getD default)))))))], mkH []⟩) rfl rfl imp_au
    · intro b_9
      replace H0 := cneg H0 b_9
      refine lok_skip ?_
      try simp only [thenL, blockL, ↓reduceIte, reduceCtorEq]
      replace H0 := req_some H0
      obtain ⟨q_8, H0⟩ := H0
      refine lok_rt (Env.of E0 [⟨some 86, 10, [], [], [.one (.p (.val (.bool ((law01_awake).getD default))))], [], (law01_awake).isSome = true, fun h => ok_law01_awake _ (isSome_get h), []⟩]) (⟨88, mkS [(6, .x (.one (.p (.val (.bool ((((((y4 == (0 : Int)) && (y6 == (0 : Int))) && (y8 == (0 : Int))) && (y10 == (0 : Int))) && ((y9.Num == y7.Num) && (y9.Den == y7.Den))) && ((law01_awake).getD default)))))))], mkH []⟩) ?_
      refine lok_ret ?_
      obtain rfl := Option.some.inj H0
      try simp only [thenL, blockL]
      exact fin_au _ (.inr rfl) [] (⟨88, mkS [(6, .x (.one (.p (.val (.bool ((((((y4 == (0 : Int)) && (y6 == (0 : Int))) && (y8 == (0 : Int))) && (y10 == (0 : Int))) && ((y9.Num == y7.Num) && (y9.Den == y7.Den))) && ((law01_awake).getD default)))))))], mkH []⟩) rfl rfl imp_au
  case hxlaw01_RatioSumsLong_j1 =>
    refine lok_rt E0 (⟨88, mkS [(0, .x (.one (.p (pi y)))), (7, .x (.one (.ptr 107 0))), (8, .x (.one (.p (pi y4)))), (10, .x (.one (.p (pi y6)))), (11, .x (.one (.ptr 111 0))), (12, .x (.one (.p (pi y8)))), (13, .x (.one (.vw 113))), (14, .x (.one (.p (pi (0 : Int)))))], mkH [(107, .var [.p (pi y3.Num), .p (pi y3.Den)]), (111, .var [.p (pi y7.Num), .p (pi y7.Den)]), (113, .arr 2 (List.map enc_api_Ratio ([] : List api_Ratio)))]⟩) ?_
    refine lok_block ?_
    replace H0 := bind_some H0
    obtain ⟨v_10, hv_10, H0⟩ := H0
    refine lok_iter (fun x_ => ⟨88, mkS [(0, .x (.one (.p (pi y)))), (7, .x (.one (.ptr 107 0))), (8, .x (.one (.p (pi y4)))), (10, .x (.one (.p (pi y6)))), (11, .x (.one (.ptr 111 0))), (12, .x (.one (.p (pi y8)))), (13, .x (.one (.vw 113))), (14, .x (.one (.p (pi x_.1))))], mkH [(107, .var [.p (pi y3.Num), .p (pi y3.Den)]), (111, .var [.p (pi y7.Num), .p (pi y7.Den)]), (113, .arr 2 (List.map enc_api_Ratio x_.2))]⟩) hv_10 imp_au ?_
    · rintro ⟨i, l1⟩ o_1 H1 k_1
      unfold law01_RatioSumsLong_l2 at H1
      try dsimp only at H1 ⊢
      refine lok_seq ?_
      refine lok_rt E0 (⟨88, mkS [(0, .x (.one (.p (pi y)))), (7, .x (.one (.ptr 107 0))), (8, .x (.one (.p (pi y4)))), (10, .x (.one (.p (pi y6)))), (11, .x (.one (.ptr 111 0))), (12, .x (.one (.p (pi y8)))), (13, .x (.one (.vw 113))), (14, .x (.one (.p (pi i)))), (42, .x (.one (.p (.val (.bool (decide (i < y)))))))], mkH [(107, .var [.p (pi y3.Num), .p (pi y3.Den)]), (111, .var [.p (pi y7.Num), .p (pi y7.Den)]), (113, .arr 2 (List.map enc_api_Ratio l1))]⟩) ?_
      refine lok_c (decide (i < y)) ?_ ?_
      · intro b_12
        replace H1 := cpos H1 b_12
        refine lok_skip ?_
        try simp only [thenL, blockL, ↓reduceIte, reduceCtorEq]
        refine lok_seq ?_
        refine lok_block ?_
        replace H1 := req_some H1
        obtain ⟨q_11, H1⟩ := H1
        refine lok_rl E0 (⟨88, mkS [(0, .x (.one (.p (pi y)))), (7, .x (.one (.ptr 107 0))), (8, .x (.one (.p (pi y4)))), (10, .x (.one (.p (pi y6)))), (11, .x (.one (.ptr 111 0))), (12, .x (.one (.p (pi y8)))), (13, .x (.one (.vw 113))), (14, .x (.one (.p (pi i))))], mkH [(107, .var [.p (pi y3.Num), .p (pi y3.Den)]), (111, .var [.p (pi y7.Num), .p (pi y7.Den)]), (113, .arr 2 (List.map enc_api_Ratio (l1 ++ [y3])))]⟩) ?_
        try simp only [thenL, blockL, ↓reduceIte, reduceCtorEq]
        refine lok_rl E0 (⟨88, mkS [(0, .x (.one (.p (pi y)))), (7, .x (.one (.ptr 107 0))), (8, .x (.one (.p (pi y4)))), (10, .x (.one (.p (pi y6)))), (11, .x (.one (.ptr 111 0))), (12, .x (.one (.p (pi y8)))), (13, .x (.one (.vw 113))), (14, .x (.one (.p (pi (IntKind.i64.wrap (i + (1 : Int)))))))], mkH [(107, .var [.p (pi y3.Num), .p (pi y3.Den)]), (111, .var [.p (pi y7.Num), .p (pi y7.Den)]), (113, .arr 2 (List.map enc_api_Ratio (l1 ++ [y3])))]⟩) ?_
        try simp only [thenL, blockL, ↓reduceIte, reduceCtorEq]
        exact ⟨((IntKind.i64.wrap (i + (1 : Int))), (l1 ++ [y3])), (Option.some.inj H1).symm, imp_au⟩
      · intro b_12
        replace H1 := cneg H1 b_12
        refine lok_exit ?_
        try simp only [thenL, blockL, ↓reduceIte, reduceCtorEq]
        have e_1 := k_1 _ (Option.some.inj H1).symm
        subst e_1
        try dsimp only at H0
        try simp only [thenL, blockL, ↓reduceIte, reduceCtorEq]
        exact ⟨l1, H0, imp_au⟩
theorem ok_make_New (l : List Int) (r_ : make_Tape) (H0 : make_New l = some r_) : CallOK Try.prog 11 [.one (.p (.sl 1 (List.map encI l)))] [] [.one (.ptr 0 0)] [some (.var [.p (.sl 1 (List.map encI r_.L)), .p (pi r_.At)])] := by
  refine callOK (n := 11) (rs := [.tmp 2]) (nb := 0) (V := []) Try.func11 rfl (by kernel_rfl) rfl rfl rfl rfl (Nat.le_of_ble_eq_true rfl) (by decide) ?_
  unfold make_New at H0
  refine lok_rt E0 (⟨11, mkS [(0, .x (.one (.p (.sl 1 (List.map encI l)))))], mkH []⟩) ?_
  refine lok_join (fun x_ : (List Int) => make_New_j1 x_ = some r_) (fun x_ => ⟨11, mkS [(0, .x (.one (.p (.sl 1 (List.map encI x_)))))], mkH []⟩) ?hymake_New_j1 ?hxmake_New_j1
  case hymake_New_j1 =>
    rintro l1 H0
    try dsimp only at H0 ⊢
    unfold make_New_j1 at H0
    refine lok_rt E0 (⟨11, mkS [(2, .x (.one (.ptr 110 0)))], mkH [(110, .var [.p (.sl 1 (List.map encI l1)), .p (pi (0 : Int))])]⟩) ?_
    refine lok_ret ?_
    obtain rfl := Option.some.inj H0
    try simp only [thenL, blockL]
    exact fin_nu [110] _ (.inr rfl) [110] (⟨11, mkS [(2, .x (.one (.ptr 110 0)))], mkH [(110, .var [.p (.sl 1 (List.map encI l1)), .p (pi (0 : Int))])]⟩) rfl rfl imp_au
  case hxmake_New_j1 =>
    refine lok_rt E0 (⟨11, mkS [(0, .x (.one (.p (.sl 1 (List.map encI l))))), (5, .x (.one (.p (.val (.bool (decide ((600 : Int) < (l.length : Int))))))))], mkH []⟩) ?_
    refine lok_c (decide ((600 : Int) < (l.length : Int))) ?_ ?_
    · intro b_1
      replace H0 := cpos H0 b_1
      replace H0 := req_some H0
      obtain ⟨q_0, H0⟩ := H0
      refine lok_rl E0 (⟨11, mkS [(0, .x (.one (.p (.sl 1 (List.map encI (List.take (600 : Int).toNat l))))))], mkH []⟩) ?_
      try simp only [thenL, blockL, ↓reduceIte, reduceCtorEq]
      exact ⟨(List.take (600 : Int).toNat l), H0, imp_au⟩
    · intro b_1
      replace H0 := cneg H0 b_1
      refine lok_skip ?_
      try simp only [thenL, blockL, ↓reduceIte, reduceCtorEq]
      exact ⟨l, H0, imp_au⟩
theorem ok_make_Tape_Raw (t : make_Tape) (r_ : Int × make_Tape) (H0 : make_Tape_Raw t = some r_) : CallOK Try.prog 41 [.one (.ptr 0 0)] [.var [.p (.sl 1 (List.map encI t.L)), .p (pi t.At)]] [.one (.p (pi r_.1))] [some (.var [.p (.sl 1 (List.map encI r_.2.L)), .p (pi r_.2.At)])] := by
  refine callOK (n := 31) (rs := [.tmp 2]) (nb := 1) (V := [0]) Try.func41 rfl (by kernel_rfl) rfl rfl rfl rfl (Nat.le_of_ble_eq_true rfl) (by decide) ?_
  unfold make_Tape_Raw at H0
  refine lok_rt E0 (⟨31, mkS [(0, .x (.one (.ptr 0 0)))], mkH [(0, .var [.p (.sl 1 (List.map encI t.L)), .p (pi t.At)])]⟩) ?_
  refine lok_seq ?_
  refine lok_dt E0 9 (⟨31, mkS [(0, .x (.one (.ptr 0 0))), (12, .x (.one (.p (.val (.bool (decide ((t.L.length : Int) ≤ t.At)))))))], mkH [(0, .var [.p (.sl 1 (List.map encI t.L)), .p (pi t.At)])]⟩) (by kernel_rfl) (by kernel_rfl) ?_
  refine lok_c (decide ((t.L.length : Int) ≤ t.At)) ?_ ?_
  · intro b_2
    replace H0 := cpos H0 b_2
    refine lok_rt E0 (⟨31, mkS [(2, .x (.one (.p (pi (0 : Int)))))], mkH [(0, .var [.p (.sl 1 (List.map encI t.L)), .p (pi t.At)])]⟩) ?_
    refine lok_ret ?_
    obtain rfl := Option.some.inj H0
    try simp only [thenL, blockL]
    exact fin_au _ (.inr rfl) [0] (⟨31, mkS [(2, .x (.one (.p (pi (0 : Int)))))], mkH [(0, .var [.p (.sl 1 (List.map encI t.L)), .p (pi t.At)])]⟩) rfl rfl imp_au
  · intro b_2
    replace H0 := cneg H0 b_2
    refine lok_skip ?_
    try simp only [thenL, blockL, ↓reduceIte, reduceCtorEq]
    refine lok_rt E0 (⟨31, mkS [(0, .x (.one (.ptr 0 0)))], mkH [(0, .var [.p (.sl 1 (List.map encI t.L)), .p (pi (IntKind.i64.wrap (t.At + (1 : Int))))])]⟩) ?_
    replace H0 := req_some H0
    obtain ⟨q_1, H0⟩ := H0
    replace H0 := bindV_some H0
    obtain ⟨v, a_0, H0⟩ := H0
    refine lok_dtg E0 9 a_0 (⟨31, mkS [(2, .x (.one (.p (pi v))))], mkH [(0, .var [.p (.sl 1 (List.map encI t.L)), .p (pi (IntKind.i64.wrap (t.At + (1 : Int))))])]⟩) (by kernel_rfl) (by kernel_rfl) ?_
    refine lok_ret ?_
    obtain rfl := Option.some.inj H0
    try simp only [thenL, blockL]
    exact fin_au _ (.inr rfl) [0] (⟨31, mkS [(2, .x (.one (.p (pi v))))], mkH [(0, .var [.p (.sl 1 (List.map encI t.L)), .p (pi (IntKind.i64.wrap (t.At + (1 : Int))))])]⟩) rfl rfl imp_au
theorem ok_make_Tape_Next (t : make_Tape) (n : Int) (r_ : Int × make_Tape) (H0 : make_Tape_Next t n = some r_) : CallOK Try.prog 12 [.one (.ptr 0 0), .one (.p (pi n))] [.var [.p (.sl 1 (List.map encI t.L)), .p (pi t.At)]] [.one (.p (pi r_.1))] [some (.var [.p (.sl 1 (List.map encI r_.2.L)), .p (pi r_.2.At)])] := by
  refine callOK (n := 9) (rs := [.tmp 4]) (nb := 1) (V := [0]) Try.func12 rfl (by kernel_rfl) rfl rfl rfl rfl (Nat.le_of_ble_eq_true rfl) (by decide) ?_
  unfold make_Tape_Next at H0
  refine lok_rt E0 (⟨9, mkS [(0, .x (.one (.ptr 0 0))), (1, .x (.one (.p (pi n))))], mkH [(0, .var [.p (.sl 1 (List.map encI t.L)), .p (pi t.At)])]⟩) ?_
  replace H0 := bind_some H0
  obtain ⟨⟨y, y1⟩, h_0, H0⟩ := H0
  try dsimp only at H0
  replace H0 := bind_some H0
  obtain ⟨y2, h_1, H0⟩ := H0
  refine lok_rt (Env.of E0 [⟨some 6, 41, [.one (.ptr 0 0)], [.var [.p (.sl 1 (List.map encI t.L)), .p (pi t.At)]], [.one (.p (pi y))], [some (.var [.p (.sl 1 (List.map encI y1.L)), .p (pi y1.At)])], True, fun _ => ok_make_Tape_Raw t (y, y1) h_0, []⟩,
      ⟨some 8, 17, [.one (.p (pi y)), .one (.p (pi n))], [], [.one (.p (pi y2))], [], True, fun _ => ok_make_Cut y n y2 h_1, []⟩]) (⟨9, mkS [(4, .x (.one (.p (pi y2))))], mkH [(0, .var [.p (.sl 1 (List.map encI y1.L)), .p (pi y1.At)])]⟩) ?_
  refine lok_ret ?_
  obtain rfl := Option.some.inj H0
  try simp only [thenL, blockL]
  exact fin_au _ (.inr rfl) [0] (⟨9, mkS [(4, .x (.one (.p (pi y2))))], mkH [(0, .var [.p (.sl 1 (List.map encI y1.L)), .p (pi y1.At)])]⟩) rfl rfl imp_au
theorem ok_make_Tape_Range (t : make_Tape) (low : Int) (high : Int) (r_ : Int × make_Tape) (H0 : make_Tape_Range t low high = some r_) : CallOK Try.prog 13 [.one (.ptr 0 0), .one (.p (pi low)), .one (.p (pi high))] [.var [.p (.sl 1 (List.map encI t.L)), .p (pi t.At)]] [.one (.p (pi r_.1))] [some (.var [.p (.sl 1 (List.map encI r_.2.L)), .p (pi r_.2.At)])] := by
  refine callOK (n := 15) (rs := [.tmp 6]) (nb := 1) (V := [0]) Try.func13 rfl (by kernel_rfl) rfl rfl rfl rfl (Nat.le_of_ble_eq_true rfl) (by decide) ?_
  unfold make_Tape_Range at H0
  refine lok_rt E0 (⟨15, mkS [(0, .x (.one (.ptr 0 0))), (1, .x (.one (.p (pi low)))), (2, .x (.one (.p (pi high))))], mkH [(0, .var [.p (.sl 1 (List.map encI t.L)), .p (pi t.At)])]⟩) ?_
  replace H0 := bind_some H0
  obtain ⟨⟨y, y1⟩, h_0, H0⟩ := H0
  try dsimp only at H0
  refine lok_rt (Env.of E0 [⟨some 13, 12, [.one (.ptr 0 0), .one (.p (pi (IntKind.i64.wrap ((IntKind.i64.wrap (high - low)) + (1 : Int)))))], [.var [.p (.sl 1 (List.map encI t.L)), .p (pi t.At)]], [.one (.p (pi y))], [some (.var [.p (.sl 1 (List.map encI y1.L)), .p (pi y1.At)])], True, fun _ => ok_make_Tape_Next t (IntKind.i64.wrap ((IntKind.i64.wrap (high - low)) + (1 : Int))) (y, y1) h_0, []⟩]) (⟨15, mkS [(6, .x (.one (.p (pi (IntKind.i64.wrap (low + y))))))], mkH [(0, .var [.p (.sl 1 (List.map encI y1.L)), .p (pi y1.At)])]⟩) ?_
  refine lok_ret ?_
  obtain rfl := Option.some.inj H0
  try simp only [thenL, blockL]
  exact fin_au _ (.inr rfl) [0] (⟨15, mkS [(6, .x (.one (.p (pi (IntKind.i64.wrap (low + y))))))], mkH [(0, .var [.p (.sl 1 (List.map encI y1.L)), .p (pi y1.At)])]⟩) rfl rfl imp_au
theorem ok_ref01_Size (n : Int) (r_ : Int) (H0 : ref01_Size n = some r_) : CallOK Try.prog 66 [.one (.p (pi n))] [] [.one (.p (.val (.int .u64 r_)))] [] := by
  refine callOK (n := 12) (rs := [.tmp 2]) (nb := 0) (V := []) Try.func66 rfl (by kernel_rfl) rfl rfl rfl rfl (Nat.le_of_ble_eq_true rfl) (by decide) ?_
  unfold ref01_Size at H0
  refine lok_rt E0 (⟨12, mkS [(0, .x (.one (.p (pi n))))], mkH []⟩) ?_
  refine lok_seq ?_
  refine lok_rt E0 (⟨12, mkS [(0, .x (.one (.p (pi n)))), (4, .x (.one (.p (.val (.bool (decide (n < (0 : Int))))))))], mkH []⟩) ?_
  refine lok_c (decide (n < (0 : Int))) ?_ ?_
  · intro b_1
    replace H0 := cpos H0 b_1
    replace H0 := bindV_some H0
    obtain ⟨v, a_0, H0⟩ := H0
    refine lok_rtg E0 a_0 (⟨12, mkS [(2, .x (.one (.p (.val (.int .u64 v)))))], mkH []⟩) ?_
    refine lok_ret ?_
    obtain rfl := Option.some.inj H0
    try simp only [thenL, blockL]
    exact fin_au _ (.inr rfl) [] (⟨12, mkS [(2, .x (.one (.p (.val (.int .u64 v)))))], mkH []⟩) rfl rfl imp_au
  · intro b_1
    replace H0 := cneg H0 b_1
    refine lok_skip ?_
    try simp only [thenL, blockL, ↓reduceIte, reduceCtorEq]
    refine lok_rt E0 (⟨12, mkS [(2, .x (.one (.p (.val (.int .u64 (IntKind.u64.wrap n))))))], mkH []⟩) ?_
    refine lok_ret ?_
    obtain rfl := Option.some.inj H0
    try simp only [thenL, blockL]
    exact fin_au _ (.inr rfl) [] (⟨12, mkS [(2, .x (.one (.p (.val (.int .u64 (IntKind.u64.wrap n))))))], mkH []⟩) rfl rfl imp_au
theorem ok_ref01_New (num : Int) (den : Int) (r_ : api_Ratio × Int) (H0 : ref01_New num den = some r_) : CallOK Try.prog 48 [.one (.p (pi num)), .one (.p (pi den))] [] [.agg [.p (pi r_.1.Num), .p (pi r_.1.Den)], .one (.p (pi r_.2))] [] := by
  refine callOK (n := 23) (rs := [.cell 4 23, .tmp 5]) (nb := 0) (V := []) Try.func48 rfl (by kernel_rfl) rfl rfl rfl rfl (Nat.le_of_ble_eq_true rfl) (by decide) ?_
  unfold ref01_New at H0
  refine lok_rt E0 (⟨23, mkS [(0, .x (.one (.p (pi num)))), (1, .x (.one (.p (pi den)))), (4, .x (.one (.ptr 104 0)))], mkH [(104, .var [.p (pi (0 : Int)), .p (pi (0 : Int))])]⟩) ?_
  refine lok_seq ?_
  refine lok_rt E0 (⟨23, mkS [(0, .x (.one (.p (pi num)))), (1, .x (.one (.p (pi den)))), (4, .x (.one (.ptr 104 0))), (7, .x (.one (.p (.val (.bool (den == (0 : Int)))))))], mkH [(104, .var [.p (pi (0 : Int)), .p (pi (0 : Int))])]⟩) ?_
  refine lok_c (den == (0 : Int)) ?_ ?_
  · intro b_3
    replace H0 := cpos H0 b_3
    refine lok_rt E0 (⟨23, mkS [(4, .x (.one (.ptr 104 0))), (5, .x (.one (.p (pi (2 : Int)))))], mkH [(104, .var [.p (pi (0 : Int)), .p (pi (0 : Int))])]⟩) ?_
    refine lok_ret ?_
    obtain rfl := Option.some.inj H0
    try simp only [thenL, blockL]
    exact fin_au _ (.inr rfl) [] (⟨23, mkS [(4, .x (.one (.ptr 104 0))), (5, .x (.one (.p (pi (2 : Int)))))], mkH [(104, .var [.p (pi (0 : Int)), .p (pi (0 : Int))])]⟩) rfl rfl imp_au
  · intro b_3
    replace H0 := cneg H0 b_3
    refine lok_skip ?_
    try simp only [thenL, blockL, ↓reduceIte, reduceCtorEq]
    replace H0 := bind_some H0
    obtain ⟨y, h_0, H0⟩ := H0
    replace H0 := bind_some H0
    obtain ⟨y1, h_1, H0⟩ := H0
    replace H0 := bind_some H0
    obtain ⟨⟨y2, y3⟩, h_2, H0⟩ := H0
    try dsimp only at H0
    refine lok_rt (Env.of E0 [⟨some 15, 66, [.one (.p (pi num))], [], [.one (.p (.val (.int .u64 y)))], [], True, fun _ => ok_ref01_Size num y h_0, []⟩,
      ⟨some 18, 66, [.one (.p (pi den))], [], [.one (.p (.val (.int .u64 y1)))], [], True, fun _ => ok_ref01_Size den y1 h_1, []⟩,
      ⟨some 20, 37, [.one (.p (.val (.bool (!((decide (num < (0 : Int))) == (decide (den < (0 : Int)))))))), .agg [.p (.val (.int .u64 (0 : Int))), .p (.val (.int .u64 y))], .agg [.p (.val (.int .u64 (0 : Int))), .p (.val (.int .u64 y1))]], [], [.agg [.p (pi y2.Num), .p (pi y2.Den)], .one (.p (pi y3))], [], True, fun _ => ok_ref01_Reduce (!((decide (num < (0 : Int))) == (decide (den < (0 : Int))))) (ref01_Wide.mk (0 : Int) y) (ref01_Wide.mk (0 : Int) y1) (y2, y3) h_2, []⟩]) (⟨23, mkS [(4, .x (.one (.ptr 104 0))), (5, .x (.one (.p (pi y3))))], mkH [(104, .var [.p (pi y2.Num), .p (pi y2.Den)])]⟩) ?_
    refine lok_ret ?_
    obtain rfl := Option.some.inj H0
    try simp only [thenL, blockL]
    exact fin_au _ (.inr rfl) [] (⟨23, mkS [(4, .x (.one (.ptr 104 0))), (5, .x (.one (.p (pi y3))))], mkH [(104, .var [.p (pi y2.Num), .p (pi y2.Den)])]⟩) rfl rfl imp_au
theorem ok_make_Tape_Small (t : make_Tape) (r_ : api_Ratio × make_Tape) (H0 : make_Tape_Small t = some r_) : CallOK Try.prog 21 [.one (.ptr 0 0)] [.var [.p (.sl 1 (List.map encI t.L)), .p (pi t.At)]] [.agg [.p (pi r_.1.Num), .p (pi r_.1.Den)]] [some (.var [.p (.sl 1 (List.map encI r_.2.L)), .p (pi r_.2.At)])] := by
  refine callOK (n := 14) (rs := [.cell 2 23]) (nb := 1) (V := [0]) Try.func21 rfl (by kernel_rfl) rfl rfl rfl rfl (Nat.le_of_ble_eq_true rfl) (by decide) ?_
  unfold make_Tape_Small at H0
  refine lok_rt E0 (⟨14, mkS [(0, .x (.one (.ptr 0 0))), (2, .x (.one (.ptr 102 0)))], mkH [(0, .var [.p (.sl 1 (List.map encI t.L)), .p (pi t.At)]), (102, .var [.p (pi (0 : Int)), .p (pi (0 : Int))])]⟩) ?_
  replace H0 := bind_some H0
  obtain ⟨⟨y, y1⟩, h_0, H0⟩ := H0
  try dsimp only at H0
  replace H0 := bind_some H0
  obtain ⟨⟨y2, y3⟩, h_1, H0⟩ := H0
  try dsimp only at H0
  replace H0 := bind_some H0
  obtain ⟨⟨y4, y5⟩, h_2, H0⟩ := H0
  try dsimp only at H0
  refine lok_rt (Env.of E0 [⟨some 7, 13, [.one (.ptr 0 0), .one (.p (pi (-30 : Int))), .one (.p (pi (30 : Int)))], [.var [.p (.sl 1 (List.map encI t.L)), .p (pi t.At)]], [.one (.p (pi y))], [some (.var [.p (.sl 1 (List.map encI y1.L)), .p (pi y1.At)])], True, fun _ => ok_make_Tape_Range t (-30 : Int) (30 : Int) (y, y1) h_0, []⟩,
      ⟨some 9, 13, [.one (.ptr 0 0), .one (.p (pi (1 : Int))), .one (.p (pi (12 : Int)))], [.var [.p (.sl 1 (List.map encI y1.L)), .p (pi y1.At)]], [.one (.p (pi y2))], [some (.var [.p (.sl 1 (List.map encI y3.L)), .p (pi y3.At)])], True, fun _ => ok_make_Tape_Range y1 (1 : Int) (12 : Int) (y2, y3) h_1, []⟩,
      ⟨some 10, 48, [.one (.p (pi y)), .one (.p (pi y2))], [], [.agg [.p (pi y4.Num), .p (pi y4.Den)], .one (.p (pi y5))], [], True, fun _ => ok_ref01_New y y2 (y4, y5) h_2, []⟩]) (⟨14, mkS [(2, .x (.one (.ptr 102 0))), (3, .x (.one (.ptr 103 0)))], mkH [(0, .var [.p (.sl 1 (List.map encI y3.L)), .p (pi y3.At)]), (102, .var [.p (pi (0 : Int)), .p (pi (0 : Int))]), (103, .var [.p (pi y4.Num), .p (pi y4.Den)])]⟩) ?_
  refine lok_rt E0 (⟨14, mkS [(2, .x (.one (.ptr 102 0)))], mkH [(0, .var [.p (.sl 1 (List.map encI y3.L)), .p (pi y3.At)]), (102, .var [.p (pi y4.Num), .p (pi y4.Den)])]⟩) ?_
  refine lok_ret ?_
  obtain rfl := Option.some.inj H0
  try simp only [thenL, blockL]
  exact fin_au _ (.inr rfl) [0] (⟨14, mkS [(2, .x (.one (.ptr 102 0)))], mkH [(0, .var [.p (.sl 1 (List.map encI y3.L)), .p (pi y3.At)]), (102, .var [.p (pi y4.Num), .p (pi y4.Den)])]⟩) rfl rfl imp_au
end Go.LS
