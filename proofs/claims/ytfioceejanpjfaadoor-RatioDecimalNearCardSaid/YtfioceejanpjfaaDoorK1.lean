/-
  The walks: the functions compute what the plain ones say. Condition: the plain function has a value.
-/
import Derived.Test.YtfioceejanpjfaaDoorK0
import Derived.Test.YtfioceejanpjfaaDoorD1
namespace Go.LS
open Go.Proofs
set_option linter.all false
set_option linter.unusedSimpArgs false
set_option linter.unusedVariables false
set_option maxRecDepth 20000

theorem ok_ref01_Size (n : Int) (r_ : Int) (H0 : ref01_Size n = some r_) : CallOK Tryd.prog 30 [.one (.p (pi n))] [] [.one (.p (.val (.int .u64 r_)))] [] := by
  refine callOK (n := 12) (rs := [.tmp 2]) (nb := 0) (V := []) Tryd.func30 rfl (by kernel_rfl) rfl rfl rfl rfl (Nat.le_of_ble_eq_true rfl) (by decide) ?_
  unfold ref01_Size at H0
  refine lok_rt E0 (⟨12, mkS [(0, .x (.one (.p (pi n))))], mkH []⟩) ?_
  refine lok_seq ?_
  refine lok_rt E0 (⟨12, mkS [(0, .x (.one (.p (pi n)))), (4, .x (.one (.p (.val (.bool (decide (n < (0 : Int))))))))], mkH []⟩) ?_
  refine lok_c (decide (n < (0 : Int))) ?_ ?_
  · intro b_1
    replace H0 := cpos H0 b_1
    replace H0 := bindV_some H0
    obtain ⟨v, a_0, H0⟩ := H0
    refine lok_rtg E0 a_0 (⟨12, mkS [(2, .x (.one (.p (.val (.int .u64 v)))))], mkH []⟩) ?_
    refine lok_ret ?_
    obtain rfl := Option.some.inj H0
    try simp only [thenL, blockL]
    exact fin_au _ (.inr rfl) [] (⟨12, mkS [(2, .x (.one (.p (.val (.int .u64 v)))))], mkH []⟩) rfl rfl imp_au
  · intro b_1
    replace H0 := cneg H0 b_1
    refine lok_skip ?_
    try simp only [thenL, blockL, ↓reduceIte, reduceCtorEq]
    refine lok_rt E0 (⟨12, mkS [(2, .x (.one (.p (.val (.int .u64 (IntKind.u64.wrap n))))))], mkH []⟩) ?_
    refine lok_ret ?_
    obtain rfl := Option.some.inj H0
    try simp only [thenL, blockL]
    exact fin_au _ (.inr rfl) [] (⟨12, mkS [(2, .x (.one (.p (.val (.int .u64 (IntKind.u64.wrap n))))))], mkH []⟩) rfl rfl imp_au
theorem ok_ref01_Order (a : ref01_Wide) (b : ref01_Wide) (r_ : Int) (H0 : ref01_Order a b = some r_) : CallOK Tryd.prog 33 [.agg [.p (.val (.int .u64 a.Hi)), .p (.val (.int .u64 a.Lo))], .agg [.p (.val (.int .u64 b.Hi)), .p (.val (.int .u64 b.Lo))]] [] [.one (.p (pi r_))] [] := by
  refine callOK (n := 27) (rs := [.tmp 4]) (nb := 0) (V := []) Tryd.func33 rfl (by kernel_rfl) rfl rfl rfl rfl (Nat.le_of_ble_eq_true rfl) (by decide) ?_
  unfold ref01_Order at H0
  refine lok_rt E0 (⟨27, mkS [(2, .x (.one (.ptr 102 0))), (3, .x (.one (.ptr 103 0)))], mkH [(102, .var [.p (.val (.int .u64 a.Hi)), .p (.val (.int .u64 a.Lo))]), (103, .var [.p (.val (.int .u64 b.Hi)), .p (.val (.int .u64 b.Lo))])]⟩) ?_
  refine lok_seq ?_
  refine lok_rt E0 (⟨27, mkS [(2, .x (.one (.ptr 102 0))), (3, .x (.one (.ptr 103 0))), (23, .x (.one (.p (.val (.bool ((decide (a.Hi < b.Hi)) || ((a.Hi == b.Hi) && (decide (a.Lo < b.Lo)))))))))], mkH [(102, .var [.p (.val (.int .u64 a.Hi)), .p (.val (.int .u64 a.Lo))]), (103, .var [.p (.val (.int .u64 b.Hi)), .p (.val (.int .u64 b.Lo))])]⟩) ?_
  refine lok_c ((decide (a.Hi < b.Hi)) || ((a.Hi == b.Hi) && (decide (a.Lo < b.Lo)))) ?_ ?_
  · intro b_1
    replace H0 := cpos H0 b_1
    refine lok_rt E0 (⟨27, mkS [(4, .x (.one (.p (pi (-1 : Int)))))], mkH []⟩) ?_
    refine lok_ret ?_
    obtain rfl := Option.some.inj H0
    try simp only [thenL, blockL]
    exact fin_au _ (.inr rfl) [] (⟨27, mkS [(4, .x (.one (.p (pi (-1 : Int)))))], mkH []⟩) rfl rfl imp_au
  · intro b_1
    replace H0 := cneg H0 b_1
    refine lok_skip ?_
    try simp only [thenL, blockL, ↓reduceIte, reduceCtorEq]
    refine lok_seq ?_
    refine lok_rt E0 (⟨27, mkS [(26, .x (.one (.p (.val (.bool ((a.Hi == b.Hi) && (a.Lo == b.Lo)))))))], mkH []⟩) ?_
    refine lok_c ((a.Hi == b.Hi) && (a.Lo == b.Lo)) ?_ ?_
    · intro b_0
      replace H0 := cpos H0 b_0
      refine lok_rt E0 (⟨27, mkS [(4, .x (.one (.p (pi (0 : Int)))))], mkH []⟩) ?_
      refine lok_ret ?_
      obtain rfl := Option.some.inj H0
      try simp only [thenL, blockL]
      exact fin_au _ (.inr rfl) [] (⟨27, mkS [(4, .x (.one (.p (pi (0 : Int)))))], mkH []⟩) rfl rfl imp_au
    · intro b_0
      replace H0 := cneg H0 b_0
      refine lok_skip ?_
      try simp only [thenL, blockL, ↓reduceIte, reduceCtorEq]
      refine lok_rt E0 (⟨27, mkS [(4, .x (.one (.p (pi (1 : Int)))))], mkH []⟩) ?_
      refine lok_ret ?_
      obtain rfl := Option.some.inj H0
      try simp only [thenL, blockL]
      exact fin_au _ (.inr rfl) [] (⟨27, mkS [(4, .x (.one (.p (pi (1 : Int)))))], mkH []⟩) rfl rfl imp_au
theorem ok_ref01_Twice (a : ref01_Wide) (r_ : ref01_Wide) (H0 : ref01_Twice a = some r_) : CallOK Tryd.prog 34 [.agg [.p (.val (.int .u64 a.Hi)), .p (.val (.int .u64 a.Lo))]] [] [.agg [.p (.val (.int .u64 r_.Hi)), .p (.val (.int .u64 r_.Lo))]] [] := by
  refine callOK (n := 14) (rs := [.cell 2 52]) (nb := 0) (V := []) Tryd.func34 rfl (by kernel_rfl) rfl rfl rfl rfl (Nat.le_of_ble_eq_true rfl) (by decide) ?_
  unfold ref01_Twice at H0
  refine lok_rt E0 (⟨14, mkS [(1, .x (.one (.ptr 101 0))), (2, .x (.one (.ptr 102 0)))], mkH [(101, .var [.p (.val (.int .u64 a.Hi)), .p (.val (.int .u64 a.Lo))]), (102, .var [.p (.val (.int .u64 (0 : Int))), .p (.val (.int .u64 (0 : Int)))])]⟩) ?_
  refine lok_rt E0 (⟨14, mkS [(2, .x (.one (.ptr 102 0)))], mkH [(102, .var [.p (.val (.int .u64 (bOr .u64 (bShl .u64 a.Hi (1 : Int)) (bShr .u64 a.Lo (63 : Int))))), .p (.val (.int .u64 (bShl .u64 a.Lo (1 : Int))))])]⟩) ?_
  refine lok_ret ?_
  obtain rfl := Option.some.inj H0
  try simp only [thenL, blockL]
  exact fin_au _ (.inr rfl) [] (⟨14, mkS [(2, .x (.one (.ptr 102 0)))], mkH [(102, .var [.p (.val (.int .u64 (bOr .u64 (bShl .u64 a.Hi (1 : Int)) (bShr .u64 a.Lo (63 : Int))))), .p (.val (.int .u64 (bShl .u64 a.Lo (1 : Int))))])]⟩) rfl rfl imp_au
theorem ok_bits_Sub64 (x y borrow : Int) (r_ : Int × Int) (H0 : bits_Sub64 x y borrow = some r_) : CallOK Tryd.prog 72 [.int .u64 x, .int .u64 y, .int .u64 borrow] [] [.int .u64 r_.1, .int .u64 r_.2] [] :=
  okSub64 Tryd.func72 (by kernel_rfl) (by kernel_rfl) (by kernel_rfl) (by kernel_rfl) _ _ _ r_ H0
theorem ok_ref01_Minus (a : ref01_Wide) (b : ref01_Wide) (r_ : ref01_Wide) (H0 : ref01_Minus a b = some r_) : CallOK Tryd.prog 55 [.agg [.p (.val (.int .u64 a.Hi)), .p (.val (.int .u64 a.Lo))], .agg [.p (.val (.int .u64 b.Hi)), .p (.val (.int .u64 b.Lo))]] [] [.agg [.p (.val (.int .u64 r_.Hi)), .p (.val (.int .u64 r_.Lo))]] [] := by
  refine callOK (n := 29) (rs := [.cell 4 52]) (nb := 0) (V := []) Tryd.func55 rfl (by kernel_rfl) rfl rfl rfl rfl (Nat.le_of_ble_eq_true rfl) (by decide) ?_
  unfold ref01_Minus at H0
  refine lok_rt E0 (⟨29, mkS [(2, .x (.one (.ptr 102 0))), (3, .x (.one (.ptr 103 0))), (4, .x (.one (.ptr 104 0)))], mkH [(102, .var [.p (.val (.int .u64 a.Hi)), .p (.val (.int .u64 a.Lo))]), (103, .var [.p (.val (.int .u64 b.Hi)), .p (.val (.int .u64 b.Lo))]), (104, .var [.p (.val (.int .u64 (0 : Int))), .p (.val (.int .u64 (0 : Int)))])]⟩) ?_
  replace H0 := bind_some H0
  obtain ⟨⟨y, y1⟩, h_0, H0⟩ := H0
  try dsimp only at H0
  refine lok_rt (Env.of E0 [⟨some 14, 72, [.one (.p (.val (.int .u64 a.Lo))), .one (.p (.val (.int .u64 b.Lo))), .one (.p (.val (.int .u64 (0 : Int))))], [], [.one (.p (.val (.int .u64 y))), .one (.p (.val (.int .u64 y1)))], [], True, fun _ => ok_bits_Sub64 a.Lo b.Lo (0 : Int) (y, y1) h_0, []⟩]) (⟨29, mkS [(2, .x (.one (.ptr 102 0))), (3, .x (.one (.ptr 103 0))), (4, .x (.one (.ptr 104 0))), (5, .x (.one (.p (.val (.int .u64 y))))), (6, .x (.one (.p (.val (.int .u64 y1)))))], mkH [(102, .var [.p (.val (.int .u64 a.Hi)), .p (.val (.int .u64 a.Lo))]), (103, .var [.p (.val (.int .u64 b.Hi)), .p (.val (.int .u64 b.Lo))]), (104, .var [.p (.val (.int .u64 (0 : Int))), .p (.val (.int .u64 (0 : Int)))])]⟩) ?_
  replace H0 := bind_some H0
  obtain ⟨⟨y2, y3⟩, h_1, H0⟩ := H0
  try dsimp only at H0
  refine lok_rt (Env.of E0 [⟨some 23, 72, [.one (.p (.val (.int .u64 a.Hi))), .one (.p (.val (.int .u64 b.Hi))), .one (.p (.val (.int .u64 y1)))], [], [.one (.p (.val (.int .u64 y2))), .one (.p (.val (.int .u64 y3)))], [], True, fun _ => ok_bits_Sub64 a.Hi b.Hi y1 (y2, y3) h_1, []⟩]) (⟨29, mkS [(4, .x (.one (.ptr 104 0))), (5, .x (.one (.p (.val (.int .u64 y))))), (7, .x (.one (.p (.val (.int .u64 y2)))))], mkH [(104, .var [.p (.val (.int .u64 (0 : Int))), .p (.val (.int .u64 (0 : Int)))])]⟩) ?_
  refine lok_rt E0 (⟨29, mkS [(4, .x (.one (.ptr 104 0)))], mkH [(104, .var [.p (.val (.int .u64 y2)), .p (.val (.int .u64 y))])]⟩) ?_
  refine lok_ret ?_
  obtain rfl := Option.some.inj H0
  try simp only [thenL, blockL]
  exact fin_au _ (.inr rfl) [] (⟨29, mkS [(4, .x (.one (.ptr 104 0)))], mkH [(104, .var [.p (.val (.int .u64 y2)), .p (.val (.int .u64 y))])]⟩) rfl rfl imp_au
set_option maxHeartbeats 4000000 in
theorem ok_ref01_Divide (a : ref01_Wide) (b : ref01_Wide) (r_ : ref01_Wide × ref01_Wide) (H0 : ref01_Divide a b = some r_) : CallOK Tryd.prog 31 [.agg [.p (.val (.int .u64 a.Hi)), .p (.val (.int .u64 a.Lo))], .agg [.p (.val (.int .u64 b.Hi)), .p (.val (.int .u64 b.Lo))]] [] [.agg [.p (.val (.int .u64 r_.1.Hi)), .p (.val (.int .u64 r_.1.Lo))], .agg [.p (.val (.int .u64 r_.2.Hi)), .p (.val (.int .u64 r_.2.Lo))]] [] := by
  refine callOK (n := 82) (rs := [.cell 4 52, .cell 5 52]) (nb := 0) (V := []) Tryd.func31 rfl (by kernel_rfl) rfl rfl rfl rfl (Nat.le_of_ble_eq_true rfl) (by decide) ?_
  unfold ref01_Divide at H0
  refine lok_rt E0 (⟨82, mkS [(2, .x (.one (.ptr 102 0))), (3, .x (.one (.ptr 103 0))), (4, .x (.one (.ptr 104 0))), (5, .x (.one (.ptr 105 0)))], mkH [(102, .var [.p (.val (.int .u64 a.Hi)), .p (.val (.int .u64 a.Lo))]), (103, .var [.p (.val (.int .u64 b.Hi)), .p (.val (.int .u64 b.Lo))]), (104, .var [.p (.val (.int .u64 (0 : Int))), .p (.val (.int .u64 (0 : Int)))]), (105, .var [.p (.val (.int .u64 (0 : Int))), .p (.val (.int .u64 (0 : Int)))])]⟩) ?_
  refine lok_seq ?_
  refine lok_rt E0 (⟨82, mkS [(2, .x (.one (.ptr 102 0))), (3, .x (.one (.ptr 103 0))), (4, .x (.one (.ptr 104 0))), (5, .x (.one (.ptr 105 0))), (18, .x (.one (.p (.val (.bool ((a.Hi == (0 : Int)) && (b.Hi == (0 : Int))))))))], mkH [(102, .var [.p (.val (.int .u64 a.Hi)), .p (.val (.int .u64 a.Lo))]), (103, .var [.p (.val (.int .u64 b.Hi)), .p (.val (.int .u64 b.Lo))]), (104, .var [.p (.val (.int .u64 (0 : Int))), .p (.val (.int .u64 (0 : Int)))]), (105, .var [.p (.val (.int .u64 (0 : Int))), .p (.val (.int .u64 (0 : Int)))])]⟩) ?_
  refine lok_c ((a.Hi == (0 : Int)) && (b.Hi == (0 : Int))) ?_ ?_
  · intro b_13
    replace H0 := cpos H0 b_13
    replace H0 := req_some H0
    obtain ⟨q_0, H0⟩ := H0
    refine lok_et E0 82 [⟨[(2, .x (.one (.ptr 102 0)))], [], [(19, .x (.one (.ptr 102 1)))], [], none⟩,
      ⟨[(19, .x (.one (.ptr 102 1)))], [(102, some (.var [.p (.val (.int .u64 a.Hi)), .p (.val (.int .u64 a.Lo))]))], [(20, .x (.one (.p (.val (.int .u64 a.Lo)))))], [], none⟩,
      ⟨[(3, .x (.one (.ptr 103 0)))], [], [(21, .x (.one (.ptr 103 1)))], [], none⟩,
      ⟨[(21, .x (.one (.ptr 103 1)))], [(103, some (.var [.p (.val (.int .u64 b.Hi)), .p (.val (.int .u64 b.Lo))]))], [(22, .x (.one (.p (.val (.int .u64 b.Lo)))))], [], none⟩,
      ⟨[(20, .x (.one (.p (.val (.int .u64 a.Lo))))), (22, .x (.one (.p (.val (.int .u64 b.Lo)))))], [], [(23, .x (.one (.p (.val (.int .u64 (IntKind.u64.wrap (Int.tdiv a.Lo b.Lo)))))))], [], none⟩,
      ⟨[(23, .x (.one (.p (.val (.int .u64 (IntKind.u64.wrap (Int.tdiv a.Lo b.Lo)))))))], [], [(24, .x (.agg [.p (.val (.int .u64 (0 : Int))), .p (.val (.int .u64 (IntKind.u64.wrap (Int.tdiv a.Lo b.Lo))))]))], [], none⟩,
      ⟨[(2, .x (.one (.ptr 102 0)))], [], [(25, .x (.one (.ptr 102 1)))], [], none⟩,
      ⟨[(25, .x (.one (.ptr 102 1)))], [(102, some (.var [.p (.val (.int .u64 a.Hi)), .p (.val (.int .u64 a.Lo))]))], [(26, .x (.one (.p (.val (.int .u64 a.Lo)))))], [], none⟩,
      ⟨[(3, .x (.one (.ptr 103 0)))], [], [(27, .x (.one (.ptr 103 1)))], [], none⟩,
      ⟨[(27, .x (.one (.ptr 103 1)))], [(103, some (.var [.p (.val (.int .u64 b.Hi)), .p (.val (.int .u64 b.Lo))]))], [(28, .x (.one (.p (.val (.int .u64 b.Lo)))))], [], none⟩,
      ⟨[(26, .x (.one (.p (.val (.int .u64 a.Lo))))), (28, .x (.one (.p (.val (.int .u64 b.Lo)))))], [], [(29, .x (.one (.p (.val (.int .u64 (Int.tmod a.Lo b.Lo))))))], [], none⟩,
      ⟨[(29, .x (.one (.p (.val (.int .u64 (Int.tmod a.Lo b.Lo))))))], [], [(30, .x (.agg [.p (.val (.int .u64 (0 : Int))), .p (.val (.int .u64 (Int.tmod a.Lo b.Lo)))]))], [], none⟩,
      ⟨[(4, .x (.one (.ptr 104 0))), (24, .x (.agg [.p (.val (.int .u64 (0 : Int))), .p (.val (.int .u64 (IntKind.u64.wrap (Int.tdiv a.Lo b.Lo))))]))], [(104, some (.var [.p (.val (.int .u64 (0 : Int))), .p (.val (.int .u64 (0 : Int)))]))], [], [(104, some (.var [.p (.val (.int .u64 (0 : Int))), .p (.val (.int .u64 (IntKind.u64.wrap (Int.tdiv a.Lo b.Lo))))]))], none⟩] (⟨82, mkS [(4, .x (.one (.ptr 104 0))), (5, .x (.one (.ptr 105 0)))], mkH [(104, .var [.p (.val (.int .u64 (0 : Int))), .p (.val (.int .u64 (IntKind.u64.wrap (Int.tdiv a.Lo b.Lo))))]), (105, .var [.p (.val (.int .u64 (0 : Int))), .p (.val (.int .u64 (Int.tmod a.Lo b.Lo)))])]⟩) (by kernel_rfl) (by kernel_rfl) (by kernel_rfl) rfl rfl rfl ?_
    refine lok_ret ?_
    obtain rfl := Option.some.inj H0
    try simp only [thenL, blockL]
    exact fin_au _ (.inr rfl) [] (⟨82, mkS [(4, .x (.one (.ptr 104 0))), (5, .x (.one (.ptr 105 0)))], mkH [(104, .var [.p (.val (.int .u64 (0 : Int))), .p (.val (.int .u64 (IntKind.u64.wrap (Int.tdiv a.Lo b.Lo))))]), (105, .var [.p (.val (.int .u64 (0 : Int))), .p (.val (.int .u64 (Int.tmod a.Lo b.Lo)))])]⟩) rfl rfl imp_au
  · intro b_13
    replace H0 := cneg H0 b_13
    refine lok_skip ?_
    try simp only [thenL, blockL, ↓reduceIte, reduceCtorEq]
    refine lok_rt E0 (⟨82, mkS [(2, .x (.one (.ptr 102 0))), (3, .x (.one (.ptr 103 0))), (4, .x (.one (.ptr 104 0))), (5, .x (.one (.ptr 105 0))), (6, .x (.one (.ptr 106 0))), (7, .x (.one (.ptr 107 0)))], mkH [(102, .var [.p (.val (.int .u64 a.Hi)), .p (.val (.int .u64 a.Lo))]), (103, .var [.p (.val (.int .u64 b.Hi)), .p (.val (.int .u64 b.Lo))]), (104, .var [.p (.val (.int .u64 (0 : Int))), .p (.val (.int .u64 (0 : Int)))]), (105, .var [.p (.val (.int .u64 (0 : Int))), .p (.val (.int .u64 (0 : Int)))]), (106, .var [.p (.val (.int .u64 (0 : Int))), .p (.val (.int .u64 (0 : Int)))]), (107, .var [.p (.val (.int .u64 (0 : Int))), .p (.val (.int .u64 (0 : Int)))])]⟩) ?_
    refine lok_join (fun x_ : Int × Int × Int × Int => ref01_Divide_j1 x_.1 x_.2.1 x_.2.2.1 x_.2.2.2 = some r_) (fun x_ => ⟨82, mkS [(4, .x (.one (.ptr 104 0))), (5, .x (.one (.ptr 105 0))), (6, .x (.one (.ptr 106 0))), (7, .x (.one (.ptr 107 0)))], mkH [(104, .var [.p (.val (.int .u64 (0 : Int))), .p (.val (.int .u64 (0 : Int)))]), (105, .var [.p (.val (.int .u64 (0 : Int))), .p (.val (.int .u64 (0 : Int)))]), (106, .var [.p (.val (.int .u64 x_.1)), .p (.val (.int .u64 x_.2.1))]), (107, .var [.p (.val (.int .u64 x_.2.2.1)), .p (.val (.int .u64 x_.2.2.2))])]⟩) ?hyref01_Divide_j1 ?hxref01_Divide_j1
    case hyref01_Divide_j1 =>
      rintro ⟨q, q1, r, r1⟩ H0
      try dsimp only at H0 ⊢
      unfold ref01_Divide_j1 at H0
      refine lok_et E0 82 [⟨[(6, .x (.one (.ptr 106 0)))], [(106, some (.var [.p (.val (.int .u64 q)), .p (.val (.int .u64 q1))]))], [(80, .x (.agg [.p (.val (.int .u64 q)), .p (.val (.int .u64 q1))]))], [], none⟩,
      ⟨[(7, .x (.one (.ptr 107 0)))], [(107, some (.var [.p (.val (.int .u64 r)), .p (.val (.int .u64 r1))]))], [(81, .x (.agg [.p (.val (.int .u64 r)), .p (.val (.int .u64 r1))]))], [], none⟩,
      ⟨[(4, .x (.one (.ptr 104 0))), (80, .x (.agg [.p (.val (.int .u64 q)), .p (.val (.int .u64 q1))]))], [(104, some (.var [.p (.val (.int .u64 (0 : Int))), .p (.val (.int .u64 (0 : Int)))]))], [], [(104, some (.var [.p (.val (.int .u64 q)), .p (.val (.int .u64 q1))]))], none⟩] (⟨82, mkS [(4, .x (.one (.ptr 104 0))), (5, .x (.one (.ptr 105 0)))], mkH [(104, .var [.p (.val (.int .u64 q)), .p (.val (.int .u64 q1))]), (105, .var [.p (.val (.int .u64 r)), .p (.val (.int .u64 r1))])]⟩) (by kernel_rfl) (by kernel_rfl) (by kernel_rfl) rfl rfl rfl ?_
      refine lok_ret ?_
      obtain rfl := Option.some.inj H0
      try simp only [thenL, blockL]
      exact fin_au _ (.inr rfl) [] (⟨82, mkS [(4, .x (.one (.ptr 104 0))), (5, .x (.one (.ptr 105 0)))], mkH [(104, .var [.p (.val (.int .u64 q)), .p (.val (.int .u64 q1))]), (105, .var [.p (.val (.int .u64 r)), .p (.val (.int .u64 r1))])]⟩) rfl rfl imp_au
    case hxref01_Divide_j1 =>
      refine lok_rt E0 (⟨82, mkS [(2, .x (.one (.ptr 102 0))), (3, .x (.one (.ptr 103 0))), (4, .x (.one (.ptr 104 0))), (5, .x (.one (.ptr 105 0))), (6, .x (.one (.ptr 106 0))), (7, .x (.one (.ptr 107 0))), (8, .x (.one (.p (pi (127 : Int)))))], mkH [(102, .var [.p (.val (.int .u64 a.Hi)), .p (.val (.int .u64 a.Lo))]), (103, .var [.p (.val (.int .u64 b.Hi)), .p (.val (.int .u64 b.Lo))]), (104, .var [.p (.val (.int .u64 (0 : Int))), .p (.val (.int .u64 (0 : Int)))]), (105, .var [.p (.val (.int .u64 (0 : Int))), .p (.val (.int .u64 (0 : Int)))]), (106, .var [.p (.val (.int .u64 (0 : Int))), .p (.val (.int .u64 (0 : Int)))]), (107, .var [.p (.val (.int .u64 (0 : Int))), .p (.val (.int .u64 (0 : Int)))])]⟩) ?_
      refine lok_block ?_
      replace H0 := bind_some H0
      obtain ⟨v_1, hv_1, H0⟩ := H0
      refine lok_iter (fun x_ => ⟨82, mkS [(2, .x (.one (.ptr 102 0))), (3, .x (.one (.ptr 103 0))), (4, .x (.one (.ptr 104 0))), (5, .x (.one (.ptr 105 0))), (6, .x (.one (.ptr 106 0))), (7, .x (.one (.ptr 107 0))), (8, .x (.one (.p (pi x_.1))))], mkH [(102, .var [.p (.val (.int .u64 a.Hi)), .p (.val (.int .u64 a.Lo))]), (103, .var [.p (.val (.int .u64 b.Hi)), .p (.val (.int .u64 b.Lo))]), (104, .var [.p (.val (.int .u64 (0 : Int))), .p (.val (.int .u64 (0 : Int)))]), (105, .var [.p (.val (.int .u64 (0 : Int))), .p (.val (.int .u64 (0 : Int)))]), (106, .var [.p (.val (.int .u64 x_.2.1)), .p (.val (.int .u64 x_.2.2.1))]), (107, .var [.p (.val (.int .u64 x_.2.2.2.1)), .p (.val (.int .u64 x_.2.2.2.2))])]⟩) hv_1 imp_au ?_
      · rintro ⟨i, q2, q3, r2, r3⟩ o_1 H1 k_1
        unfold ref01_Divide_l4 at H1
        try dsimp only at H1 ⊢
        refine lok_seq ?_
        refine lok_rt E0 (⟨82, mkS [(2, .x (.one (.ptr 102 0))), (3, .x (.one (.ptr 103 0))), (4, .x (.one (.ptr 104 0))), (5, .x (.one (.ptr 105 0))), (6, .x (.one (.ptr 106 0))), (7, .x (.one (.ptr 107 0))), (8, .x (.one (.p (pi i)))), (34, .x (.one (.p (.val (.bool (decide ((0 : Int) ≤ i)))))))], mkH [(102, .var [.p (.val (.int .u64 a.Hi)), .p (.val (.int .u64 a.Lo))]), (103, .var [.p (.val (.int .u64 b.Hi)), .p (.val (.int .u64 b.Lo))]), (104, .var [.p (.val (.int .u64 (0 : Int))), .p (.val (.int .u64 (0 : Int)))]), (105, .var [.p (.val (.int .u64 (0 : Int))), .p (.val (.int .u64 (0 : Int)))]), (106, .var [.p (.val (.int .u64 q2)), .p (.val (.int .u64 q3))]), (107, .var [.p (.val (.int .u64 r2)), .p (.val (.int .u64 r3))])]⟩) ?_
        refine lok_c (decide ((0 : Int) ≤ i)) ?_ ?_
        · intro b_12
          replace H1 := cpos H1 b_12
          refine lok_skip ?_
          try simp only [thenL, blockL, ↓reduceIte, reduceCtorEq]
          refine lok_join (fun x_ : Int × Int × Int × Int => ref01_Divide_j2 i x_.1 x_.2.1 x_.2.2.1 x_.2.2.2 = some o_1) (fun x_ => ⟨82, mkS [(2, .x (.one (.ptr 102 0))), (3, .x (.one (.ptr 103 0))), (4, .x (.one (.ptr 104 0))), (5, .x (.one (.ptr 105 0))), (6, .x (.one (.ptr 106 0))), (7, .x (.one (.ptr 107 0))), (8, .x (.one (.p (pi i))))], mkH [(102, .var [.p (.val (.int .u64 a.Hi)), .p (.val (.int .u64 a.Lo))]), (103, .var [.p (.val (.int .u64 b.Hi)), .p (.val (.int .u64 b.Lo))]), (104, .var [.p (.val (.int .u64 (0 : Int))), .p (.val (.int .u64 (0 : Int)))]), (105, .var [.p (.val (.int .u64 (0 : Int))), .p (.val (.int .u64 (0 : Int)))]), (106, .var [.p (.val (.int .u64 x_.1)), .p (.val (.int .u64 x_.2.1))]), (107, .var [.p (.val (.int .u64 x_.2.2.1)), .p (.val (.int .u64 x_.2.2.2))])]⟩) ?hyref01_Divide_j2 ?hxref01_Divide_j2
          case hyref01_Divide_j2 =>
            rintro ⟨q6, q7, r6, r7⟩ H1
            try dsimp only at H1 ⊢
            unfold ref01_Divide_j2 at H1
            refine lok_rl E0 (⟨82, mkS [(2, .x (.one (.ptr 102 0))), (3, .x (.one (.ptr 103 0))), (4, .x (.one (.ptr 104 0))), (5, .x (.one (.ptr 105 0))), (6, .x (.one (.ptr 106 0))), (7, .x (.one (.ptr 107 0))), (8, .x (.one (.p (pi (IntKind.i64.wrap (i - (1 : Int)))))))], mkH [(102, .var [.p (.val (.int .u64 a.Hi)), .p (.val (.int .u64 a.Lo))]), (103, .var [.p (.val (.int .u64 b.Hi)), .p (.val (.int .u64 b.Lo))]), (104, .var [.p (.val (.int .u64 (0 : Int))), .p (.val (.int .u64 (0 : Int)))]), (105, .var [.p (.val (.int .u64 (0 : Int))), .p (.val (.int .u64 (0 : Int)))]), (106, .var [.p (.val (.int .u64 q6)), .p (.val (.int .u64 q7))]), (107, .var [.p (.val (.int .u64 r6)), .p (.val (.int .u64 r7))])]⟩) ?_
            try simp only [thenL, blockL, ↓reduceIte, reduceCtorEq]
            exact ⟨((IntKind.i64.wrap (i - (1 : Int))), q6, q7, r6, r7), (Option.some.inj H1).symm, imp_au⟩
          case hxref01_Divide_j2 =>
            refine lok_block ?_
            replace H1 := req_some H1
            obtain ⟨q_11, H1⟩ := H1
            replace H1 := bindV_some H1
            obtain ⟨bit, a_2, H1⟩ := H1
            refine lok_rtg E0 a_2 (⟨82, mkS [(2, .x (.one (.ptr 102 0))), (3, .x (.one (.ptr 103 0))), (4, .x (.one (.ptr 104 0))), (5, .x (.one (.ptr 105 0))), (6, .x (.one (.ptr 106 0))), (7, .x (.one (.ptr 107 0))), (8, .x (.one (.p (pi i)))), (9, .x (.one (.p (.val (.int .u64 bit)))))], mkH [(102, .var [.p (.val (.int .u64 a.Hi)), .p (.val (.int .u64 a.Lo))]), (103, .var [.p (.val (.int .u64 b.Hi)), .p (.val (.int .u64 b.Lo))]), (104, .var [.p (.val (.int .u64 (0 : Int))), .p (.val (.int .u64 (0 : Int)))]), (105, .var [.p (.val (.int .u64 (0 : Int))), .p (.val (.int .u64 (0 : Int)))]), (106, .var [.p (.val (.int .u64 q2)), .p (.val (.int .u64 q3))]), (107, .var [.p (.val (.int .u64 r2)), .p (.val (.int .u64 r3))])]⟩) ?_
            refine lok_join (fun x_ : Int => ref01_Divide_j3 b i q2 q3 r2 r3 x_ = some o_1) (fun x_ => ⟨82, mkS [(2, .x (.one (.ptr 102 0))), (3, .x (.one (.ptr 103 0))), (4, .x (.one (.ptr 104 0))), (5, .x (.one (.ptr 105 0))), (6, .x (.one (.ptr 106 0))), (7, .x (.one (.ptr 107 0))), (8, .x (.one (.p (pi i)))), (9, .x (.one (.p (.val (.int .u64 x_)))))], mkH [(102, .var [.p (.val (.int .u64 a.Hi)), .p (.val (.int .u64 a.Lo))]), (103, .var [.p (.val (.int .u64 b.Hi)), .p (.val (.int .u64 b.Lo))]), (104, .var [.p (.val (.int .u64 (0 : Int))), .p (.val (.int .u64 (0 : Int)))]), (105, .var [.p (.val (.int .u64 (0 : Int))), .p (.val (.int .u64 (0 : Int)))]), (106, .var [.p (.val (.int .u64 q2)), .p (.val (.int .u64 q3))]), (107, .var [.p (.val (.int .u64 r2)), .p (.val (.int .u64 r3))])]⟩) ?hyref01_Divide_j3 ?hxref01_Divide_j3
            case hyref01_Divide_j3 =>
              rintro bit1 H1
              try dsimp only at H1 ⊢
              unfold ref01_Divide_j3 at H1
              refine lok_rt E0 (⟨82, mkS [(2, .x (.one (.ptr 102 0))), (3, .x (.one (.ptr 103 0))), (4, .x (.one (.ptr 104 0))), (5, .x (.one (.ptr 105 0))), (6, .x (.one (.ptr 106 0))), (7, .x (.one (.ptr 107 0))), (8, .x (.one (.p (pi i)))), (9, .x (.one (.p (.val (.int .u64 bit1))))), (10, .x (.one (.p (.val (.bool ((bShr .u64 r2 (63 : Int)) == (1 : Int)))))))], mkH [(102, .var [.p (.val (.int .u64 a.Hi)), .p (.val (.int .u64 a.Lo))]), (103, .var [.p (.val (.int .u64 b.Hi)), .p (.val (.int .u64 b.Lo))]), (104, .var [.p (.val (.int .u64 (0 : Int))), .p (.val (.int .u64 (0 : Int)))]), (105, .var [.p (.val (.int .u64 (0 : Int))), .p (.val (.int .u64 (0 : Int)))]), (106, .var [.p (.val (.int .u64 q2)), .p (.val (.int .u64 q3))]), (107, .var [.p (.val (.int .u64 r2)), .p (.val (.int .u64 r3))])]⟩) ?_
              replace H1 := bind_some H1
              obtain ⟨y, h_3, H1⟩ := H1
              refine lok_rt (Env.of E0 [⟨some 58, 34, [.agg [.p (.val (.int .u64 r2)), .p (.val (.int .u64 r3))]], [], [.agg [.p (.val (.int .u64 y.Hi)), .p (.val (.int .u64 y.Lo))]], [], True, fun _ => ok_ref01_Twice (ref01_Wide.mk r2 r3) y h_3, []⟩]) (⟨82, mkS [(2, .x (.one (.ptr 102 0))), (3, .x (.one (.ptr 103 0))), (4, .x (.one (.ptr 104 0))), (5, .x (.one (.ptr 105 0))), (6, .x (.one (.ptr 106 0))), (7, .x (.one (.ptr 107 0))), (8, .x (.one (.p (pi i)))), (9, .x (.one (.p (.val (.int .u64 bit1))))), (10, .x (.one (.p (.val (.bool ((bShr .u64 r2 (63 : Int)) == (1 : Int)))))))], mkH [(102, .var [.p (.val (.int .u64 a.Hi)), .p (.val (.int .u64 a.Lo))]), (103, .var [.p (.val (.int .u64 b.Hi)), .p (.val (.int .u64 b.Lo))]), (104, .var [.p (.val (.int .u64 (0 : Int))), .p (.val (.int .u64 (0 : Int)))]), (105, .var [.p (.val (.int .u64 (0 : Int))), .p (.val (.int .u64 (0 : Int)))]), (106, .var [.p (.val (.int .u64 q2)), .p (.val (.int .u64 q3))]), (107, .var [.p (.val (.int .u64 y.Hi)), .p (.val (.int .u64 y.Lo))])]⟩) ?_
              refine lok_rt E0 (⟨82, mkS [(2, .x (.one (.ptr 102 0))), (3, .x (.one (.ptr 103 0))), (4, .x (.one (.ptr 104 0))), (5, .x (.one (.ptr 105 0))), (6, .x (.one (.ptr 106 0))), (7, .x (.one (.ptr 107 0))), (8, .x (.one (.p (pi i)))), (10, .x (.one (.p (.val (.bool ((bShr .u64 r2 (63 : Int)) == (1 : Int)))))))], mkH [(102, .var [.p (.val (.int .u64 a.Hi)), .p (.val (.int .u64 a.Lo))]), (103, .var [.p (.val (.int .u64 b.Hi)), .p (.val (.int .u64 b.Lo))]), (104, .var [.p (.val (.int .u64 (0 : Int))), .p (.val (.int .u64 (0 : Int)))]), (105, .var [.p (.val (.int .u64 (0 : Int))), .p (.val (.int .u64 (0 : Int)))]), (106, .var [.p (.val (.int .u64 q2)), .p (.val (.int .u64 q3))]), (107, .var [.p (.val (.int .u64 y.Hi)), .p (.val (.int .u64 (bOr .u64 y.Lo bit1)))])]⟩) ?_
              replace H1 := bind_some H1
              obtain ⟨y1, h_4, H1⟩ := H1
              refine lok_rt (Env.of E0 [⟨some 65, 34, [.agg [.p (.val (.int .u64 q2)), .p (.val (.int .u64 q3))]], [], [.agg [.p (.val (.int .u64 y1.Hi)), .p (.val (.int .u64 y1.Lo))]], [], True, fun _ => ok_ref01_Twice (ref01_Wide.mk q2 q3) y1 h_4, []⟩]) (⟨82, mkS [(2, .x (.one (.ptr 102 0))), (3, .x (.one (.ptr 103 0))), (4, .x (.one (.ptr 104 0))), (5, .x (.one (.ptr 105 0))), (6, .x (.one (.ptr 106 0))), (7, .x (.one (.ptr 107 0))), (8, .x (.one (.p (pi i)))), (10, .x (.one (.p (.val (.bool ((bShr .u64 r2 (63 : Int)) == (1 : Int)))))))], mkH [(102, .var [.p (.val (.int .u64 a.Hi)), .p (.val (.int .u64 a.Lo))]), (103, .var [.p (.val (.int .u64 b.Hi)), .p (.val (.int .u64 b.Lo))]), (104, .var [.p (.val (.int .u64 (0 : Int))), .p (.val (.int .u64 (0 : Int)))]), (105, .var [.p (.val (.int .u64 (0 : Int))), .p (.val (.int .u64 (0 : Int)))]), (106, .var [.p (.val (.int .u64 y1.Hi)), .p (.val (.int .u64 y1.Lo))]), (107, .var [.p (.val (.int .u64 y.Hi)), .p (.val (.int .u64 (bOr .u64 y.Lo bit1)))])]⟩) ?_
              replace H1 := req_some H1
              obtain ⟨q_7, H1⟩ := H1
              refine lok_rt (Env.of E0 [⟨some 70, 33, [.agg [.p (.val (.int .u64 y.Hi)), .p (.val (.int .u64 (bOr .u64 y.Lo bit1)))], .agg [.p (.val (.int .u64 b.Hi)), .p (.val (.int .u64 b.Lo))]], [], [.one (.p (pi ((ref01_Order (ref01_Wide.mk y.Hi (bOr .u64 y.Lo bit1)) b).getD default)))], [], (ref01_Order (ref01_Wide.mk y.Hi (bOr .u64 y.Lo bit1)) b).isSome = true, fun h => ok_ref01_Order (ref01_Wide.mk y.Hi (bOr .u64 y.Lo bit1)) b _ (isSome_get h), []⟩]) (⟨82, mkS [(2, .x (.one (.ptr 102 0))), (3, .x (.one (.ptr 103 0))), (4, .x (.one (.ptr 104 0))), (5, .x (.one (.ptr 105 0))), (6, .x (.one (.ptr 106 0))), (7, .x (.one (.ptr 107 0))), (8, .x (.one (.p (pi i)))), (72, .x (.one (.p (.val (.bool (((bShr .u64 r2 (63 : Int)) == (1 : Int)) || (decide ((0 : Int) ≤ ((ref01_Order (ref01_Wide.mk y.Hi (bOr .u64 y.Lo bit1)) b).getD default)))))))))], mkH [(102, .var [.p (.val (.int .u64 a.Hi)), .p (.val (.int .u64 a.Lo))]), (103, .var [.p (.val (.int .u64 b.Hi)), .p (.val (.int .u64 b.Lo))]), (104, .var [.p (.val (.int .u64 (0 : Int))), .p (.val (.int .u64 (0 : Int)))]), (105, .var [.p (.val (.int .u64 (0 : Int))), .p (.val (.int .u64 (0 : Int)))]), (106, .var [.p (.val (.int .u64 y1.Hi)), .p (.val (.int .u64 y1.Lo))]), (107, .var [.p (.val (.int .u64 y.Hi)), .p (.val (.int .u64 (bOr .u64 y.Lo bit1)))])]⟩) ?_
              refine lok_c (((bShr .u64 r2 (63 : Int)) == (1 : Int)) || (decide ((0 : Int) ≤ ((ref01_Order (ref01_Wide.mk y.Hi (bOr .u64 y.Lo bit1)) b).getD default)))) ?_ ?_
              · intro b_6
                replace H1 := cpos H1 b_6
                replace H1 := bind_some H1
                obtain ⟨y2, h_5, H1⟩ := H1
                refine lok_rt (Env.of E0 [⟨some 75, 55, [.agg [.p (.val (.int .u64 y.Hi)), .p (.val (.int .u64 (bOr .u64 y.Lo bit1)))], .agg [.p (.val (.int .u64 b.Hi)), .p (.val (.int .u64 b.Lo))]], [], [.agg [.p (.val (.int .u64 y2.Hi)), .p (.val (.int .u64 y2.Lo))]], [], True, fun _ => ok_ref01_Minus (ref01_Wide.mk y.Hi (bOr .u64 y.Lo bit1)) b y2 h_5, []⟩]) (⟨82, mkS [(2, .x (.one (.ptr 102 0))), (3, .x (.one (.ptr 103 0))), (4, .x (.one (.ptr 104 0))), (5, .x (.one (.ptr 105 0))), (6, .x (.one (.ptr 106 0))), (7, .x (.one (.ptr 107 0))), (8, .x (.one (.p (pi i))))], mkH [(102, .var [.p (.val (.int .u64 a.Hi)), .p (.val (.int .u64 a.Lo))]), (103, .var [.p (.val (.int .u64 b.Hi)), .p (.val (.int .u64 b.Lo))]), (104, .var [.p (.val (.int .u64 (0 : Int))), .p (.val (.int .u64 (0 : Int)))]), (105, .var [.p (.val (.int .u64 (0 : Int))), .p (.val (.int .u64 (0 : Int)))]), (106, .var [.p (.val (.int .u64 y1.Hi)), .p (.val (.int .u64 y1.Lo))]), (107, .var [.p (.val (.int .u64 y2.Hi)), .p (.val (.int .u64 y2.Lo))])]⟩) ?_
                refine lok_rl E0 (⟨82, mkS [(2, .x (.one (.ptr 102 0))), (3, .x (.one (.ptr 103 0))), (4, .x (.one (.ptr 104 0))), (5, .x (.one (.ptr 105 0))), (6, .x (.one (.ptr 106 0))), (7, .x (.one (.ptr 107 0))), (8, .x (.one (.p (pi i))))], mkH [(102, .var [.p (.val (.int .u64 a.Hi)), .p (.val (.int .u64 a.Lo))]), (103, .var [.p (.val (.int .u64 b.Hi)), .p (.val (.int .u64 b.Lo))]), (104, .var [.p (.val (.int .u64 (0 : Int))), .p (.val (.int .u64 (0 : Int)))]), (105, .var [.p (.val (.int .u64 (0 : Int))), .p (.val (.int .u64 (0 : Int)))]), (106, .var [.p (.val (.int .u64 y1.Hi)), .p (.val (.int .u64 (bOr .u64 y1.Lo (1 : Int))))]), (107, .var [.p (.val (.int .u64 y2.Hi)), .p (.val (.int .u64 y2.Lo))])]⟩) ?_
                try simp only [thenL, blockL, ↓reduceIte, reduceCtorEq]
                exact ⟨(y1.Hi, (bOr .u64 y1.Lo (1 : Int)), y2.Hi, y2.Lo), H1, imp_au⟩
              · intro b_6
                replace H1 := cneg H1 b_6
                refine lok_skip ?_
                try simp only [thenL, blockL, ↓reduceIte, reduceCtorEq]
                exact ⟨(y1.Hi, y1.Lo, y.Hi, (bOr .u64 y.Lo bit1)), H1, imp_au⟩
            case hxref01_Divide_j3 =>
              refine lok_rt E0 (⟨82, mkS [(2, .x (.one (.ptr 102 0))), (3, .x (.one (.ptr 103 0))), (4, .x (.one (.ptr 104 0))), (5, .x (.one (.ptr 105 0))), (6, .x (.one (.ptr 106 0))), (7, .x (.one (.ptr 107 0))), (8, .x (.one (.p (pi i)))), (9, .x (.one (.p (.val (.int .u64 bit))))), (45, .x (.one (.p (.val (.bool (decide ((64 : Int) ≤ i)))))))], mkH [(102, .var [.p (.val (.int .u64 a.Hi)), .p (.val (.int .u64 a.Lo))]), (103, .var [.p (.val (.int .u64 b.Hi)), .p (.val (.int .u64 b.Lo))]), (104, .var [.p (.val (.int .u64 (0 : Int))), .p (.val (.int .u64 (0 : Int)))]), (105, .var [.p (.val (.int .u64 (0 : Int))), .p (.val (.int .u64 (0 : Int)))]), (106, .var [.p (.val (.int .u64 q2)), .p (.val (.int .u64 q3))]), (107, .var [.p (.val (.int .u64 r2)), .p (.val (.int .u64 r3))])]⟩) ?_
              refine lok_c (decide ((64 : Int) ≤ i)) ?_ ?_
              · intro b_10
                replace H1 := cpos H1 b_10
                replace H1 := req_some H1
                obtain ⟨q_9, H1⟩ := H1
                replace H1 := bindV_some H1
                obtain ⟨bit2, a_8, H1⟩ := H1
                refine lok_rlg E0 a_8 (⟨82, mkS [(2, .x (.one (.ptr 102 0))), (3, .x (.one (.ptr 103 0))), (4, .x (.one (.ptr 104 0))), (5, .x (.one (.ptr 105 0))), (6, .x (.one (.ptr 106 0))), (7, .x (.one (.ptr 107 0))), (8, .x (.one (.p (pi i)))), (9, .x (.one (.p (.val (.int .u64 bit2)))))], mkH [(102, .var [.p (.val (.int .u64 a.Hi)), .p (.val (.int .u64 a.Lo))]), (103, .var [.p (.val (.int .u64 b.Hi)), .p (.val (.int .u64 b.Lo))]), (104, .var [.p (.val (.int .u64 (0 : Int))), .p (.val (.int .u64 (0 : Int)))]), (105, .var [.p (.val (.int .u64 (0 : Int))), .p (.val (.int .u64 (0 : Int)))]), (106, .var [.p (.val (.int .u64 q2)), .p (.val (.int .u64 q3))]), (107, .var [.p (.val (.int .u64 r2)), .p (.val (.int .u64 r3))])]⟩) ?_
                try simp only [thenL, blockL, ↓reduceIte, reduceCtorEq]
                exact ⟨bit2, H1, imp_au⟩
              · intro b_10
                replace H1 := cneg H1 b_10
                refine lok_skip ?_
                try simp only [thenL, blockL, ↓reduceIte, reduceCtorEq]
                exact ⟨bit, H1, imp_au⟩
        · intro b_12
          replace H1 := cneg H1 b_12
          refine lok_exit ?_
          try simp only [thenL, blockL, ↓reduceIte, reduceCtorEq]
          have e_1 := k_1 _ (Option.some.inj H1).symm
          subst e_1
          try dsimp only at H0
          try simp only [thenL, blockL, ↓reduceIte, reduceCtorEq]
          exact ⟨(q2, q3, r2, r3), H0, imp_au⟩
theorem ok_ref01_Divisor (a : ref01_Wide) (b : ref01_Wide) (r_ : ref01_Wide) (H0 : ref01_Divisor a b = some r_) : CallOK Tryd.prog 43 [.agg [.p (.val (.int .u64 a.Hi)), .p (.val (.int .u64 a.Lo))], .agg [.p (.val (.int .u64 b.Hi)), .p (.val (.int .u64 b.Lo))]] [] [.agg [.p (.val (.int .u64 r_.Hi)), .p (.val (.int .u64 r_.Lo))]] [] := by
  refine callOK (n := 19) (rs := [.cell 4 52]) (nb := 0) (V := []) Tryd.func43 rfl (by kernel_rfl) rfl rfl rfl rfl (Nat.le_of_ble_eq_true rfl) (by decide) ?_
  unfold ref01_Divisor at H0
  refine lok_rt E0 (⟨19, mkS [(2, .x (.one (.ptr 102 0))), (3, .x (.one (.ptr 103 0))), (4, .x (.one (.ptr 104 0)))], mkH [(102, .var [.p (.val (.int .u64 a.Hi)), .p (.val (.int .u64 a.Lo))]), (103, .var [.p (.val (.int .u64 b.Hi)), .p (.val (.int .u64 b.Lo))]), (104, .var [.p (.val (.int .u64 (0 : Int))), .p (.val (.int .u64 (0 : Int)))])]⟩) ?_
  refine lok_join (fun x_ : Int × Int => ref01_Divisor_j1 x_.1 x_.2 = some r_) (fun x_ => ⟨19, mkS [(2, .x (.one (.ptr 102 0))), (4, .x (.one (.ptr 104 0)))], mkH [(102, .var [.p (.val (.int .u64 x_.1)), .p (.val (.int .u64 x_.2))]), (104, .var [.p (.val (.int .u64 (0 : Int))), .p (.val (.int .u64 (0 : Int)))])]⟩) ?hyref01_Divisor_j1 ?hxref01_Divisor_j1
  case hyref01_Divisor_j1 =>
    rintro ⟨a1, a2⟩ H0
    try dsimp only at H0 ⊢
    unfold ref01_Divisor_j1 at H0
    refine lok_rt E0 (⟨19, mkS [(4, .x (.one (.ptr 104 0)))], mkH [(104, .var [.p (.val (.int .u64 a1)), .p (.val (.int .u64 a2))])]⟩) ?_
    refine lok_ret ?_
    obtain rfl := Option.some.inj H0
    try simp only [thenL, blockL]
    exact fin_au _ (.inr rfl) [] (⟨19, mkS [(4, .x (.one (.ptr 104 0)))], mkH [(104, .var [.p (.val (.int .u64 a1)), .p (.val (.int .u64 a2))])]⟩) rfl rfl imp_au
  case hxref01_Divisor_j1 =>
    refine lok_block ?_
    replace H0 := bind_some H0
    obtain ⟨v_0, hv_0, H0⟩ := H0
    refine lok_iter (fun x_ => ⟨19, mkS [(2, .x (.one (.ptr 102 0))), (3, .x (.one (.ptr 103 0))), (4, .x (.one (.ptr 104 0)))], mkH [(102, .var [.p (.val (.int .u64 x_.1)), .p (.val (.int .u64 x_.2.1))]), (103, .var [.p (.val (.int .u64 x_.2.2.1)), .p (.val (.int .u64 x_.2.2.2))]), (104, .var [.p (.val (.int .u64 (0 : Int))), .p (.val (.int .u64 (0 : Int)))])]⟩) hv_0 imp_au ?_
    · rintro ⟨a3, a4, b1, b2⟩ o_1 H1 k_1
      unfold ref01_Divisor_l2 at H1
      try dsimp only at H1 ⊢
      refine lok_seq ?_
      refine lok_rt E0 (⟨19, mkS [(2, .x (.one (.ptr 102 0))), (3, .x (.one (.ptr 103 0))), (4, .x (.one (.ptr 104 0))), (9, .x (.one (.p (.val (.bool (!((b1 == (0 : Int)) && (b2 == (0 : Int)))))))))], mkH [(102, .var [.p (.val (.int .u64 a3)), .p (.val (.int .u64 a4))]), (103, .var [.p (.val (.int .u64 b1)), .p (.val (.int .u64 b2))]), (104, .var [.p (.val (.int .u64 (0 : Int))), .p (.val (.int .u64 (0 : Int)))])]⟩) ?_
      refine lok_c (!((b1 == (0 : Int)) && (b2 == (0 : Int)))) ?_ ?_
      · intro b_2
        replace H1 := cpos H1 b_2
        refine lok_skip ?_
        try simp only [thenL, blockL, ↓reduceIte, reduceCtorEq]
        refine lok_block ?_
        replace H1 := bind_some H1
        obtain ⟨⟨y, y1⟩, h_1, H1⟩ := H1
        try dsimp only at H1
        refine lok_rt (Env.of E0 [⟨some 13, 31, [.agg [.p (.val (.int .u64 a3)), .p (.val (.int .u64 a4))], .agg [.p (.val (.int .u64 b1)), .p (.val (.int .u64 b2))]], [], [.agg [.p (.val (.int .u64 y.Hi)), .p (.val (.int .u64 y.Lo))], .agg [.p (.val (.int .u64 y1.Hi)), .p (.val (.int .u64 y1.Lo))]], [], True, fun _ => ok_ref01_Divide (ref01_Wide.mk a3 a4) (ref01_Wide.mk b1 b2) (y, y1) h_1, []⟩]) (⟨19, mkS [(2, .x (.one (.ptr 102 0))), (3, .x (.one (.ptr 103 0))), (4, .x (.one (.ptr 104 0))), (6, .x (.one (.ptr 106 0)))], mkH [(102, .var [.p (.val (.int .u64 a3)), .p (.val (.int .u64 a4))]), (103, .var [.p (.val (.int .u64 b1)), .p (.val (.int .u64 b2))]), (104, .var [.p (.val (.int .u64 (0 : Int))), .p (.val (.int .u64 (0 : Int)))]), (106, .var [.p (.val (.int .u64 y1.Hi)), .p (.val (.int .u64 y1.Lo))])]⟩) ?_
        refine lok_el E0 19 [⟨[(3, .x (.one (.ptr 103 0)))], [(103, some (.var [.p (.val (.int .u64 b1)), .p (.val (.int .u64 b2))]))], [(16, .x (.agg [.p (.val (.int .u64 b1)), .p (.val (.int .u64 b2))]))], [], none⟩,
      ⟨[(6, .x (.one (.ptr 106 0)))], [(106, some (.var [.p (.val (.int .u64 y1.Hi)), .p (.val (.int .u64 y1.Lo))]))], [(17, .x (.agg [.p (.val (.int .u64 y1.Hi)), .p (.val (.int .u64 y1.Lo))]))], [], none⟩,
      ⟨[(2, .x (.one (.ptr 102 0))), (16, .x (.agg [.p (.val (.int .u64 b1)), .p (.val (.int .u64 b2))]))], [(102, some (.var [.p (.val (.int .u64 a3)), .p (.val (.int .u64 a4))]))], [], [(102, some (.var [.p (.val (.int .u64 b1)), .p (.val (.int .u64 b2))]))], none⟩] (⟨19, mkS [(2, .x (.one (.ptr 102 0))), (3, .x (.one (.ptr 103 0))), (4, .x (.one (.ptr 104 0)))], mkH [(102, .var [.p (.val (.int .u64 b1)), .p (.val (.int .u64 b2))]), (103, .var [.p (.val (.int .u64 y1.Hi)), .p (.val (.int .u64 y1.Lo))]), (104, .var [.p (.val (.int .u64 (0 : Int))), .p (.val (.int .u64 (0 : Int)))])]⟩) (by kernel_rfl) (by kernel_rfl) (by kernel_rfl) rfl rfl rfl ?_
        try simp only [thenL, blockL, ↓reduceIte, reduceCtorEq]
        exact ⟨(b1, b2, y1.Hi, y1.Lo), (Option.some.inj H1).symm, imp_au⟩
      · intro b_2
        replace H1 := cneg H1 b_2
        refine lok_exit ?_
        try simp only [thenL, blockL, ↓reduceIte, reduceCtorEq]
        have e_1 := k_1 _ (Option.some.inj H1).symm
        subst e_1
        try dsimp only at H0
        try simp only [thenL, blockL, ↓reduceIte, reduceCtorEq]
        exact ⟨(a3, a4), H0, imp_au⟩
theorem ok_ref01_Valid (a : api_Ratio) (r_ : Bool) (H0 : ref01_Valid a = some r_) : CallOK Tryd.prog 15 [.agg [.p (pi a.Num), .p (pi a.Den)]] [] [.one (.p (.val (.bool r_)))] [] := by
  refine callOK (n := 32) (rs := [.tmp 2]) (nb := 0) (V := []) Tryd.func15 rfl (by kernel_rfl) rfl rfl rfl rfl (Nat.le_of_ble_eq_true rfl) (by decide) ?_
  unfold ref01_Valid at H0
  refine lok_rt E0 (⟨32, mkS [(1, .x (.one (.ptr 101 0)))], mkH [(101, .var [.p (pi a.Num), .p (pi a.Den)])]⟩) ?_
  refine lok_seq ?_
  refine lok_rt E0 (⟨32, mkS [(1, .x (.one (.ptr 101 0))), (20, .x (.one (.p (.val (.bool ((((decide (a.Den < (1 : Int))) || (decide ((1152921504606846976 : Int) < a.Den))) || (decide (a.Num < (-1152921504606846976 : Int)))) || (decide ((1152921504606846976 : Int) < a.Num))))))))], mkH [(101, .var [.p (pi a.Num), .p (pi a.Den)])]⟩) ?_
  refine lok_c ((((decide (a.Den < (1 : Int))) || (decide ((1152921504606846976 : Int) < a.Den))) || (decide (a.Num < (-1152921504606846976 : Int)))) || (decide ((1152921504606846976 : Int) < a.Num))) ?_ ?_
  · intro b_3
    replace H0 := cpos H0 b_3
    refine lok_rt E0 (⟨32, mkS [(2, .x (.one (.p (.val (.bool false)))))], mkH []⟩) ?_
    refine lok_ret ?_
    obtain rfl := Option.some.inj H0
    try simp only [thenL, blockL]
    exact fin_au _ (.inr rfl) [] (⟨32, mkS [(2, .x (.one (.p (.val (.bool false)))))], mkH []⟩) rfl rfl imp_au
  · intro b_3
    replace H0 := cneg H0 b_3
    refine lok_skip ?_
    try simp only [thenL, blockL, ↓reduceIte, reduceCtorEq]
    replace H0 := bind_some H0
    obtain ⟨y, h_0, H0⟩ := H0
    replace H0 := bind_some H0
    obtain ⟨y1, h_1, H0⟩ := H0
    replace H0 := bind_some H0
    obtain ⟨y2, h_2, H0⟩ := H0
    refine lok_dt (Env.of E0 [⟨some 23, 30, [.one (.p (pi a.Num))], [], [.one (.p (.val (.int .u64 y)))], [], True, fun _ => ok_ref01_Size a.Num y h_0, []⟩,
      ⟨some 27, 30, [.one (.p (pi a.Den))], [], [.one (.p (.val (.int .u64 y1)))], [], True, fun _ => ok_ref01_Size a.Den y1 h_1, []⟩,
      ⟨some 29, 43, [.agg [.p (.val (.int .u64 (0 : Int))), .p (.val (.int .u64 y))], .agg [.p (.val (.int .u64 (0 : Int))), .p (.val (.int .u64 y1))]], [], [.agg [.p (.val (.int .u64 y2.Hi)), .p (.val (.int .u64 y2.Lo))]], [], True, fun _ => ok_ref01_Divisor (ref01_Wide.mk (0 : Int) y) (ref01_Wide.mk (0 : Int) y1) y2 h_2, []⟩]) 10 (⟨32, mkS [(2, .x (.one (.p (.val (.bool ((y2.Hi == (0 : Int)) && (y2.Lo == (1 : Int))))))))], mkH []⟩) (by kernel_rfl) (by kernel_rfl) ?_
    refine lok_ret ?_
    obtain rfl := Option.some.inj H0
    try simp only [thenL, blockL]
    exact fin_au _ (.inr rfl) [] (⟨32, mkS [(2, .x (.one (.p (.val (.bool ((y2.Hi == (0 : Int)) && (y2.Lo == (1 : Int))))))))], mkH []⟩) rfl rfl imp_au
theorem ok_bits_Mul64 (x : Int) (y : Int) (r_ : Int × Int) (H0 : bits_Mul64 x y = some r_) : CallOK Tryd.prog 51 [.one (.p (.val (.int .u64 x))), .one (.p (.val (.int .u64 y)))] [] [.one (.p (.val (.int .u64 r_.1))), .one (.p (.val (.int .u64 r_.2)))] [] := by
  refine callOK (n := 51) (rs := [.tmp 4, .tmp 5]) (nb := 0) (V := []) Tryd.func51 rfl (by kernel_rfl) rfl rfl rfl rfl (Nat.le_of_ble_eq_true rfl) (by decide) ?_
  unfold bits_Mul64 at H0
  refine lok_rt E0 (⟨51, mkS [(0, .x (.one (.p (.val (.int .u64 x))))), (1, .x (.one (.p (.val (.int .u64 y)))))], mkH []⟩) ?_
  refine lok_rt E0 (⟨51, mkS [(0, .x (.one (.p (.val (.int .u64 x))))), (1, .x (.one (.p (.val (.int .u64 y))))), (6, .x (.one (.p (.val (.int .u64 (bAnd .u64 x (4294967295 : Int)))))))], mkH []⟩) ?_
  refine lok_rt E0 (⟨51, mkS [(0, .x (.one (.p (.val (.int .u64 x))))), (1, .x (.one (.p (.val (.int .u64 y))))), (6, .x (.one (.p (.val (.int .u64 (bAnd .u64 x (4294967295 : Int))))))), (7, .x (.one (.p (.val (.int .u64 (bShr .u64 x (32 : Int)))))))], mkH []⟩) ?_
  refine lok_rt E0 (⟨51, mkS [(0, .x (.one (.p (.val (.int .u64 x))))), (1, .x (.one (.p (.val (.int .u64 y))))), (6, .x (.one (.p (.val (.int .u64 (bAnd .u64 x (4294967295 : Int))))))), (7, .x (.one (.p (.val (.int .u64 (bShr .u64 x (32 : Int))))))), (8, .x (.one (.p (.val (.int .u64 (bAnd .u64 y (4294967295 : Int)))))))], mkH []⟩) ?_
  refine lok_rt E0 (⟨51, mkS [(0, .x (.one (.p (.val (.int .u64 x))))), (1, .x (.one (.p (.val (.int .u64 y))))), (6, .x (.one (.p (.val (.int .u64 (bAnd .u64 x (4294967295 : Int))))))), (7, .x (.one (.p (.val (.int .u64 (bShr .u64 x (32 : Int))))))), (8, .x (.one (.p (.val (.int .u64 (bAnd .u64 y (4294967295 : Int))))))), (9, .x (.one (.p (.val (.int .u64 (bShr .u64 y (32 : Int)))))))], mkH []⟩) ?_
  replace H0 := bindV_some H0
  obtain ⟨w0, a_0, H0⟩ := H0
  refine lok_rtg E0 a_0 (⟨51, mkS [(0, .x (.one (.p (.val (.int .u64 x))))), (1, .x (.one (.p (.val (.int .u64 y))))), (6, .x (.one (.p (.val (.int .u64 (bAnd .u64 x (4294967295 : Int))))))), (7, .x (.one (.p (.val (.int .u64 (bShr .u64 x (32 : Int))))))), (8, .x (.one (.p (.val (.int .u64 (bAnd .u64 y (4294967295 : Int))))))), (9, .x (.one (.p (.val (.int .u64 (bShr .u64 y (32 : Int))))))), (10, .x (.one (.p (.val (.int .u64 w0)))))], mkH []⟩) ?_
  replace H0 := bindV_some H0
  obtain ⟨t, a_1, H0⟩ := H0
  refine lok_rtg E0 a_1 (⟨51, mkS [(0, .x (.one (.p (.val (.int .u64 x))))), (1, .x (.one (.p (.val (.int .u64 y))))), (6, .x (.one (.p (.val (.int .u64 (bAnd .u64 x (4294967295 : Int))))))), (7, .x (.one (.p (.val (.int .u64 (bShr .u64 x (32 : Int))))))), (9, .x (.one (.p (.val (.int .u64 (bShr .u64 y (32 : Int))))))), (11, .x (.one (.p (.val (.int .u64 t)))))], mkH []⟩) ?_
  refine lok_rt E0 (⟨51, mkS [(0, .x (.one (.p (.val (.int .u64 x))))), (1, .x (.one (.p (.val (.int .u64 y))))), (6, .x (.one (.p (.val (.int .u64 (bAnd .u64 x (4294967295 : Int))))))), (7, .x (.one (.p (.val (.int .u64 (bShr .u64 x (32 : Int))))))), (9, .x (.one (.p (.val (.int .u64 (bShr .u64 y (32 : Int))))))), (11, .x (.one (.p (.val (.int .u64 t))))), (12, .x (.one (.p (.val (.int .u64 (bAnd .u64 t (4294967295 : Int)))))))], mkH []⟩) ?_
  refine lok_rt E0 (⟨51, mkS [(0, .x (.one (.p (.val (.int .u64 x))))), (1, .x (.one (.p (.val (.int .u64 y))))), (6, .x (.one (.p (.val (.int .u64 (bAnd .u64 x (4294967295 : Int))))))), (7, .x (.one (.p (.val (.int .u64 (bShr .u64 x (32 : Int))))))), (9, .x (.one (.p (.val (.int .u64 (bShr .u64 y (32 : Int))))))), (12, .x (.one (.p (.val (.int .u64 (bAnd .u64 t (4294967295 : Int))))))), (13, .x (.one (.p (.val (.int .u64 (bShr .u64 t (32 : Int)))))))], mkH []⟩) ?_
  replace H0 := bindV_some H0
  obtain ⟨w1, a_2, H0⟩ := H0
  refine lok_rtg E0 a_2 (⟨51, mkS [(0, .x (.one (.p (.val (.int .u64 x))))), (1, .x (.one (.p (.val (.int .u64 y))))), (7, .x (.one (.p (.val (.int .u64 (bShr .u64 x (32 : Int))))))), (9, .x (.one (.p (.val (.int .u64 (bShr .u64 y (32 : Int))))))), (12, .x (.one (.p (.val (.int .u64 w1))))), (13, .x (.one (.p (.val (.int .u64 (bShr .u64 t (32 : Int)))))))], mkH []⟩) ?_
  replace H0 := bindV_some H0
  obtain ⟨hi, a_3, H0⟩ := H0
  refine lok_rtg E0 a_3 (⟨51, mkS [(0, .x (.one (.p (.val (.int .u64 x))))), (1, .x (.one (.p (.val (.int .u64 y))))), (4, .x (.one (.p (.val (.int .u64 hi)))))], mkH []⟩) ?_
  refine lok_rt E0 (⟨51, mkS [(4, .x (.one (.p (.val (.int .u64 hi))))), (5, .x (.one (.p (.val (.int .u64 (IntKind.u64.wrap (x * y)))))))], mkH []⟩) ?_
  refine lok_ret ?_
  obtain rfl := Option.some.inj H0
  try simp only [thenL, blockL]
  exact fin_au _ (.inr rfl) [] (⟨51, mkS [(4, .x (.one (.p (.val (.int .u64 hi))))), (5, .x (.one (.p (.val (.int .u64 (IntKind.u64.wrap (x * y)))))))], mkH []⟩) rfl rfl imp_au
theorem ok_ref01_Product (a : Int) (b : Int) (r_ : ref01_Wide) (H0 : ref01_Product a b = some r_) : CallOK Tryd.prog 32 [.one (.p (.val (.int .u64 a))), .one (.p (.val (.int .u64 b)))] [] [.agg [.p (.val (.int .u64 r_.Hi)), .p (.val (.int .u64 r_.Lo))]] [] := by
  refine callOK (n := 16) (rs := [.cell 4 52]) (nb := 0) (V := []) Tryd.func32 rfl (by kernel_rfl) rfl rfl rfl rfl (Nat.le_of_ble_eq_true rfl) (by decide) ?_
  unfold ref01_Product at H0
  refine lok_rt E0 (⟨16, mkS [(0, .x (.one (.p (.val (.int .u64 a))))), (1, .x (.one (.p (.val (.int .u64 b))))), (4, .x (.one (.ptr 104 0)))], mkH [(104, .var [.p (.val (.int .u64 (0 : Int))), .p (.val (.int .u64 (0 : Int)))])]⟩) ?_
  replace H0 := bind_some H0
  obtain ⟨⟨y, y1⟩, h_0, H0⟩ := H0
  try dsimp only at H0
  refine lok_rt (Env.of E0 [⟨some 10, 51, [.one (.p (.val (.int .u64 a))), .one (.p (.val (.int .u64 b)))], [], [.one (.p (.val (.int .u64 y))), .one (.p (.val (.int .u64 y1)))], [], True, fun _ => ok_bits_Mul64 a b (y, y1) h_0, []⟩]) (⟨16, mkS [(4, .x (.one (.ptr 104 0))), (5, .x (.one (.p (.val (.int .u64 y))))), (6, .x (.one (.p (.val (.int .u64 y1)))))], mkH [(104, .var [.p (.val (.int .u64 (0 : Int))), .p (.val (.int .u64 (0 : Int)))])]⟩) ?_
  refine lok_rt E0 (⟨16, mkS [(4, .x (.one (.ptr 104 0)))], mkH [(104, .var [.p (.val (.int .u64 y)), .p (.val (.int .u64 y1))])]⟩) ?_
  refine lok_ret ?_
  obtain rfl := Option.some.inj H0
  try simp only [thenL, blockL]
  exact fin_au _ (.inr rfl) [] (⟨16, mkS [(4, .x (.one (.ptr 104 0)))], mkH [(104, .var [.p (.val (.int .u64 y)), .p (.val (.int .u64 y1))])]⟩) rfl rfl imp_au
theorem ok_bits_Add64 (x y carry : Int) (r_ : Int × Int) (H0 : bits_Add64 x y carry = some r_) : CallOK Tryd.prog 56 [.int .u64 x, .int .u64 y, .int .u64 carry] [] [.int .u64 r_.1, .int .u64 r_.2] [] :=
  okAdd64 Tryd.func56 (by kernel_rfl) (by kernel_rfl) (by kernel_rfl) (by kernel_rfl) _ _ _ r_ H0
theorem ok_ref01_Plus (a : ref01_Wide) (b : ref01_Wide) (r_ : ref01_Wide) (H0 : ref01_Plus a b = some r_) : CallOK Tryd.prog 35 [.agg [.p (.val (.int .u64 a.Hi)), .p (.val (.int .u64 a.Lo))], .agg [.p (.val (.int .u64 b.Hi)), .p (.val (.int .u64 b.Lo))]] [] [.agg [.p (.val (.int .u64 r_.Hi)), .p (.val (.int .u64 r_.Lo))]] [] := by
  refine callOK (n := 29) (rs := [.cell 4 52]) (nb := 0) (V := []) Tryd.func35 rfl (by kernel_rfl) rfl rfl rfl rfl (Nat.le_of_ble_eq_true rfl) (by decide) ?_
  unfold ref01_Plus at H0
  refine lok_rt E0 (⟨29, mkS [(2, .x (.one (.ptr 102 0))), (3, .x (.one (.ptr 103 0))), (4, .x (.one (.ptr 104 0)))], mkH [(102, .var [.p (.val (.int .u64 a.Hi)), .p (.val (.int .u64 a.Lo))]), (103, .var [.p (.val (.int .u64 b.Hi)), .p (.val (.int .u64 b.Lo))]), (104, .var [.p (.val (.int .u64 (0 : Int))), .p (.val (.int .u64 (0 : Int)))])]⟩) ?_
  replace H0 := bind_some H0
  obtain ⟨⟨y, y1⟩, h_0, H0⟩ := H0
  try dsimp only at H0
  refine lok_rt (Env.of E0 [⟨some 14, 56, [.one (.p (.val (.int .u64 a.Lo))), .one (.p (.val (.int .u64 b.Lo))), .one (.p (.val (.int .u64 (0 : Int))))], [], [.one (.p (.val (.int .u64 y))), .one (.p (.val (.int .u64 y1)))], [], True, fun _ => ok_bits_Add64 a.Lo b.Lo (0 : Int) (y, y1) h_0, []⟩]) (⟨29, mkS [(2, .x (.one (.ptr 102 0))), (3, .x (.one (.ptr 103 0))), (4, .x (.one (.ptr 104 0))), (5, .x (.one (.p (.val (.int .u64 y))))), (6, .x (.one (.p (.val (.int .u64 y1)))))], mkH [(102, .var [.p (.val (.int .u64 a.Hi)), .p (.val (.int .u64 a.Lo))]), (103, .var [.p (.val (.int .u64 b.Hi)), .p (.val (.int .u64 b.Lo))]), (104, .var [.p (.val (.int .u64 (0 : Int))), .p (.val (.int .u64 (0 : Int)))])]⟩) ?_
  replace H0 := bind_some H0
  obtain ⟨⟨y2, y3⟩, h_1, H0⟩ := H0
  try dsimp only at H0
  refine lok_rt (Env.of E0 [⟨some 23, 56, [.one (.p (.val (.int .u64 a.Hi))), .one (.p (.val (.int .u64 b.Hi))), .one (.p (.val (.int .u64 y1)))], [], [.one (.p (.val (.int .u64 y2))), .one (.p (.val (.int .u64 y3)))], [], True, fun _ => ok_bits_Add64 a.Hi b.Hi y1 (y2, y3) h_1, []⟩]) (⟨29, mkS [(4, .x (.one (.ptr 104 0))), (5, .x (.one (.p (.val (.int .u64 y))))), (7, .x (.one (.p (.val (.int .u64 y2)))))], mkH [(104, .var [.p (.val (.int .u64 (0 : Int))), .p (.val (.int .u64 (0 : Int)))])]⟩) ?_
  refine lok_rt E0 (⟨29, mkS [(4, .x (.one (.ptr 104 0)))], mkH [(104, .var [.p (.val (.int .u64 y2)), .p (.val (.int .u64 y))])]⟩) ?_
  refine lok_ret ?_
  obtain rfl := Option.some.inj H0
  try simp only [thenL, blockL]
  exact fin_au _ (.inr rfl) [] (⟨29, mkS [(4, .x (.one (.ptr 104 0)))], mkH [(104, .var [.p (.val (.int .u64 y2)), .p (.val (.int .u64 y))])]⟩) rfl rfl imp_au
theorem ok_ref01_Digits (n : ref01_Wide) (r_ : Str) (H0 : ref01_Digits n = some r_) : CallOK Tryd.prog 36 [.agg [.p (.val (.int .u64 n.Hi)), .p (.val (.int .u64 n.Lo))]] [] [.one (.p (.val (.string (bs r_))))] [] := by
  refine callOK (n := 25) (rs := [.tmp 2]) (nb := 0) (V := []) Tryd.func36 rfl (by kernel_rfl) rfl rfl rfl rfl (Nat.le_of_ble_eq_true rfl) (by decide) ?_
  unfold ref01_Digits at H0
  refine lok_rt E0 (⟨25, mkS [(1, .x (.one (.ptr 101 0)))], mkH [(101, .var [.p (.val (.int .u64 n.Hi)), .p (.val (.int .u64 n.Lo))])]⟩) ?_
  refine lok_rt E0 (⟨25, mkS [(1, .x (.one (.ptr 101 0))), (3, .x (.one (.p (.val (.string (bs ([] : Str)))))))], mkH [(101, .var [.p (.val (.int .u64 n.Hi)), .p (.val (.int .u64 n.Lo))])]⟩) ?_
  refine lok_block ?_
  have hv_0 := H0
  refine lok_iter (fun x_ => ⟨25, mkS [(1, .x (.one (.ptr 101 0))), (3, .x (.one (.p (.val (.string (bs x_.1))))))], mkH [(101, .var [.p (.val (.int .u64 x_.2.1)), .p (.val (.int .u64 x_.2.2))])]⟩) hv_0 imp_au ?_
  · rintro ⟨s, n1, n2⟩ o_1 H1 k_1
    unfold ref01_Digits_l1 at H1
    try dsimp only at H1 ⊢
    refine lok_block ?_
    replace H1 := bind_some H1
    obtain ⟨⟨y, y1⟩, h_1, H1⟩ := H1
    try dsimp only at H1
    refine lok_rt (Env.of E0 [⟨some 9, 31, [.agg [.p (.val (.int .u64 n1)), .p (.val (.int .u64 n2))], .agg [.p (.val (.int .u64 (0 : Int))), .p (.val (.int .u64 (10 : Int)))]], [], [.agg [.p (.val (.int .u64 y.Hi)), .p (.val (.int .u64 y.Lo))], .agg [.p (.val (.int .u64 y1.Hi)), .p (.val (.int .u64 y1.Lo))]], [], True, fun _ => ok_ref01_Divide (ref01_Wide.mk n1 n2) (ref01_Wide.mk (0 : Int) (10 : Int)) (y, y1) h_1, []⟩]) (⟨25, mkS [(1, .x (.one (.ptr 101 0))), (3, .x (.one (.p (.val (.string (bs s)))))), (4, .x (.one (.ptr 104 0))), (5, .x (.one (.ptr 105 0)))], mkH [(101, .var [.p (.val (.int .u64 n1)), .p (.val (.int .u64 n2))]), (104, .var [.p (.val (.int .u64 y.Hi)), .p (.val (.int .u64 y.Lo))]), (105, .var [.p (.val (.int .u64 y1.Hi)), .p (.val (.int .u64 y1.Lo))])]⟩) ?_
    replace H1 := req_some H1
    obtain ⟨q_4, H1⟩ := H1
    replace H1 := bindV_some H1
    obtain ⟨s1, a_2, H1⟩ := H1
    refine lok_rtg E0 a_2 (⟨25, mkS [(1, .x (.one (.ptr 101 0))), (3, .x (.one (.p (.val (.string (bs s1)))))), (4, .x (.one (.ptr 104 0)))], mkH [(101, .var [.p (.val (.int .u64 n1)), .p (.val (.int .u64 n2))]), (104, .var [.p (.val (.int .u64 y.Hi)), .p (.val (.int .u64 y.Lo))])]⟩) ?_
    refine lok_rt E0 (⟨25, mkS [(1, .x (.one (.ptr 101 0))), (3, .x (.one (.p (.val (.string (bs s1))))))], mkH [(101, .var [.p (.val (.int .u64 y.Hi)), .p (.val (.int .u64 y.Lo))])]⟩) ?_
    refine lok_rt E0 (⟨25, mkS [(1, .x (.one (.ptr 101 0))), (3, .x (.one (.p (.val (.string (bs s1)))))), (23, .x (.one (.p (.val (.bool ((y.Hi == (0 : Int)) && (y.Lo == (0 : Int))))))))], mkH [(101, .var [.p (.val (.int .u64 y.Hi)), .p (.val (.int .u64 y.Lo))])]⟩) ?_
    refine lok_c ((y.Hi == (0 : Int)) && (y.Lo == (0 : Int))) ?_ ?_
    · intro b_3
      replace H1 := cpos H1 b_3
      refine lok_rt E0 (⟨25, mkS [(2, .x (.one (.p (.val (.string (bs s1))))))], mkH []⟩) ?_
      refine lok_ret ?_
      try simp only [thenL, blockL, ↓reduceIte, reduceCtorEq]
      have e_1 := k_1 _ (Option.some.inj H1).symm
      subst e_1
      try dsimp only at H0
      try obtain rfl := Option.some.inj H0
      try simp only [thenL, blockL]
      exact fin_au _ (.inr rfl) [] (⟨25, mkS [(2, .x (.one (.p (.val (.string (bs s1))))))], mkH []⟩) rfl rfl imp_au
    · intro b_3
      replace H1 := cneg H1 b_3
      refine lok_skip ?_
      try simp only [thenL, blockL, ↓reduceIte, reduceCtorEq]
      exact ⟨(s1, y.Hi, y.Lo), (Option.some.inj H1).symm, imp_au⟩
set_option maxHeartbeats 4000000 in
theorem ok_ref01_Decimal (a : api_Ratio) (digits : Int) (r_ : Str) (H0 : ref01_Decimal a digits = some r_) : CallOK Tryd.prog 10 [.agg [.p (pi a.Num), .p (pi a.Den)], .one (.p (pi digits))] [] [.one (.p (.val (.string (bs r_))))] [] := by
  refine callOK (n := 99) (rs := [.tmp 4]) (nb := 0) (V := []) Tryd.func10 rfl (by kernel_rfl) rfl rfl rfl rfl (Nat.le_of_ble_eq_true rfl) (by decide) ?_
  unfold ref01_Decimal at H0
  refine lok_rt E0 (⟨99, mkS [(1, .x (.one (.p (pi digits)))), (2, .x (.one (.ptr 102 0)))], mkH [(102, .var [.p (pi a.Num), .p (pi a.Den)])]⟩) ?_
  refine lok_seq ?_
  replace H0 := bind_some H0
  obtain ⟨y, h_0, H0⟩ := H0
  refine lok_rt (Env.of E0 [⟨some 13, 15, [.agg [.p (pi a.Num), .p (pi a.Den)]], [], [.one (.p (.val (.bool y)))], [], True, fun _ => ok_ref01_Valid a y h_0, []⟩]) (⟨99, mkS [(1, .x (.one (.p (pi digits)))), (2, .x (.one (.ptr 102 0))), (22, .x (.one (.p (.val (.bool (((!y) || (decide (digits < (0 : Int)))) || (decide ((9 : Int) < digits))))))))], mkH [(102, .var [.p (pi a.Num), .p (pi a.Den)])]⟩) ?_
  refine lok_c (((!y) || (decide (digits < (0 : Int)))) || (decide ((9 : Int) < digits))) ?_ ?_
  · intro b_22
    replace H0 := cpos H0 b_22
    refine lok_rt E0 (⟨99, mkS [(4, .x (.one (.p (.val (.string (bs ([] : Str)))))))], mkH []⟩) ?_
    refine lok_ret ?_
    obtain rfl := Option.some.inj H0
    try simp only [thenL, blockL]
    exact fin_au _ (.inr rfl) [] (⟨99, mkS [(4, .x (.one (.p (.val (.string (bs ([] : Str)))))))], mkH []⟩) rfl rfl imp_au
  · intro b_22
    replace H0 := cneg H0 b_22
    refine lok_skip ?_
    try simp only [thenL, blockL, ↓reduceIte, reduceCtorEq]
    refine lok_rt E0 (⟨99, mkS [(1, .x (.one (.p (pi digits)))), (2, .x (.one (.ptr 102 0))), (5, .x (.one (.p (.val (.int .u64 (1 : Int))))))], mkH [(102, .var [.p (pi a.Num), .p (pi a.Den)])]⟩) ?_
    refine lok_join (fun x_ : Int => ref01_Decimal_j6 a digits x_ = some r_) (fun x_ => ⟨99, mkS [(1, .x (.one (.p (pi digits)))), (2, .x (.one (.ptr 102 0))), (5, .x (.one (.p (.val (.int .u64 x_)))))], mkH [(102, .var [.p (pi a.Num), .p (pi a.Den)])]⟩) ?hyref01_Decimal_j6 ?hxref01_Decimal_j6
    case hyref01_Decimal_j6 =>
      rintro ten H0
      try dsimp only at H0 ⊢
      unfold ref01_Decimal_j6 at H0
      replace H0 := bind_some H0
      obtain ⟨y1, h_1, H0⟩ := H0
      refine lok_rt (Env.of E0 [⟨some 32, 30, [.one (.p (pi a.Den))], [], [.one (.p (.val (.int .u64 y1)))], [], True, fun _ => ok_ref01_Size a.Den y1 h_1, []⟩]) (⟨99, mkS [(1, .x (.one (.p (pi digits)))), (2, .x (.one (.ptr 102 0))), (5, .x (.one (.p (.val (.int .u64 ten))))), (7, .x (.one (.ptr 107 0)))], mkH [(102, .var [.p (pi a.Num), .p (pi a.Den)]), (107, .var [.p (.val (.int .u64 (0 : Int))), .p (.val (.int .u64 y1))])]⟩) ?_
      replace H0 := bind_some H0
      obtain ⟨y2, h_2, H0⟩ := H0
      replace H0 := bind_some H0
      obtain ⟨y3, h_3, H0⟩ := H0
      replace H0 := bind_some H0
      obtain ⟨⟨y4, y5⟩, h_4, H0⟩ := H0
      try dsimp only at H0
      refine lok_et (Env.of E0 [⟨some 37, 30, [.one (.p (pi a.Num))], [], [.one (.p (.val (.int .u64 y2)))], [], True, fun _ => ok_ref01_Size a.Num y2 h_2, []⟩,
      ⟨some 39, 32, [.one (.p (.val (.int .u64 y2))), .one (.p (.val (.int .u64 ten)))], [], [.agg [.p (.val (.int .u64 y3.Hi)), .p (.val (.int .u64 y3.Lo))]], [], True, fun _ => ok_ref01_Product y2 ten y3 h_3, []⟩,
      ⟨some 41, 31, [.agg [.p (.val (.int .u64 y3.Hi)), .p (.val (.int .u64 y3.Lo))], .agg [.p (.val (.int .u64 (0 : Int))), .p (.val (.int .u64 y1))]], [], [.agg [.p (.val (.int .u64 y4.Hi)), .p (.val (.int .u64 y4.Lo))], .agg [.p (.val (.int .u64 y5.Hi)), .p (.val (.int .u64 y5.Lo))]], [], True, fun _ => ok_ref01_Divide y3 (ref01_Wide.mk (0 : Int) y1) (y4, y5) h_4, []⟩]) 99 [⟨[(2, .x (.one (.ptr 102 0)))], [], [(35, .x (.one (.ptr 102 0)))], [], none⟩,
      ⟨[(35, .x (.one (.ptr 102 0)))], [(102, some (.var [.p (pi a.Num), .p (pi a.Den)]))], [(36, .x (.one (.p (pi a.Num))))], [], none⟩,
      ⟨[(36, .x (.one (.p (pi a.Num))))], [], [(37, .x (.one (.p (.val (.int .u64 y2)))))], [], none⟩,
      ⟨[(5, .x (.one (.p (.val (.int .u64 ten)))))], [], [(38, .x (.one (.p (.val (.int .u64 ten)))))], [], none⟩,
      ⟨[(37, .x (.one (.p (.val (.int .u64 y2))))), (38, .x (.one (.p (.val (.int .u64 ten)))))], [], [(39, .x (.agg [.p (.val (.int .u64 y3.Hi)), .p (.val (.int .u64 y3.Lo))]))], [], none⟩,
      ⟨[(7, .x (.one (.ptr 107 0)))], [(107, some (.var [.p (.val (.int .u64 (0 : Int))), .p (.val (.int .u64 y1))]))], [(40, .x (.agg [.p (.val (.int .u64 (0 : Int))), .p (.val (.int .u64 y1))]))], [], none⟩,
      ⟨[(39, .x (.agg [.p (.val (.int .u64 y3.Hi)), .p (.val (.int .u64 y3.Lo))])), (40, .x (.agg [.p (.val (.int .u64 (0 : Int))), .p (.val (.int .u64 y1))]))], [], [(41, .tup [.agg [.p (.val (.int .u64 y4.Hi)), .p (.val (.int .u64 y4.Lo))], .agg [.p (.val (.int .u64 y5.Hi)), .p (.val (.int .u64 y5.Lo))]])], [], none⟩,
      ⟨[(41, .tup [.agg [.p (.val (.int .u64 y4.Hi)), .p (.val (.int .u64 y4.Lo))], .agg [.p (.val (.int .u64 y5.Hi)), .p (.val (.int .u64 y5.Lo))]])], [], [(34, .tup [.agg [.p (.val (.int .u64 y4.Hi)), .p (.val (.int .u64 y4.Lo))], .agg [.p (.val (.int .u64 y5.Hi)), .p (.val (.int .u64 y5.Lo))]])], [], none⟩,
      ⟨[(34, .tup [.agg [.p (.val (.int .u64 y4.Hi)), .p (.val (.int .u64 y4.Lo))], .agg [.p (.val (.int .u64 y5.Hi)), .p (.val (.int .u64 y5.Lo))]])], [], [(42, .x (.agg [.p (.val (.int .u64 y4.Hi)), .p (.val (.int .u64 y4.Lo))]))], [], none⟩,
      ⟨[(34, .tup [.agg [.p (.val (.int .u64 y4.Hi)), .p (.val (.int .u64 y4.Lo))], .agg [.p (.val (.int .u64 y5.Hi)), .p (.val (.int .u64 y5.Lo))]])], [], [(43, .x (.agg [.p (.val (.int .u64 y5.Hi)), .p (.val (.int .u64 y5.Lo))]))], [], none⟩,
      ⟨[], [(108, none)], [(8, .x (.one (.ptr 108 0)))], [(108, some (.var [.p (.val (.int .u64 (0 : Int))), .p (.val (.int .u64 (0 : Int)))]))], some 108⟩,
      ⟨[], [(109, none)], [(9, .x (.one (.ptr 109 0)))], [(109, some (.var [.p (.val (.int .u64 (0 : Int))), .p (.val (.int .u64 (0 : Int)))]))], some 109⟩,
      ⟨[(8, .x (.one (.ptr 108 0))), (42, .x (.agg [.p (.val (.int .u64 y4.Hi)), .p (.val (.int .u64 y4.Lo))]))], [(108, some (.var [.p (.val (.int .u64 (0 : Int))), .p (.val (.int .u64 (0 : Int)))]))], [], [(108, some (.var [.p (.val (.int .u64 y4.Hi)), .p (.val (.int .u64 y4.Lo))]))], none⟩] (⟨99, mkS [(1, .x (.one (.p (pi digits)))), (2, .x (.one (.ptr 102 0))), (7, .x (.one (.ptr 107 0))), (8, .x (.one (.ptr 108 0))), (9, .x (.one (.ptr 109 0)))], mkH [(102, .var [.p (pi a.Num), .p (pi a.Den)]), (107, .var [.p (.val (.int .u64 (0 : Int))), .p (.val (.int .u64 y1))]), (108, .var [.p (.val (.int .u64 y4.Hi)), .p (.val (.int .u64 y4.Lo))]), (109, .var [.p (.val (.int .u64 y5.Hi)), .p (.val (.int .u64 y5.Lo))])]⟩) (by kernel_rfl) (by kernel_rfl) (by kernel_rfl) rfl rfl rfl ?_
      refine lok_join (fun x_ : Int × Int => ref01_Decimal_j5 a digits x_.1 x_.2 = some r_) (fun x_ => ⟨99, mkS [(1, .x (.one (.p (pi digits)))), (2, .x (.one (.ptr 102 0))), (8, .x (.one (.ptr 108 0)))], mkH [(102, .var [.p (pi a.Num), .p (pi a.Den)]), (108, .var [.p (.val (.int .u64 x_.1)), .p (.val (.int .u64 x_.2))])]⟩) ?hyref01_Decimal_j5 ?hxref01_Decimal_j5
      case hyref01_Decimal_j5 =>
        rintro ⟨q, q1⟩ H0
        try dsimp only at H0 ⊢
        unfold ref01_Decimal_j5 at H0
        replace H0 := bind_some H0
        obtain ⟨y6, h_5, H0⟩ := H0
        refine lok_rt (Env.of E0 [⟨some 64, 36, [.agg [.p (.val (.int .u64 q)), .p (.val (.int .u64 q1))]], [], [.one (.p (.val (.string (bs y6))))], [], True, fun _ => ok_ref01_Digits (ref01_Wide.mk q q1) y6 h_5, []⟩]) (⟨99, mkS [(1, .x (.one (.p (pi digits)))), (2, .x (.one (.ptr 102 0))), (8, .x (.one (.ptr 108 0))), (11, .x (.one (.p (.val (.string (bs y6))))))], mkH [(102, .var [.p (pi a.Num), .p (pi a.Den)]), (108, .var [.p (.val (.int .u64 q)), .p (.val (.int .u64 q1))])]⟩) ?_
        refine lok_join (fun x_ : Str => ref01_Decimal_j3 a digits q q1 x_ = some r_) (fun x_ => ⟨99, mkS [(1, .x (.one (.p (pi digits)))), (2, .x (.one (.ptr 102 0))), (8, .x (.one (.ptr 108 0))), (11, .x (.one (.p (.val (.string (bs x_))))))], mkH [(102, .var [.p (pi a.Num), .p (pi a.Den)]), (108, .var [.p (.val (.int .u64 q)), .p (.val (.int .u64 q1))])]⟩) ?hyref01_Decimal_j3 ?hxref01_Decimal_j3
        case hyref01_Decimal_j3 =>
          rintro s H0
          try dsimp only at H0 ⊢
          unfold ref01_Decimal_j3 at H0
          refine lok_join (fun x_ : Str => ref01_Decimal_j2 a q q1 x_ = some r_) (fun x_ => ⟨99, mkS [(2, .x (.one (.ptr 102 0))), (8, .x (.one (.ptr 108 0))), (11, .x (.one (.p (.val (.string (bs x_))))))], mkH [(102, .var [.p (pi a.Num), .p (pi a.Den)]), (108, .var [.p (.val (.int .u64 q)), .p (.val (.int .u64 q1))])]⟩) ?hyref01_Decimal_j2 ?hxref01_Decimal_j2
          case hyref01_Decimal_j2 =>
            rintro s1 H0
            try dsimp only at H0 ⊢
            unfold ref01_Decimal_j2 at H0
            refine lok_join (fun x_ : Str => ref01_Decimal_j1 x_ = some r_) (fun x_ => ⟨99, mkS [(11, .x (.one (.p (.val (.string (bs x_))))))], mkH []⟩) ?hyref01_Decimal_j1 ?hxref01_Decimal_j1
            case hyref01_Decimal_j1 =>
              rintro s2 H0
              try dsimp only at H0 ⊢
              unfold ref01_Decimal_j1 at H0
              refine lok_rt E0 (⟨99, mkS [(4, .x (.one (.p (.val (.string (bs s2))))))], mkH []⟩) ?_
              refine lok_ret ?_
              obtain rfl := Option.some.inj H0
              try simp only [thenL, blockL]
              exact fin_au _ (.inr rfl) [] (⟨99, mkS [(4, .x (.one (.p (.val (.string (bs s2))))))], mkH []⟩) rfl rfl imp_au
            case hxref01_Decimal_j1 =>
              refine lok_rt E0 (⟨99, mkS [(11, .x (.one (.p (.val (.string (bs s1)))))), (95, .x (.one (.p (.val (.bool ((decide (a.Num < (0 : Int))) && (!((q == (0 : Int)) && (q1 == (0 : Int))))))))))], mkH []⟩) ?_
              refine lok_c ((decide (a.Num < (0 : Int))) && (!((q == (0 : Int)) && (q1 == (0 : Int))))) ?_ ?_
              · intro b_7
                replace H0 := cpos H0 b_7
                replace H0 := req_some H0
                obtain ⟨q_6, H0⟩ := H0
                refine lok_rl E0 (⟨99, mkS [(11, .x (.one (.p (.val (.string (bs (([45] : Str) ++ s1)))))))], mkH []⟩) ?_
                try simp only [thenL, blockL, ↓reduceIte, reduceCtorEq]
                exact ⟨(([45] : Str) ++ s1), H0, imp_au⟩
              · intro b_7
                replace H0 := cneg H0 b_7
                refine lok_skip ?_
                try simp only [thenL, blockL, ↓reduceIte, reduceCtorEq]
                exact ⟨s1, H0, imp_au⟩
          case hxref01_Decimal_j2 =>
            refine lok_rt E0 (⟨99, mkS [(1, .x (.one (.p (pi digits)))), (2, .x (.one (.ptr 102 0))), (8, .x (.one (.ptr 108 0))), (11, .x (.one (.p (.val (.string (bs s)))))), (73, .x (.one (.p (.val (.bool (decide ((0 : Int) < digits)))))))], mkH [(102, .var [.p (pi a.Num), .p (pi a.Den)]), (108, .var [.p (.val (.int .u64 q)), .p (.val (.int .u64 q1))])]⟩) ?_
            refine lok_c (decide ((0 : Int) < digits)) ?_ ?_
            · intro b_12
              replace H0 := cpos H0 b_12
              replace H0 := req_some H0
              obtain ⟨⟨q_9, q_10, q_11⟩, H0⟩ := H0
              replace H0 := bindV_some H0
              obtain ⟨s3, a_8, H0⟩ := H0
              refine lok_dlg E0 13 a_8 (⟨99, mkS [(2, .x (.one (.ptr 102 0))), (8, .x (.one (.ptr 108 0))), (11, .x (.one (.p (.val (.string (bs s3))))))], mkH [(102, .var [.p (pi a.Num), .p (pi a.Den)]), (108, .var [.p (.val (.int .u64 q)), .p (.val (.int .u64 q1))])]⟩) (by kernel_rfl) (by kernel_rfl) ?_
              try simp only [thenL, blockL, ↓reduceIte, reduceCtorEq]
              exact ⟨s3, H0, imp_au⟩
            · intro b_12
              replace H0 := cneg H0 b_12
              refine lok_skip ?_
              try simp only [thenL, blockL, ↓reduceIte, reduceCtorEq]
              exact ⟨s, H0, imp_au⟩
        case hxref01_Decimal_j3 =>
          refine lok_block ?_
          replace H0 := bind_some H0
          obtain ⟨v_13, hv_13, H0⟩ := H0
          refine lok_iter (fun x_ => ⟨99, mkS [(1, .x (.one (.p (pi digits)))), (2, .x (.one (.ptr 102 0))), (8, .x (.one (.ptr 108 0))), (11, .x (.one (.p (.val (.string (bs x_))))))], mkH [(102, .var [.p (pi a.Num), .p (pi a.Den)]), (108, .var [.p (.val (.int .u64 q)), .p (.val (.int .u64 q1))])]⟩) hv_13 imp_au ?_
          · rintro s4 o_1 H1 k_1
            unfold ref01_Decimal_l4 at H1
            try dsimp only at H1 ⊢
            refine lok_seq ?_
            refine lok_rt E0 (⟨99, mkS [(1, .x (.one (.p (pi digits)))), (2, .x (.one (.ptr 102 0))), (8, .x (.one (.ptr 108 0))), (11, .x (.one (.p (.val (.string (bs s4)))))), (69, .x (.one (.p (.val (.bool (decide ((s4.length : Int) < (IntKind.i64.wrap (digits + (1 : Int))))))))))], mkH [(102, .var [.p (pi a.Num), .p (pi a.Den)]), (108, .var [.p (.val (.int .u64 q)), .p (.val (.int .u64 q1))])]⟩) ?_
            refine lok_c (decide ((s4.length : Int) < (IntKind.i64.wrap (digits + (1 : Int))))) ?_ ?_
            · intro b_15
              replace H1 := cpos H1 b_15
              refine lok_skip ?_
              try simp only [thenL, blockL, ↓reduceIte, reduceCtorEq]
              refine lok_block ?_
              replace H1 := req_some H1
              obtain ⟨q_14, H1⟩ := H1
              refine lok_rl E0 (⟨99, mkS [(1, .x (.one (.p (pi digits)))), (2, .x (.one (.ptr 102 0))), (8, .x (.one (.ptr 108 0))), (11, .x (.one (.p (.val (.string (bs (([48] : Str) ++ s4)))))))], mkH [(102, .var [.p (pi a.Num), .p (pi a.Den)]), (108, .var [.p (.val (.int .u64 q)), .p (.val (.int .u64 q1))])]⟩) ?_
              try simp only [thenL, blockL, ↓reduceIte, reduceCtorEq]
              exact ⟨(([48] : Str) ++ s4), (Option.some.inj H1).symm, imp_au⟩
            · intro b_15
              replace H1 := cneg H1 b_15
              refine lok_exit ?_
              try simp only [thenL, blockL, ↓reduceIte, reduceCtorEq]
              have e_1 := k_1 _ (Option.some.inj H1).symm
              subst e_1
              try dsimp only at H0
              try simp only [thenL, blockL, ↓reduceIte, reduceCtorEq]
              exact ⟨s4, H0, imp_au⟩
      case hxref01_Decimal_j5 =>
        replace H0 := bind_some H0
        obtain ⟨y7, h_16, H0⟩ := H0
        replace H0 := bind_some H0
        obtain ⟨y8, h_17, H0⟩ := H0
        refine lok_dt (Env.of E0 [⟨some 45, 34, [.agg [.p (.val (.int .u64 y5.Hi)), .p (.val (.int .u64 y5.Lo))]], [], [.agg [.p (.val (.int .u64 y7.Hi)), .p (.val (.int .u64 y7.Lo))]], [], True, fun _ => ok_ref01_Twice y5 y7 h_16, []⟩,
      ⟨some 47, 33, [.agg [.p (.val (.int .u64 y7.Hi)), .p (.val (.int .u64 y7.Lo))], .agg [.p (.val (.int .u64 (0 : Int))), .p (.val (.int .u64 y1))]], [], [.one (.p (pi y8))], [], True, fun _ => ok_ref01_Order y7 (ref01_Wide.mk (0 : Int) y1) y8 h_17, []⟩]) 3 (⟨99, mkS [(1, .x (.one (.p (pi digits)))), (2, .x (.one (.ptr 102 0))), (8, .x (.one (.ptr 108 0))), (10, .x (.one (.p (pi y8))))], mkH [(102, .var [.p (pi a.Num), .p (pi a.Den)]), (108, .var [.p (.val (.int .u64 y4.Hi)), .p (.val (.int .u64 y4.Lo))])]⟩) (by kernel_rfl) (by kernel_rfl) ?_
        refine lok_rt E0 (⟨99, mkS [(1, .x (.one (.p (pi digits)))), (2, .x (.one (.ptr 102 0))), (8, .x (.one (.ptr 108 0))), (59, .x (.one (.p (.val (.bool ((decide ((0 : Int) < y8)) || ((y8 == (0 : Int)) && ((Int.tmod y4.Lo (2 : Int)) == (1 : Int)))))))))], mkH [(102, .var [.p (pi a.Num), .p (pi a.Den)]), (108, .var [.p (.val (.int .u64 y4.Hi)), .p (.val (.int .u64 y4.Lo))])]⟩) ?_
        refine lok_c ((decide ((0 : Int) < y8)) || ((y8 == (0 : Int)) && ((Int.tmod y4.Lo (2 : Int)) == (1 : Int)))) ?_ ?_
        · intro b_19
          replace H0 := cpos H0 b_19
          replace H0 := bind_some H0
          obtain ⟨y9, h_18, H0⟩ := H0
          refine lok_rl (Env.of E0 [⟨some 62, 35, [.agg [.p (.val (.int .u64 y4.Hi)), .p (.val (.int .u64 y4.Lo))], .agg [.p (.val (.int .u64 (0 : Int))), .p (.val (.int .u64 (1 : Int)))]], [], [.agg [.p (.val (.int .u64 y9.Hi)), .p (.val (.int .u64 y9.Lo))]], [], True, fun _ => ok_ref01_Plus y4 (ref01_Wide.mk (0 : Int) (1 : Int)) y9 h_18, []⟩]) (⟨99, mkS [(1, .x (.one (.p (pi digits)))), (2, .x (.one (.ptr 102 0))), (8, .x (.one (.ptr 108 0)))], mkH [(102, .var [.p (pi a.Num), .p (pi a.Den)]), (108, .var [.p (.val (.int .u64 y9.Hi)), .p (.val (.int .u64 y9.Lo))])]⟩) ?_
          try simp only [thenL, blockL, ↓reduceIte, reduceCtorEq]
          exact ⟨(y9.Hi, y9.Lo), H0, imp_au⟩
        · intro b_19
          replace H0 := cneg H0 b_19
          refine lok_skip ?_
          try simp only [thenL, blockL, ↓reduceIte, reduceCtorEq]
          exact ⟨(y4.Hi, y4.Lo), H0, imp_au⟩
    case hxref01_Decimal_j6 =>
      refine lok_rt E0 (⟨99, mkS [(1, .x (.one (.p (pi digits)))), (2, .x (.one (.ptr 102 0))), (5, .x (.one (.p (.val (.int .u64 (1 : Int)))))), (6, .x (.one (.p (pi (0 : Int)))))], mkH [(102, .var [.p (pi a.Num), .p (pi a.Den)])]⟩) ?_
      refine lok_block ?_
      replace H0 := bind_some H0
      obtain ⟨v_20, hv_20, H0⟩ := H0
      refine lok_iter (fun x_ => ⟨99, mkS [(1, .x (.one (.p (pi digits)))), (2, .x (.one (.ptr 102 0))), (5, .x (.one (.p (.val (.int .u64 x_.1))))), (6, .x (.one (.p (pi x_.2))))], mkH [(102, .var [.p (pi a.Num), .p (pi a.Den)])]⟩) hv_20 imp_au ?_
      · rintro ⟨ten1, i⟩ o_1 H1 k_1
        unfold ref01_Decimal_l7 at H1
        try dsimp only at H1 ⊢
        refine lok_seq ?_
        refine lok_rt E0 (⟨99, mkS [(1, .x (.one (.p (pi digits)))), (2, .x (.one (.ptr 102 0))), (5, .x (.one (.p (.val (.int .u64 ten1))))), (6, .x (.one (.p (pi i)))), (25, .x (.one (.p (.val (.bool (decide (i < digits)))))))], mkH [(102, .var [.p (pi a.Num), .p (pi a.Den)])]⟩) ?_
        refine lok_c (decide (i < digits)) ?_ ?_
        · intro b_21
          replace H1 := cpos H1 b_21
          refine lok_skip ?_
          try simp only [thenL, blockL, ↓reduceIte, reduceCtorEq]
          refine lok_seq ?_
          refine lok_block ?_
          refine lok_rl E0 (⟨99, mkS [(1, .x (.one (.p (pi digits)))), (2, .x (.one (.ptr 102 0))), (5, .x (.one (.p (.val (.int .u64 (IntKind.u64.wrap (ten1 * (10 : Int)))))))), (6, .x (.one (.p (pi i))))], mkH [(102, .var [.p (pi a.Num), .p (pi a.Den)])]⟩) ?_
          try simp only [thenL, blockL, ↓reduceIte, reduceCtorEq]
          refine lok_rl E0 (⟨99, mkS [(1, .x (.one (.p (pi digits)))), (2, .x (.one (.ptr 102 0))), (5, .x (.one (.p (.val (.int .u64 (IntKind.u64.wrap (ten1 * (10 : Int)))))))), (6, .x (.one (.p (pi (IntKind.i64.wrap (i + (1 : Int)))))))], mkH [(102, .var [.p (pi a.Num), .p (pi a.Den)])]⟩) ?_
          try simp only [thenL, blockL, ↓reduceIte, reduceCtorEq]
          exact ⟨((IntKind.u64.wrap (ten1 * (10 : Int))), (IntKind.i64.wrap (i + (1 : Int)))), (Option.some.inj H1).symm, imp_au⟩
        · intro b_21
          replace H1 := cneg H1 b_21
          refine lok_exit ?_
          try simp only [thenL, blockL, ↓reduceIte, reduceCtorEq]
          have e_1 := k_1 _ (Option.some.inj H1).symm
          subst e_1
          try dsimp only at H0
          try simp only [thenL, blockL, ↓reduceIte, reduceCtorEq]
          exact ⟨ten1, H0, imp_au⟩
theorem ok_ratio_magnitude (n : Int) (r_ : Int) (H0 : ratio_magnitude n = some r_) : CallOK Tryd.prog 25 [.one (.p (pi n))] [] [.one (.p (.val (.int .u64 r_)))] [] := by
  refine callOK (n := 10) (rs := [.tmp 2]) (nb := 0) (V := []) Tryd.func25 rfl (by kernel_rfl) rfl rfl rfl rfl (Nat.le_of_ble_eq_true rfl) (by decide) ?_
  unfold ratio_magnitude at H0
  refine lok_rt E0 (⟨10, mkS [(0, .x (.one (.p (pi n))))], mkH []⟩) ?_
  refine lok_seq ?_
  refine lok_rt E0 (⟨10, mkS [(0, .x (.one (.p (pi n)))), (4, .x (.one (.p (.val (.bool (decide (n < (0 : Int))))))))], mkH []⟩) ?_
  refine lok_c (decide (n < (0 : Int))) ?_ ?_
  · intro b_0
    replace H0 := cpos H0 b_0
    refine lok_rt E0 (⟨10, mkS [(2, .x (.one (.p (.val (.int .u64 (IntKind.u64.wrap (0 - (IntKind.u64.wrap n))))))))], mkH []⟩) ?_
    refine lok_ret ?_
    obtain rfl := Option.some.inj H0
    try simp only [thenL, blockL]
    exact fin_au _ (.inr rfl) [] (⟨10, mkS [(2, .x (.one (.p (.val (.int .u64 (IntKind.u64.wrap (0 - (IntKind.u64.wrap n))))))))], mkH []⟩) rfl rfl imp_au
  · intro b_0
    replace H0 := cneg H0 b_0
    refine lok_skip ?_
    try simp only [thenL, blockL, ↓reduceIte, reduceCtorEq]
    refine lok_rt E0 (⟨10, mkS [(2, .x (.one (.p (.val (.int .u64 (IntKind.u64.wrap n))))))], mkH []⟩) ?_
    refine lok_ret ?_
    obtain rfl := Option.some.inj H0
    try simp only [thenL, blockL]
    exact fin_au _ (.inr rfl) [] (⟨10, mkS [(2, .x (.one (.p (.val (.int .u64 (IntKind.u64.wrap n))))))], mkH []⟩) rfl rfl imp_au
theorem ok_bits_Len64 (x : Int) (r_ : Int) (H0 : bits_Len64 x = some r_) : CallOK Tryd.prog 78 [.one (.p (.val (.int .u64 x)))] [] [.one (.p (pi r_))] [] := by
  refine callOK (n := 25) (rs := [.tmp 2]) (nb := 0) (V := []) Tryd.func78 rfl (by kernel_rfl) rfl rfl rfl rfl (Nat.le_of_ble_eq_true rfl) (by decide) ?_
  unfold bits_Len64 at H0
  refine lok_rt E0 (⟨25, mkS [(0, .x (.one (.p (.val (.int .u64 x))))), (2, .x (.one (.p (pi (0 : Int)))))], mkH []⟩) ?_
  refine lok_join (fun x_ : Int × Int => bits_Len64_j3 x_.1 x_.2 = some r_) (fun x_ => ⟨25, mkS [(0, .x (.one (.p (.val (.int .u64 x_.1))))), (2, .x (.one (.p (pi x_.2))))], mkH []⟩) ?hybits_Len64_j3 ?hxbits_Len64_j3
  case hybits_Len64_j3 =>
    rintro ⟨x1, n⟩ H0
    try dsimp only at H0 ⊢
    unfold bits_Len64_j3 at H0
    refine lok_join (fun x_ : Int × Int => bits_Len64_j2 x_.1 x_.2 = some r_) (fun x_ => ⟨25, mkS [(0, .x (.one (.p (.val (.int .u64 x_.1))))), (2, .x (.one (.p (pi x_.2))))], mkH []⟩) ?hybits_Len64_j2 ?hxbits_Len64_j2
    case hybits_Len64_j2 =>
      rintro ⟨x2, n1⟩ H0
      try dsimp only at H0 ⊢
      unfold bits_Len64_j2 at H0
      refine lok_join (fun x_ : Int × Int => bits_Len64_j1 x_.1 x_.2 = some r_) (fun x_ => ⟨25, mkS [(0, .x (.one (.p (.val (.int .u64 x_.1))))), (2, .x (.one (.p (pi x_.2))))], mkH []⟩) ?hybits_Len64_j1 ?hxbits_Len64_j1
      case hybits_Len64_j1 =>
        rintro ⟨x3, n2⟩ H0
        try dsimp only at H0 ⊢
        unfold bits_Len64_j1 at H0
        replace H0 := req_some H0
        obtain ⟨q_1, H0⟩ := H0
        replace H0 := bindV_some H0
        obtain ⟨n3, a_0, H0⟩ := H0
        refine lok_rtg E0 a_0 (⟨25, mkS [(2, .x (.one (.p (pi n3))))], mkH []⟩) ?_
        refine lok_ret ?_
        obtain rfl := Option.some.inj H0
        try simp only [thenL, blockL]
        exact fin_au _ (.inr rfl) [] (⟨25, mkS [(2, .x (.one (.p (pi n3))))], mkH []⟩) rfl rfl imp_au
      case hxbits_Len64_j1 =>
        refine lok_rt E0 (⟨25, mkS [(0, .x (.one (.p (.val (.int .u64 x2))))), (2, .x (.one (.p (pi n1)))), (14, .x (.one (.p (.val (.bool (decide ((256 : Int) ≤ x2)))))))], mkH []⟩) ?_
        refine lok_c (decide ((256 : Int) ≤ x2)) ?_ ?_
        · intro b_2
          replace H0 := cpos H0 b_2
          refine lok_rt E0 (⟨25, mkS [(0, .x (.one (.p (.val (.int .u64 (bShr .u64 x2 (8 : Int))))))), (2, .x (.one (.p (pi n1))))], mkH []⟩) ?_
          refine lok_rl E0 (⟨25, mkS [(0, .x (.one (.p (.val (.int .u64 (bShr .u64 x2 (8 : Int))))))), (2, .x (.one (.p (pi (IntKind.i64.wrap (n1 + (8 : Int)))))))], mkH []⟩) ?_
          try simp only [thenL, blockL, ↓reduceIte, reduceCtorEq]
          exact ⟨((bShr .u64 x2 (8 : Int)), (IntKind.i64.wrap (n1 + (8 : Int)))), H0, imp_au⟩
        · intro b_2
          replace H0 := cneg H0 b_2
          refine lok_skip ?_
          try simp only [thenL, blockL, ↓reduceIte, reduceCtorEq]
          exact ⟨(x2, n1), H0, imp_au⟩
    case hxbits_Len64_j2 =>
      refine lok_rt E0 (⟨25, mkS [(0, .x (.one (.p (.val (.int .u64 x1))))), (2, .x (.one (.p (pi n)))), (8, .x (.one (.p (.val (.bool (decide ((65536 : Int) ≤ x1)))))))], mkH []⟩) ?_
      refine lok_c (decide ((65536 : Int) ≤ x1)) ?_ ?_
      · intro b_3
        replace H0 := cpos H0 b_3
        refine lok_rt E0 (⟨25, mkS [(0, .x (.one (.p (.val (.int .u64 (bShr .u64 x1 (16 : Int))))))), (2, .x (.one (.p (pi n))))], mkH []⟩) ?_
        refine lok_rl E0 (⟨25, mkS [(0, .x (.one (.p (.val (.int .u64 (bShr .u64 x1 (16 : Int))))))), (2, .x (.one (.p (pi (IntKind.i64.wrap (n + (16 : Int)))))))], mkH []⟩) ?_
        try simp only [thenL, blockL, ↓reduceIte, reduceCtorEq]
        exact ⟨((bShr .u64 x1 (16 : Int)), (IntKind.i64.wrap (n + (16 : Int)))), H0, imp_au⟩
      · intro b_3
        replace H0 := cneg H0 b_3
        refine lok_skip ?_
        try simp only [thenL, blockL, ↓reduceIte, reduceCtorEq]
        exact ⟨(x1, n), H0, imp_au⟩
  case hxbits_Len64_j3 =>
    refine lok_rt E0 (⟨25, mkS [(0, .x (.one (.p (.val (.int .u64 x))))), (2, .x (.one (.p (pi (0 : Int))))), (4, .x (.one (.p (.val (.bool (decide ((4294967296 : Int) ≤ x)))))))], mkH []⟩) ?_
    refine lok_c (decide ((4294967296 : Int) ≤ x)) ?_ ?_
    · intro b_4
      replace H0 := cpos H0 b_4
      refine lok_rt E0 (⟨25, mkS [(0, .x (.one (.p (.val (.int .u64 (bShr .u64 x (32 : Int)))))))], mkH []⟩) ?_
      refine lok_rl E0 (⟨25, mkS [(0, .x (.one (.p (.val (.int .u64 (bShr .u64 x (32 : Int))))))), (2, .x (.one (.p (pi (32 : Int)))))], mkH []⟩) ?_
      try simp only [thenL, blockL, ↓reduceIte, reduceCtorEq]
      exact ⟨((bShr .u64 x (32 : Int)), (32 : Int)), H0, imp_au⟩
    · intro b_4
      replace H0 := cneg H0 b_4
      refine lok_skip ?_
      try simp only [thenL, blockL, ↓reduceIte, reduceCtorEq]
      exact ⟨(x, (0 : Int)), H0, imp_au⟩
theorem ok_bits_LeadingZeros64 (x : Int) (r_ : Int) (H0 : bits_LeadingZeros64 x = some r_) : CallOK Tryd.prog 67 [.one (.p (.val (.int .u64 x)))] [] [.one (.p (pi r_))] [] := by
  refine callOK (n := 6) (rs := [.tmp 2]) (nb := 0) (V := []) Tryd.func67 rfl (by kernel_rfl) rfl rfl rfl rfl (Nat.le_of_ble_eq_true rfl) (by decide) ?_
  unfold bits_LeadingZeros64 at H0
  refine lok_rt E0 (⟨6, mkS [(0, .x (.one (.p (.val (.int .u64 x)))))], mkH []⟩) ?_
  replace H0 := bind_some H0
  obtain ⟨y, h_0, H0⟩ := H0
  refine lok_rt (Env.of E0 [⟨some 4, 78, [.one (.p (.val (.int .u64 x)))], [], [.one (.p (pi y))], [], True, fun _ => ok_bits_Len64 x y h_0, []⟩]) (⟨6, mkS [(2, .x (.one (.p (pi (IntKind.i64.wrap ((64 : Int) - y))))))], mkH []⟩) ?_
  refine lok_ret ?_
  obtain rfl := Option.some.inj H0
  try simp only [thenL, blockL]
  exact fin_au _ (.inr rfl) [] (⟨6, mkS [(2, .x (.one (.p (pi (IntKind.i64.wrap ((64 : Int) - y))))))], mkH []⟩) rfl rfl imp_au
set_option maxHeartbeats 4000000 in
theorem ok_bits_Div64 (hi : Int) (lo : Int) (y : Int) (r_ : Int × Int) (H0 : bits_Div64 hi lo y = some r_) : CallOK Tryd.prog 52 [.one (.p (.val (.int .u64 hi))), .one (.p (.val (.int .u64 lo))), .one (.p (.val (.int .u64 y)))] [] [.one (.p (.val (.int .u64 r_.1))), .one (.p (.val (.int .u64 r_.2)))] [] := by
  refine callOK (n := 135) (rs := [.tmp 6, .tmp 7]) (nb := 0) (V := []) Tryd.func52 rfl (by kernel_rfl) rfl rfl rfl rfl (Nat.le_of_ble_eq_true rfl) (by decide) ?_
  unfold bits_Div64 at H0
  refine lok_rt E0 (⟨135, mkS [(0, .x (.one (.p (.val (.int .u64 hi))))), (1, .x (.one (.p (.val (.int .u64 lo))))), (2, .x (.one (.p (.val (.int .u64 y)))))], mkH []⟩) ?_
  refine lok_join (fun x_ : Unit => bits_Div64_j6 hi lo y = some r_) (fun x_ => ⟨135, mkS [(0, .x (.one (.p (.val (.int .u64 hi))))), (1, .x (.one (.p (.val (.int .u64 lo))))), (2, .x (.one (.p (.val (.int .u64 y)))))], mkH []⟩) ?hybits_Div64_j6 ?hxbits_Div64_j6
  case hybits_Div64_j6 =>
    rintro _ H0
    try dsimp only at H0 ⊢
    unfold bits_Div64_j6 at H0
    refine lok_join (fun x_ : Unit => bits_Div64_j5 hi lo y = some r_) (fun x_ => ⟨135, mkS [(0, .x (.one (.p (.val (.int .u64 hi))))), (1, .x (.one (.p (.val (.int .u64 lo))))), (2, .x (.one (.p (.val (.int .u64 y)))))], mkH []⟩) ?hybits_Div64_j5 ?hxbits_Div64_j5
    case hybits_Div64_j5 =>
      rintro _ H0
      try dsimp only at H0 ⊢
      unfold bits_Div64_j5 at H0
      refine lok_seq ?_
      refine lok_rt E0 (⟨135, mkS [(0, .x (.one (.p (.val (.int .u64 hi))))), (1, .x (.one (.p (.val (.int .u64 lo))))), (2, .x (.one (.p (.val (.int .u64 y))))), (27, .x (.one (.p (.val (.bool (hi == (0 : Int)))))))], mkH []⟩) ?_
      refine lok_c (hi == (0 : Int)) ?_ ?_
      · intro b_25
        replace H0 := cpos H0 b_25
        replace H0 := req_some H0
        obtain ⟨q_0, H0⟩ := H0
        refine lok_dt E0 7 (⟨135, mkS [(6, .x (.one (.p (.val (.int .u64 (IntKind.u64.wrap (Int.tdiv lo y))))))), (7, .x (.one (.p (.val (.int .u64 (Int.tmod lo y))))))], mkH []⟩) (by kernel_rfl) (by kernel_rfl) ?_
        refine lok_ret ?_
        obtain rfl := Option.some.inj H0
        try simp only [thenL, blockL]
        exact fin_au _ (.inr rfl) [] (⟨135, mkS [(6, .x (.one (.p (.val (.int .u64 (IntKind.u64.wrap (Int.tdiv lo y))))))), (7, .x (.one (.p (.val (.int .u64 (Int.tmod lo y))))))], mkH []⟩) rfl rfl imp_au
      · intro b_25
        replace H0 := cneg H0 b_25
        refine lok_skip ?_
        try simp only [thenL, blockL, ↓reduceIte, reduceCtorEq]
        replace H0 := bind_some H0
        obtain ⟨y1, h_1, H0⟩ := H0
        refine lok_rt (Env.of E0 [⟨some 35, 67, [.one (.p (.val (.int .u64 y)))], [], [.one (.p (pi y1))], [], True, fun _ => ok_bits_LeadingZeros64 y y1 h_1, []⟩]) (⟨135, mkS [(0, .x (.one (.p (.val (.int .u64 hi))))), (1, .x (.one (.p (.val (.int .u64 lo))))), (2, .x (.one (.p (.val (.int .u64 y))))), (8, .x (.one (.p (.val (.int .u64 (IntKind.u64.wrap y1))))))], mkH []⟩) ?_
        replace H0 := req_some H0
        obtain ⟨q_24, H0⟩ := H0
        refine lok_rt E0 (⟨135, mkS [(0, .x (.one (.p (.val (.int .u64 hi))))), (1, .x (.one (.p (.val (.int .u64 lo))))), (2, .x (.one (.p (.val (.int .u64 (bShl .u64 y (IntKind.u64.wrap y1))))))), (8, .x (.one (.p (.val (.int .u64 (IntKind.u64.wrap y1))))))], mkH []⟩) ?_
        refine lok_rt E0 (⟨135, mkS [(0, .x (.one (.p (.val (.int .u64 hi))))), (1, .x (.one (.p (.val (.int .u64 lo))))), (2, .x (.one (.p (.val (.int .u64 (bShl .u64 y (IntKind.u64.wrap y1))))))), (8, .x (.one (.p (.val (.int .u64 (IntKind.u64.wrap y1)))))), (9, .x (.one (.p (.val (.int .u64 (bShr .u64 (bShl .u64 y (IntKind.u64.wrap y1)) (32 : Int)))))))], mkH []⟩) ?_
        refine lok_rt E0 (⟨135, mkS [(0, .x (.one (.p (.val (.int .u64 hi))))), (1, .x (.one (.p (.val (.int .u64 lo))))), (2, .x (.one (.p (.val (.int .u64 (bShl .u64 y (IntKind.u64.wrap y1))))))), (8, .x (.one (.p (.val (.int .u64 (IntKind.u64.wrap y1)))))), (9, .x (.one (.p (.val (.int .u64 (bShr .u64 (bShl .u64 y (IntKind.u64.wrap y1)) (32 : Int))))))), (10, .x (.one (.p (.val (.int .u64 (bAnd .u64 (bShl .u64 y (IntKind.u64.wrap y1)) (4294967295 : Int)))))))], mkH []⟩) ?_
        replace H0 := req_some H0
        obtain ⟨⟨q_22, q_23⟩, H0⟩ := H0
        replace H0 := bindV_some H0
        obtain ⟨un32, a_2, H0⟩ := H0
        refine lok_rtg E0 a_2 (⟨135, mkS [(1, .x (.one (.p (.val (.int .u64 lo))))), (2, .x (.one (.p (.val (.int .u64 (bShl .u64 y (IntKind.u64.wrap y1))))))), (8, .x (.one (.p (.val (.int .u64 (IntKind.u64.wrap y1)))))), (9, .x (.one (.p (.val (.int .u64 (bShr .u64 (bShl .u64 y (IntKind.u64.wrap y1)) (32 : Int))))))), (10, .x (.one (.p (.val (.int .u64 (bAnd .u64 (bShl .u64 y (IntKind.u64.wrap y1)) (4294967295 : Int))))))), (11, .x (.one (.p (.val (.int .u64 un32)))))], mkH []⟩) ?_
        replace H0 := req_some H0
        obtain ⟨q_21, H0⟩ := H0
        refine lok_rt E0 (⟨135, mkS [(2, .x (.one (.p (.val (.int .u64 (bShl .u64 y (IntKind.u64.wrap y1))))))), (8, .x (.one (.p (.val (.int .u64 (IntKind.u64.wrap y1)))))), (9, .x (.one (.p (.val (.int .u64 (bShr .u64 (bShl .u64 y (IntKind.u64.wrap y1)) (32 : Int))))))), (10, .x (.one (.p (.val (.int .u64 (bAnd .u64 (bShl .u64 y (IntKind.u64.wrap y1)) (4294967295 : Int))))))), (11, .x (.one (.p (.val (.int .u64 un32))))), (12, .x (.one (.p (.val (.int .u64 (bShl .u64 lo (IntKind.u64.wrap y1)))))))], mkH []⟩) ?_
        refine lok_rt E0 (⟨135, mkS [(2, .x (.one (.p (.val (.int .u64 (bShl .u64 y (IntKind.u64.wrap y1))))))), (8, .x (.one (.p (.val (.int .u64 (IntKind.u64.wrap y1)))))), (9, .x (.one (.p (.val (.int .u64 (bShr .u64 (bShl .u64 y (IntKind.u64.wrap y1)) (32 : Int))))))), (10, .x (.one (.p (.val (.int .u64 (bAnd .u64 (bShl .u64 y (IntKind.u64.wrap y1)) (4294967295 : Int))))))), (11, .x (.one (.p (.val (.int .u64 un32))))), (12, .x (.one (.p (.val (.int .u64 (bShl .u64 lo (IntKind.u64.wrap y1))))))), (13, .x (.one (.p (.val (.int .u64 (bShr .u64 (bShl .u64 lo (IntKind.u64.wrap y1)) (32 : Int)))))))], mkH []⟩) ?_
        refine lok_rt E0 (⟨135, mkS [(2, .x (.one (.p (.val (.int .u64 (bShl .u64 y (IntKind.u64.wrap y1))))))), (8, .x (.one (.p (.val (.int .u64 (IntKind.u64.wrap y1)))))), (9, .x (.one (.p (.val (.int .u64 (bShr .u64 (bShl .u64 y (IntKind.u64.wrap y1)) (32 : Int))))))), (10, .x (.one (.p (.val (.int .u64 (bAnd .u64 (bShl .u64 y (IntKind.u64.wrap y1)) (4294967295 : Int))))))), (11, .x (.one (.p (.val (.int .u64 un32))))), (13, .x (.one (.p (.val (.int .u64 (bShr .u64 (bShl .u64 lo (IntKind.u64.wrap y1)) (32 : Int))))))), (14, .x (.one (.p (.val (.int .u64 (bAnd .u64 (bShl .u64 lo (IntKind.u64.wrap y1)) (4294967295 : Int)))))))], mkH []⟩) ?_
        replace H0 := req_some H0
        obtain ⟨q_20, H0⟩ := H0
        replace H0 := bindV_some H0
        obtain ⟨q1, a_3, H0⟩ := H0
        refine lok_rtg E0 a_3 (⟨135, mkS [(2, .x (.one (.p (.val (.int .u64 (bShl .u64 y (IntKind.u64.wrap y1))))))), (8, .x (.one (.p (.val (.int .u64 (IntKind.u64.wrap y1)))))), (9, .x (.one (.p (.val (.int .u64 (bShr .u64 (bShl .u64 y (IntKind.u64.wrap y1)) (32 : Int))))))), (10, .x (.one (.p (.val (.int .u64 (bAnd .u64 (bShl .u64 y (IntKind.u64.wrap y1)) (4294967295 : Int))))))), (11, .x (.one (.p (.val (.int .u64 un32))))), (13, .x (.one (.p (.val (.int .u64 (bShr .u64 (bShl .u64 lo (IntKind.u64.wrap y1)) (32 : Int))))))), (14, .x (.one (.p (.val (.int .u64 (bAnd .u64 (bShl .u64 lo (IntKind.u64.wrap y1)) (4294967295 : Int))))))), (15, .x (.one (.p (.val (.int .u64 q1)))))], mkH []⟩) ?_
        replace H0 := bindV_some H0
        obtain ⟨rhat, a_4, H0⟩ := H0
        refine lok_rtg E0 a_4 (⟨135, mkS [(2, .x (.one (.p (.val (.int .u64 (bShl .u64 y (IntKind.u64.wrap y1))))))), (8, .x (.one (.p (.val (.int .u64 (IntKind.u64.wrap y1)))))), (9, .x (.one (.p (.val (.int .u64 (bShr .u64 (bShl .u64 y (IntKind.u64.wrap y1)) (32 : Int))))))), (10, .x (.one (.p (.val (.int .u64 (bAnd .u64 (bShl .u64 y (IntKind.u64.wrap y1)) (4294967295 : Int))))))), (11, .x (.one (.p (.val (.int .u64 un32))))), (13, .x (.one (.p (.val (.int .u64 (bShr .u64 (bShl .u64 lo (IntKind.u64.wrap y1)) (32 : Int))))))), (14, .x (.one (.p (.val (.int .u64 (bAnd .u64 (bShl .u64 lo (IntKind.u64.wrap y1)) (4294967295 : Int))))))), (15, .x (.one (.p (.val (.int .u64 q1))))), (16, .x (.one (.p (.val (.int .u64 rhat)))))], mkH []⟩) ?_
        refine lok_join (fun x_ : Int => bits_Div64_j3 lo y y1 un32 x_ = some r_) (fun x_ => ⟨135, mkS [(2, .x (.one (.p (.val (.int .u64 (bShl .u64 y (IntKind.u64.wrap y1))))))), (8, .x (.one (.p (.val (.int .u64 (IntKind.u64.wrap y1)))))), (9, .x (.one (.p (.val (.int .u64 (bShr .u64 (bShl .u64 y (IntKind.u64.wrap y1)) (32 : Int))))))), (10, .x (.one (.p (.val (.int .u64 (bAnd .u64 (bShl .u64 y (IntKind.u64.wrap y1)) (4294967295 : Int))))))), (11, .x (.one (.p (.val (.int .u64 un32))))), (13, .x (.one (.p (.val (.int .u64 (bShr .u64 (bShl .u64 lo (IntKind.u64.wrap y1)) (32 : Int))))))), (14, .x (.one (.p (.val (.int .u64 (bAnd .u64 (bShl .u64 lo (IntKind.u64.wrap y1)) (4294967295 : Int))))))), (15, .x (.one (.p (.val (.int .u64 x_)))))], mkH []⟩) ?hybits_Div64_j3 ?hxbits_Div64_j3
        case hybits_Div64_j3 =>
          rintro q11 H0
          try dsimp only at H0 ⊢
          unfold bits_Div64_j3 at H0
          replace H0 := bindV_some H0
          obtain ⟨un21, a_5, H0⟩ := H0
          refine lok_rtg E0 a_5 (⟨135, mkS [(2, .x (.one (.p (.val (.int .u64 (bShl .u64 y (IntKind.u64.wrap y1))))))), (8, .x (.one (.p (.val (.int .u64 (IntKind.u64.wrap y1)))))), (9, .x (.one (.p (.val (.int .u64 (bShr .u64 (bShl .u64 y (IntKind.u64.wrap y1)) (32 : Int))))))), (10, .x (.one (.p (.val (.int .u64 (bAnd .u64 (bShl .u64 y (IntKind.u64.wrap y1)) (4294967295 : Int))))))), (14, .x (.one (.p (.val (.int .u64 (bAnd .u64 (bShl .u64 lo (IntKind.u64.wrap y1)) (4294967295 : Int))))))), (15, .x (.one (.p (.val (.int .u64 q11))))), (17, .x (.one (.p (.val (.int .u64 un21)))))], mkH []⟩) ?_
          replace H0 := req_some H0
          obtain ⟨q_15, H0⟩ := H0
          replace H0 := bindV_some H0
          obtain ⟨q0, a_6, H0⟩ := H0
          refine lok_rtg E0 a_6 (⟨135, mkS [(2, .x (.one (.p (.val (.int .u64 (bShl .u64 y (IntKind.u64.wrap y1))))))), (8, .x (.one (.p (.val (.int .u64 (IntKind.u64.wrap y1)))))), (9, .x (.one (.p (.val (.int .u64 (bShr .u64 (bShl .u64 y (IntKind.u64.wrap y1)) (32 : Int))))))), (10, .x (.one (.p (.val (.int .u64 (bAnd .u64 (bShl .u64 y (IntKind.u64.wrap y1)) (4294967295 : Int))))))), (14, .x (.one (.p (.val (.int .u64 (bAnd .u64 (bShl .u64 lo (IntKind.u64.wrap y1)) (4294967295 : Int))))))), (15, .x (.one (.p (.val (.int .u64 q11))))), (17, .x (.one (.p (.val (.int .u64 un21))))), (18, .x (.one (.p (.val (.int .u64 q0)))))], mkH []⟩) ?_
          replace H0 := bindV_some H0
          obtain ⟨rhat1, a_7, H0⟩ := H0
          refine lok_rtg E0 a_7 (⟨135, mkS [(2, .x (.one (.p (.val (.int .u64 (bShl .u64 y (IntKind.u64.wrap y1))))))), (8, .x (.one (.p (.val (.int .u64 (IntKind.u64.wrap y1)))))), (9, .x (.one (.p (.val (.int .u64 (bShr .u64 (bShl .u64 y (IntKind.u64.wrap y1)) (32 : Int))))))), (10, .x (.one (.p (.val (.int .u64 (bAnd .u64 (bShl .u64 y (IntKind.u64.wrap y1)) (4294967295 : Int))))))), (14, .x (.one (.p (.val (.int .u64 (bAnd .u64 (bShl .u64 lo (IntKind.u64.wrap y1)) (4294967295 : Int))))))), (15, .x (.one (.p (.val (.int .u64 q11))))), (16, .x (.one (.p (.val (.int .u64 rhat1))))), (17, .x (.one (.p (.val (.int .u64 un21))))), (18, .x (.one (.p (.val (.int .u64 q0)))))], mkH []⟩) ?_
          refine lok_join (fun x_ : Int => bits_Div64_j1 lo y y1 q11 un21 x_ = some r_) (fun x_ => ⟨135, mkS [(2, .x (.one (.p (.val (.int .u64 (bShl .u64 y (IntKind.u64.wrap y1))))))), (8, .x (.one (.p (.val (.int .u64 (IntKind.u64.wrap y1)))))), (14, .x (.one (.p (.val (.int .u64 (bAnd .u64 (bShl .u64 lo (IntKind.u64.wrap y1)) (4294967295 : Int))))))), (15, .x (.one (.p (.val (.int .u64 q11))))), (17, .x (.one (.p (.val (.int .u64 un21))))), (18, .x (.one (.p (.val (.int .u64 x_)))))], mkH []⟩) ?hybits_Div64_j1 ?hxbits_Div64_j1
          case hybits_Div64_j1 =>
            rintro q01 H0
            try dsimp only at H0 ⊢
            unfold bits_Div64_j1 at H0
            replace H0 := req_some H0
            obtain ⟨q_10, H0⟩ := H0
            replace H0 := bindV_some H0
            obtain ⟨quo, a_8, H0⟩ := H0
            replace H0 := bindV_some H0
            obtain ⟨rem, a_9, H0⟩ := H0
            refine lok_rtg E0 (And.intro a_8 a_9) (⟨135, mkS [(6, .x (.one (.p (.val (.int .u64 quo))))), (7, .x (.one (.p (.val (.int .u64 rem)))))], mkH []⟩) ?_
            refine lok_ret ?_
            obtain rfl := Option.some.inj H0
            try simp only [thenL, blockL]
            exact fin_au _ (.inr rfl) [] (⟨135, mkS [(6, .x (.one (.p (.val (.int .u64 quo))))), (7, .x (.one (.p (.val (.int .u64 rem)))))], mkH []⟩) rfl rfl imp_au
          case hxbits_Div64_j1 =>
            refine lok_block ?_
            replace H0 := bind_some H0
            obtain ⟨v_11, hv_11, H0⟩ := H0
            refine lok_iter (fun x_ => ⟨135, mkS [(2, .x (.one (.p (.val (.int .u64 (bShl .u64 y (IntKind.u64.wrap y1))))))), (8, .x (.one (.p (.val (.int .u64 (IntKind.u64.wrap y1)))))), (9, .x (.one (.p (.val (.int .u64 (bShr .u64 (bShl .u64 y (IntKind.u64.wrap y1)) (32 : Int))))))), (10, .x (.one (.p (.val (.int .u64 (bAnd .u64 (bShl .u64 y (IntKind.u64.wrap y1)) (4294967295 : Int))))))), (14, .x (.one (.p (.val (.int .u64 (bAnd .u64 (bShl .u64 lo (IntKind.u64.wrap y1)) (4294967295 : Int))))))), (15, .x (.one (.p (.val (.int .u64 q11))))), (16, .x (.one (.p (.val (.int .u64 x_.1))))), (17, .x (.one (.p (.val (.int .u64 un21))))), (18, .x (.one (.p (.val (.int .u64 x_.2)))))], mkH []⟩) hv_11 imp_au ?_
            · rintro ⟨rhat2, q02⟩ o_1 H1 k_1
              unfold bits_Div64_l2 at H1
              try dsimp only at H1 ⊢
              refine lok_seq ?_
              refine lok_rt E0 (⟨135, mkS [(2, .x (.one (.p (.val (.int .u64 (bShl .u64 y (IntKind.u64.wrap y1))))))), (8, .x (.one (.p (.val (.int .u64 (IntKind.u64.wrap y1)))))), (9, .x (.one (.p (.val (.int .u64 (bShr .u64 (bShl .u64 y (IntKind.u64.wrap y1)) (32 : Int))))))), (10, .x (.one (.p (.val (.int .u64 (bAnd .u64 (bShl .u64 y (IntKind.u64.wrap y1)) (4294967295 : Int))))))), (14, .x (.one (.p (.val (.int .u64 (bAnd .u64 (bShl .u64 lo (IntKind.u64.wrap y1)) (4294967295 : Int))))))), (15, .x (.one (.p (.val (.int .u64 q11))))), (16, .x (.one (.p (.val (.int .u64 rhat2))))), (17, .x (.one (.p (.val (.int .u64 un21))))), (18, .x (.one (.p (.val (.int .u64 q02))))), (113, .x (.one (.p (.val (.bool ((decide ((4294967296 : Int) ≤ q02)) || (decide ((IntKind.u64.wrap ((IntKind.u64.wrap ((4294967296 : Int) * rhat2)) + (bAnd .u64 (bShl .u64 lo (IntKind.u64.wrap y1)) (4294967295 : Int)))) < (IntKind.u64.wrap (q02 * (bAnd .u64 (bShl .u64 y (IntKind.u64.wrap y1)) (4294967295 : Int))))))))))))], mkH []⟩) ?_
              refine lok_c ((decide ((4294967296 : Int) ≤ q02)) || (decide ((IntKind.u64.wrap ((IntKind.u64.wrap ((4294967296 : Int) * rhat2)) + (bAnd .u64 (bShl .u64 lo (IntKind.u64.wrap y1)) (4294967295 : Int)))) < (IntKind.u64.wrap (q02 * (bAnd .u64 (bShl .u64 y (IntKind.u64.wrap y1)) (4294967295 : Int))))))) ?_ ?_
              · intro b_14
                replace H1 := cpos H1 b_14
                refine lok_skip ?_
                try simp only [thenL, blockL, ↓reduceIte, reduceCtorEq]
                refine lok_block ?_
                refine lok_rt E0 (⟨135, mkS [(2, .x (.one (.p (.val (.int .u64 (bShl .u64 y (IntKind.u64.wrap y1))))))), (8, .x (.one (.p (.val (.int .u64 (IntKind.u64.wrap y1)))))), (9, .x (.one (.p (.val (.int .u64 (bShr .u64 (bShl .u64 y (IntKind.u64.wrap y1)) (32 : Int))))))), (10, .x (.one (.p (.val (.int .u64 (bAnd .u64 (bShl .u64 y (IntKind.u64.wrap y1)) (4294967295 : Int))))))), (14, .x (.one (.p (.val (.int .u64 (bAnd .u64 (bShl .u64 lo (IntKind.u64.wrap y1)) (4294967295 : Int))))))), (15, .x (.one (.p (.val (.int .u64 q11))))), (16, .x (.one (.p (.val (.int .u64 rhat2))))), (17, .x (.one (.p (.val (.int .u64 un21))))), (18, .x (.one (.p (.val (.int .u64 (IntKind.u64.wrap (q02 - (1 : Int))))))))], mkH []⟩) ?_
                replace H1 := bindV_some H1
                obtain ⟨rhat3, a_12, H1⟩ := H1
                refine lok_rtg E0 a_12 (⟨135, mkS [(2, .x (.one (.p (.val (.int .u64 (bShl .u64 y (IntKind.u64.wrap y1))))))), (8, .x (.one (.p (.val (.int .u64 (IntKind.u64.wrap y1)))))), (9, .x (.one (.p (.val (.int .u64 (bShr .u64 (bShl .u64 y (IntKind.u64.wrap y1)) (32 : Int))))))), (10, .x (.one (.p (.val (.int .u64 (bAnd .u64 (bShl .u64 y (IntKind.u64.wrap y1)) (4294967295 : Int))))))), (14, .x (.one (.p (.val (.int .u64 (bAnd .u64 (bShl .u64 lo (IntKind.u64.wrap y1)) (4294967295 : Int))))))), (15, .x (.one (.p (.val (.int .u64 q11))))), (16, .x (.one (.p (.val (.int .u64 rhat3))))), (17, .x (.one (.p (.val (.int .u64 un21))))), (18, .x (.one (.p (.val (.int .u64 (IntKind.u64.wrap (q02 - (1 : Int))))))))], mkH []⟩) ?_
                refine lok_rt E0 (⟨135, mkS [(2, .x (.one (.p (.val (.int .u64 (bShl .u64 y (IntKind.u64.wrap y1))))))), (8, .x (.one (.p (.val (.int .u64 (IntKind.u64.wrap y1)))))), (9, .x (.one (.p (.val (.int .u64 (bShr .u64 (bShl .u64 y (IntKind.u64.wrap y1)) (32 : Int))))))), (10, .x (.one (.p (.val (.int .u64 (bAnd .u64 (bShl .u64 y (IntKind.u64.wrap y1)) (4294967295 : Int))))))), (14, .x (.one (.p (.val (.int .u64 (bAnd .u64 (bShl .u64 lo (IntKind.u64.wrap y1)) (4294967295 : Int))))))), (15, .x (.one (.p (.val (.int .u64 q11))))), (16, .x (.one (.p (.val (.int .u64 rhat3))))), (17, .x (.one (.p (.val (.int .u64 un21))))), (18, .x (.one (.p (.val (.int .u64 (IntKind.u64.wrap (q02 - (1 : Int)))))))), (120, .x (.one (.p (.val (.bool (decide ((4294967296 : Int) ≤ rhat3)))))))], mkH []⟩) ?_
                refine lok_c (decide ((4294967296 : Int) ≤ rhat3)) ?_ ?_
                · intro b_13
                  replace H1 := cpos H1 b_13
                  refine lok_exit ?_
                  try simp only [thenL, blockL, ↓reduceIte, reduceCtorEq]
                  have e_1 := k_1 _ (Option.some.inj H1).symm
                  subst e_1
                  try dsimp only at H0
                  try simp only [thenL, blockL, ↓reduceIte, reduceCtorEq]
                  exact ⟨(IntKind.u64.wrap (q02 - (1 : Int))), H0, imp_au⟩
                · intro b_13
                  replace H1 := cneg H1 b_13
                  refine lok_skip ?_
                  try simp only [thenL, blockL, ↓reduceIte, reduceCtorEq]
                  exact ⟨(rhat3, (IntKind.u64.wrap (q02 - (1 : Int)))), (Option.some.inj H1).symm, imp_au⟩
              · intro b_14
                replace H1 := cneg H1 b_14
                refine lok_exit ?_
                try simp only [thenL, blockL, ↓reduceIte, reduceCtorEq]
                have e_1 := k_1 _ (Option.some.inj H1).symm
                subst e_1
                try dsimp only at H0
                try simp only [thenL, blockL, ↓reduceIte, reduceCtorEq]
                exact ⟨q02, H0, imp_au⟩
        case hxbits_Div64_j3 =>
          refine lok_block ?_
          replace H0 := bind_some H0
          obtain ⟨v_16, hv_16, H0⟩ := H0
          refine lok_iter (fun x_ => ⟨135, mkS [(2, .x (.one (.p (.val (.int .u64 (bShl .u64 y (IntKind.u64.wrap y1))))))), (8, .x (.one (.p (.val (.int .u64 (IntKind.u64.wrap y1)))))), (9, .x (.one (.p (.val (.int .u64 (bShr .u64 (bShl .u64 y (IntKind.u64.wrap y1)) (32 : Int))))))), (10, .x (.one (.p (.val (.int .u64 (bAnd .u64 (bShl .u64 y (IntKind.u64.wrap y1)) (4294967295 : Int))))))), (11, .x (.one (.p (.val (.int .u64 un32))))), (13, .x (.one (.p (.val (.int .u64 (bShr .u64 (bShl .u64 lo (IntKind.u64.wrap y1)) (32 : Int))))))), (14, .x (.one (.p (.val (.int .u64 (bAnd .u64 (bShl .u64 lo (IntKind.u64.wrap y1)) (4294967295 : Int))))))), (15, .x (.one (.p (.val (.int .u64 x_.1))))), (16, .x (.one (.p (.val (.int .u64 x_.2)))))], mkH []⟩) hv_16 imp_au ?_
          · rintro ⟨q12, rhat4⟩ o_1 H1 k_1
            unfold bits_Div64_l4 at H1
            try dsimp only at H1 ⊢
            refine lok_seq ?_
            refine lok_rt E0 (⟨135, mkS [(2, .x (.one (.p (.val (.int .u64 (bShl .u64 y (IntKind.u64.wrap y1))))))), (8, .x (.one (.p (.val (.int .u64 (IntKind.u64.wrap y1)))))), (9, .x (.one (.p (.val (.int .u64 (bShr .u64 (bShl .u64 y (IntKind.u64.wrap y1)) (32 : Int))))))), (10, .x (.one (.p (.val (.int .u64 (bAnd .u64 (bShl .u64 y (IntKind.u64.wrap y1)) (4294967295 : Int))))))), (11, .x (.one (.p (.val (.int .u64 un32))))), (13, .x (.one (.p (.val (.int .u64 (bShr .u64 (bShl .u64 lo (IntKind.u64.wrap y1)) (32 : Int))))))), (14, .x (.one (.p (.val (.int .u64 (bAnd .u64 (bShl .u64 lo (IntKind.u64.wrap y1)) (4294967295 : Int))))))), (15, .x (.one (.p (.val (.int .u64 q12))))), (16, .x (.one (.p (.val (.int .u64 rhat4))))), (78, .x (.one (.p (.val (.bool ((decide ((4294967296 : Int) ≤ q12)) || (decide ((IntKind.u64.wrap ((IntKind.u64.wrap ((4294967296 : Int) * rhat4)) + (bShr .u64 (bShl .u64 lo (IntKind.u64.wrap y1)) (32 : Int)))) < (IntKind.u64.wrap (q12 * (bAnd .u64 (bShl .u64 y (IntKind.u64.wrap y1)) (4294967295 : Int))))))))))))], mkH []⟩) ?_
            refine lok_c ((decide ((4294967296 : Int) ≤ q12)) || (decide ((IntKind.u64.wrap ((IntKind.u64.wrap ((4294967296 : Int) * rhat4)) + (bShr .u64 (bShl .u64 lo (IntKind.u64.wrap y1)) (32 : Int)))) < (IntKind.u64.wrap (q12 * (bAnd .u64 (bShl .u64 y (IntKind.u64.wrap y1)) (4294967295 : Int))))))) ?_ ?_
            · intro b_19
              replace H1 := cpos H1 b_19
              refine lok_skip ?_
              try simp only [thenL, blockL, ↓reduceIte, reduceCtorEq]
              refine lok_block ?_
              refine lok_rt E0 (⟨135, mkS [(2, .x (.one (.p (.val (.int .u64 (bShl .u64 y (IntKind.u64.wrap y1))))))), (8, .x (.one (.p (.val (.int .u64 (IntKind.u64.wrap y1)))))), (9, .x (.one (.p (.val (.int .u64 (bShr .u64 (bShl .u64 y (IntKind.u64.wrap y1)) (32 : Int))))))), (10, .x (.one (.p (.val (.int .u64 (bAnd .u64 (bShl .u64 y (IntKind.u64.wrap y1)) (4294967295 : Int))))))), (11, .x (.one (.p (.val (.int .u64 un32))))), (13, .x (.one (.p (.val (.int .u64 (bShr .u64 (bShl .u64 lo (IntKind.u64.wrap y1)) (32 : Int))))))), (14, .x (.one (.p (.val (.int .u64 (bAnd .u64 (bShl .u64 lo (IntKind.u64.wrap y1)) (4294967295 : Int))))))), (15, .x (.one (.p (.val (.int .u64 (IntKind.u64.wrap (q12 - (1 : Int)))))))), (16, .x (.one (.p (.val (.int .u64 rhat4)))))], mkH []⟩) ?_
              replace H1 := bindV_some H1
              obtain ⟨rhat5, a_17, H1⟩ := H1
              refine lok_rtg E0 a_17 (⟨135, mkS [(2, .x (.one (.p (.val (.int .u64 (bShl .u64 y (IntKind.u64.wrap y1))))))), (8, .x (.one (.p (.val (.int .u64 (IntKind.u64.wrap y1)))))), (9, .x (.one (.p (.val (.int .u64 (bShr .u64 (bShl .u64 y (IntKind.u64.wrap y1)) (32 : Int))))))), (10, .x (.one (.p (.val (.int .u64 (bAnd .u64 (bShl .u64 y (IntKind.u64.wrap y1)) (4294967295 : Int))))))), (11, .x (.one (.p (.val (.int .u64 un32))))), (13, .x (.one (.p (.val (.int .u64 (bShr .u64 (bShl .u64 lo (IntKind.u64.wrap y1)) (32 : Int))))))), (14, .x (.one (.p (.val (.int .u64 (bAnd .u64 (bShl .u64 lo (IntKind.u64.wrap y1)) (4294967295 : Int))))))), (15, .x (.one (.p (.val (.int .u64 (IntKind.u64.wrap (q12 - (1 : Int)))))))), (16, .x (.one (.p (.val (.int .u64 rhat5)))))], mkH []⟩) ?_
              refine lok_rt E0 (⟨135, mkS [(2, .x (.one (.p (.val (.int .u64 (bShl .u64 y (IntKind.u64.wrap y1))))))), (8, .x (.one (.p (.val (.int .u64 (IntKind.u64.wrap y1)))))), (9, .x (.one (.p (.val (.int .u64 (bShr .u64 (bShl .u64 y (IntKind.u64.wrap y1)) (32 : Int))))))), (10, .x (.one (.p (.val (.int .u64 (bAnd .u64 (bShl .u64 y (IntKind.u64.wrap y1)) (4294967295 : Int))))))), (11, .x (.one (.p (.val (.int .u64 un32))))), (13, .x (.one (.p (.val (.int .u64 (bShr .u64 (bShl .u64 lo (IntKind.u64.wrap y1)) (32 : Int))))))), (14, .x (.one (.p (.val (.int .u64 (bAnd .u64 (bShl .u64 lo (IntKind.u64.wrap y1)) (4294967295 : Int))))))), (15, .x (.one (.p (.val (.int .u64 (IntKind.u64.wrap (q12 - (1 : Int)))))))), (16, .x (.one (.p (.val (.int .u64 rhat5))))), (85, .x (.one (.p (.val (.bool (decide ((4294967296 : Int) ≤ rhat5)))))))], mkH []⟩) ?_
              refine lok_c (decide ((4294967296 : Int) ≤ rhat5)) ?_ ?_
              · intro b_18
                replace H1 := cpos H1 b_18
                refine lok_exit ?_
                try simp only [thenL, blockL, ↓reduceIte, reduceCtorEq]
                have e_1 := k_1 _ (Option.some.inj H1).symm
                subst e_1
                try dsimp only at H0
                try simp only [thenL, blockL, ↓reduceIte, reduceCtorEq]
                exact ⟨(IntKind.u64.wrap (q12 - (1 : Int))), H0, imp_au⟩
              · intro b_18
                replace H1 := cneg H1 b_18
                refine lok_skip ?_
                try simp only [thenL, blockL, ↓reduceIte, reduceCtorEq]
                exact ⟨((IntKind.u64.wrap (q12 - (1 : Int))), rhat5), (Option.some.inj H1).symm, imp_au⟩
            · intro b_19
              replace H1 := cneg H1 b_19
              refine lok_exit ?_
              try simp only [thenL, blockL, ↓reduceIte, reduceCtorEq]
              have e_1 := k_1 _ (Option.some.inj H1).symm
              subst e_1
              try dsimp only at H0
              try simp only [thenL, blockL, ↓reduceIte, reduceCtorEq]
              exact ⟨q12, H0, imp_au⟩
    case hxbits_Div64_j5 =>
      refine lok_rt E0 (⟨135, mkS [(0, .x (.one (.p (.val (.int .u64 hi))))), (1, .x (.one (.p (.val (.int .u64 lo))))), (2, .x (.one (.p (.val (.int .u64 y))))), (24, .x (.one (.p (.val (.bool (decide (y ≤ hi)))))))], mkH []⟩) ?_
      refine lok_c (decide (y ≤ hi)) ?_ ?_
      · intro b_26
        replace H0 := cpos H0 b_26
        cases H0
      · intro b_26
        replace H0 := cneg H0 b_26
        refine lok_skip ?_
        try simp only [thenL, blockL, ↓reduceIte, reduceCtorEq]
        exact ⟨(), H0, imp_au⟩
  case hxbits_Div64_j6 =>
    refine lok_rt E0 (⟨135, mkS [(0, .x (.one (.p (.val (.int .u64 hi))))), (1, .x (.one (.p (.val (.int .u64 lo))))), (2, .x (.one (.p (.val (.int .u64 y))))), (20, .x (.one (.p (.val (.bool (y == (0 : Int)))))))], mkH []⟩) ?_
    refine lok_c (y == (0 : Int)) ?_ ?_
    · intro b_27
      replace H0 := cpos H0 b_27
      cases H0
    · intro b_27
      replace H0 := cneg H0 b_27
      refine lok_skip ?_
      try simp only [thenL, blockL, ↓reduceIte, reduceCtorEq]
      exact ⟨(), H0, imp_au⟩
theorem ok_ratio_wide_over (a : ratio_wide) (d : Int) (r_ : ratio_wide) (H0 : ratio_wide_over a d = some r_) : CallOK Tryd.prog 27 [.agg [.p (.val (.int .u64 a.hi)), .p (.val (.int .u64 a.lo))], .one (.p (.val (.int .u64 d)))] [] [.agg [.p (.val (.int .u64 r_.hi)), .p (.val (.int .u64 r_.lo))]] [] := by
  refine callOK (n := 28) (rs := [.cell 4 46]) (nb := 0) (V := []) Tryd.func27 rfl (by kernel_rfl) rfl rfl rfl rfl (Nat.le_of_ble_eq_true rfl) (by decide) ?_
  unfold ratio_wide_over at H0
  refine lok_rt E0 (⟨28, mkS [(1, .x (.one (.p (.val (.int .u64 d))))), (2, .x (.one (.ptr 102 0))), (4, .x (.one (.ptr 104 0)))], mkH [(102, .var [.p (.val (.int .u64 a.hi)), .p (.val (.int .u64 a.lo))]), (104, .var [.p (.val (.int .u64 (0 : Int))), .p (.val (.int .u64 (0 : Int)))])]⟩) ?_
  replace H0 := req_some H0
  obtain ⟨q_1, H0⟩ := H0
  refine lok_dt E0 9 (⟨28, mkS [(1, .x (.one (.p (.val (.int .u64 d))))), (2, .x (.one (.ptr 102 0))), (4, .x (.one (.ptr 104 0))), (5, .x (.one (.p (.val (.int .u64 (IntKind.u64.wrap (Int.tdiv a.hi d))))))), (6, .x (.one (.p (.val (.int .u64 (Int.tmod a.hi d))))))], mkH [(102, .var [.p (.val (.int .u64 a.hi)), .p (.val (.int .u64 a.lo))]), (104, .var [.p (.val (.int .u64 (0 : Int))), .p (.val (.int .u64 (0 : Int)))])]⟩) (by kernel_rfl) (by kernel_rfl) ?_
  replace H0 := bind_some H0
  obtain ⟨⟨y, y1⟩, h_0, H0⟩ := H0
  try dsimp only at H0
  refine lok_rt (Env.of E0 [⟨some 22, 52, [.one (.p (.val (.int .u64 (Int.tmod a.hi d)))), .one (.p (.val (.int .u64 a.lo))), .one (.p (.val (.int .u64 d)))], [], [.one (.p (.val (.int .u64 y))), .one (.p (.val (.int .u64 y1)))], [], True, fun _ => ok_bits_Div64 (Int.tmod a.hi d) a.lo d (y, y1) h_0, []⟩]) (⟨28, mkS [(4, .x (.one (.ptr 104 0))), (5, .x (.one (.p (.val (.int .u64 (IntKind.u64.wrap (Int.tdiv a.hi d))))))), (7, .x (.one (.p (.val (.int .u64 y)))))], mkH [(104, .var [.p (.val (.int .u64 (0 : Int))), .p (.val (.int .u64 (0 : Int)))])]⟩) ?_
  refine lok_rt E0 (⟨28, mkS [(4, .x (.one (.ptr 104 0)))], mkH [(104, .var [.p (.val (.int .u64 (IntKind.u64.wrap (Int.tdiv a.hi d)))), .p (.val (.int .u64 y))])]⟩) ?_
  refine lok_ret ?_
  obtain rfl := Option.some.inj H0
  try simp only [thenL, blockL]
  exact fin_au _ (.inr rfl) [] (⟨28, mkS [(4, .x (.one (.ptr 104 0)))], mkH [(104, .var [.p (.val (.int .u64 (IntKind.u64.wrap (Int.tdiv a.hi d)))), .p (.val (.int .u64 y))])]⟩) rfl rfl imp_au
theorem ok_bits_Rem64 (hi : Int) (lo : Int) (y : Int) (r_ : Int) (H0 : bits_Rem64 hi lo y = some r_) : CallOK Tryd.prog 53 [.one (.p (.val (.int .u64 hi))), .one (.p (.val (.int .u64 lo))), .one (.p (.val (.int .u64 y)))] [] [.one (.p (.val (.int .u64 r_)))] [] := by
  refine callOK (n := 19) (rs := [.tmp 6]) (nb := 0) (V := []) Tryd.func53 rfl (by kernel_rfl) rfl rfl rfl rfl (Nat.le_of_ble_eq_true rfl) (by decide) ?_
  unfold bits_Rem64 at H0
  refine lok_rt E0 (⟨19, mkS [(0, .x (.one (.p (.val (.int .u64 hi))))), (1, .x (.one (.p (.val (.int .u64 lo))))), (2, .x (.one (.p (.val (.int .u64 y)))))], mkH []⟩) ?_
  replace H0 := req_some H0
  obtain ⟨q_1, H0⟩ := H0
  replace H0 := bind_some H0
  obtain ⟨⟨y1, y2⟩, h_0, H0⟩ := H0
  try dsimp only at H0
  refine lok_rt (Env.of E0 [⟨some 15, 52, [.one (.p (.val (.int .u64 (Int.tmod hi y)))), .one (.p (.val (.int .u64 lo))), .one (.p (.val (.int .u64 y)))], [], [.one (.p (.val (.int .u64 y1))), .one (.p (.val (.int .u64 y2)))], [], True, fun _ => ok_bits_Div64 (Int.tmod hi y) lo y (y1, y2) h_0, []⟩]) (⟨19, mkS [(8, .x (.one (.p (.val (.int .u64 y2)))))], mkH []⟩) ?_
  refine lok_rt E0 (⟨19, mkS [(6, .x (.one (.p (.val (.int .u64 y2)))))], mkH []⟩) ?_
  refine lok_ret ?_
  obtain rfl := Option.some.inj H0
  try simp only [thenL, blockL]
  exact fin_au _ (.inr rfl) [] (⟨19, mkS [(6, .x (.one (.p (.val (.int .u64 y2)))))], mkH []⟩) rfl rfl imp_au
theorem ok_ratio_wide_mod (a : ratio_wide) (d : Int) (r_ : Int) (H0 : ratio_wide_mod a d = some r_) : CallOK Tryd.prog 28 [.agg [.p (.val (.int .u64 a.hi)), .p (.val (.int .u64 a.lo))], .one (.p (.val (.int .u64 d)))] [] [.one (.p (.val (.int .u64 r_)))] [] := by
  refine callOK (n := 11) (rs := [.tmp 4]) (nb := 0) (V := []) Tryd.func28 rfl (by kernel_rfl) rfl rfl rfl rfl (Nat.le_of_ble_eq_true rfl) (by decide) ?_
  unfold ratio_wide_mod at H0
  refine lok_rt E0 (⟨11, mkS [(1, .x (.one (.p (.val (.int .u64 d))))), (2, .x (.one (.ptr 102 0)))], mkH [(102, .var [.p (.val (.int .u64 a.hi)), .p (.val (.int .u64 a.lo))])]⟩) ?_
  replace H0 := bind_some H0
  obtain ⟨y, h_0, H0⟩ := H0
  refine lok_rt (Env.of E0 [⟨some 10, 53, [.one (.p (.val (.int .u64 a.hi))), .one (.p (.val (.int .u64 a.lo))), .one (.p (.val (.int .u64 d)))], [], [.one (.p (.val (.int .u64 y)))], [], True, fun _ => ok_bits_Rem64 a.hi a.lo d y h_0, []⟩]) (⟨11, mkS [(4, .x (.one (.p (.val (.int .u64 y)))))], mkH []⟩) ?_
  refine lok_ret ?_
  obtain rfl := Option.some.inj H0
  try simp only [thenL, blockL]
  exact fin_au _ (.inr rfl) [] (⟨11, mkS [(4, .x (.one (.p (.val (.int .u64 y)))))], mkH []⟩) rfl rfl imp_au
theorem ok_ratio_gcd (a : Int) (b : Int) (r_ : Int) (H0 : ratio_gcd a b = some r_) : CallOK Tryd.prog 50 [.one (.p (.val (.int .u64 a))), .one (.p (.val (.int .u64 b)))] [] [.one (.p (.val (.int .u64 r_)))] [] := by
  refine callOK (n := 12) (rs := [.tmp 4]) (nb := 0) (V := []) Tryd.func50 rfl (by kernel_rfl) rfl rfl rfl rfl (Nat.le_of_ble_eq_true rfl) (by decide) ?_
  unfold ratio_gcd at H0
  refine lok_rt E0 (⟨12, mkS [(0, .x (.one (.p (.val (.int .u64 a))))), (1, .x (.one (.p (.val (.int .u64 b)))))], mkH []⟩) ?_
  refine lok_join (fun x_ : Int => ratio_gcd_j1 x_ = some r_) (fun x_ => ⟨12, mkS [(0, .x (.one (.p (.val (.int .u64 x_)))))], mkH []⟩) ?hyratio_gcd_j1 ?hxratio_gcd_j1
  case hyratio_gcd_j1 =>
    rintro a1 H0
    try dsimp only at H0 ⊢
    unfold ratio_gcd_j1 at H0
    refine lok_rt E0 (⟨12, mkS [(4, .x (.one (.p (.val (.int .u64 a1)))))], mkH []⟩) ?_
    refine lok_ret ?_
    obtain rfl := Option.some.inj H0
    try simp only [thenL, blockL]
    exact fin_au _ (.inr rfl) [] (⟨12, mkS [(4, .x (.one (.p (.val (.int .u64 a1)))))], mkH []⟩) rfl rfl imp_au
  case hxratio_gcd_j1 =>
    refine lok_block ?_
    replace H0 := bind_some H0
    obtain ⟨v_0, hv_0, H0⟩ := H0
    refine lok_iter (fun x_ => ⟨12, mkS [(0, .x (.one (.p (.val (.int .u64 x_.1))))), (1, .x (.one (.p (.val (.int .u64 x_.2)))))], mkH []⟩) hv_0 imp_au ?_
    · rintro ⟨a2, b1⟩ o_1 H1 k_1
      unfold ratio_gcd_l2 at H1
      try dsimp only at H1 ⊢
      refine lok_seq ?_
      refine lok_rt E0 (⟨12, mkS [(0, .x (.one (.p (.val (.int .u64 a2))))), (1, .x (.one (.p (.val (.int .u64 b1))))), (6, .x (.one (.p (.val (.bool (b1 != (0 : Int)))))))], mkH []⟩) ?_
      refine lok_c (b1 != (0 : Int)) ?_ ?_
      · intro b_2
        replace H1 := cpos H1 b_2
        refine lok_skip ?_
        try simp only [thenL, blockL, ↓reduceIte, reduceCtorEq]
        refine lok_block ?_
        replace H1 := req_some H1
        obtain ⟨q_1, H1⟩ := H1
        refine lok_dl E0 5 (⟨12, mkS [(0, .x (.one (.p (.val (.int .u64 b1))))), (1, .x (.one (.p (.val (.int .u64 (Int.tmod a2 b1))))))], mkH []⟩) (by kernel_rfl) (by kernel_rfl) ?_
        try simp only [thenL, blockL, ↓reduceIte, reduceCtorEq]
        exact ⟨(b1, (Int.tmod a2 b1)), (Option.some.inj H1).symm, imp_au⟩
      · intro b_2
        replace H1 := cneg H1 b_2
        refine lok_exit ?_
        try simp only [thenL, blockL, ↓reduceIte, reduceCtorEq]
        have e_1 := k_1 _ (Option.some.inj H1).symm
        subst e_1
        try dsimp only at H0
        try simp only [thenL, blockL, ↓reduceIte, reduceCtorEq]
        exact ⟨a2, H0, imp_au⟩
theorem ok_ratio_fitted (neg : Bool) (num : ratio_wide) (den : ratio_wide) (r_ : api_Ratio × Int) (H0 : ratio_fitted neg num den = some r_) : CallOK Tryd.prog 61 [.one (.p (.val (.bool neg))), .agg [.p (.val (.int .u64 num.hi)), .p (.val (.int .u64 num.lo))], .agg [.p (.val (.int .u64 den.hi)), .p (.val (.int .u64 den.lo))]] [] [.agg [.p (pi r_.1.Num), .p (pi r_.1.Den)], .one (.p (pi r_.2))] [] := by
  refine callOK (n := 39) (rs := [.cell 6 24, .tmp 7]) (nb := 0) (V := []) Tryd.func61 rfl (by kernel_rfl) rfl rfl rfl rfl (Nat.le_of_ble_eq_true rfl) (by decide) ?_
  unfold ratio_fitted at H0
  refine lok_rt E0 (⟨39, mkS [(0, .x (.one (.p (.val (.bool neg))))), (4, .x (.one (.ptr 104 0))), (5, .x (.one (.ptr 105 0))), (6, .x (.one (.ptr 106 0)))], mkH [(104, .var [.p (.val (.int .u64 num.hi)), .p (.val (.int .u64 num.lo))]), (105, .var [.p (.val (.int .u64 den.hi)), .p (.val (.int .u64 den.lo))]), (106, .var [.p (pi (0 : Int)), .p (pi (0 : Int))])]⟩) ?_
  refine lok_seq ?_
  refine lok_rt E0 (⟨39, mkS [(0, .x (.one (.p (.val (.bool neg))))), (4, .x (.one (.ptr 104 0))), (5, .x (.one (.ptr 105 0))), (6, .x (.one (.ptr 106 0))), (26, .x (.one (.p (.val (.bool ((((num.hi != (0 : Int)) || (den.hi != (0 : Int))) || (decide ((1152921504606846976 : Int) < num.lo))) || (decide ((1152921504606846976 : Int) < den.lo))))))))], mkH [(104, .var [.p (.val (.int .u64 num.hi)), .p (.val (.int .u64 num.lo))]), (105, .var [.p (.val (.int .u64 den.hi)), .p (.val (.int .u64 den.lo))]), (106, .var [.p (pi (0 : Int)), .p (pi (0 : Int))])]⟩) ?_
  refine lok_c ((((num.hi != (0 : Int)) || (den.hi != (0 : Int))) || (decide ((1152921504606846976 : Int) < num.lo))) || (decide ((1152921504606846976 : Int) < den.lo))) ?_ ?_
  · intro b_1
    replace H0 := cpos H0 b_1
    refine lok_rt E0 (⟨39, mkS [(6, .x (.one (.ptr 106 0))), (7, .x (.one (.p (pi (6 : Int)))))], mkH [(106, .var [.p (pi (0 : Int)), .p (pi (0 : Int))])]⟩) ?_
    refine lok_ret ?_
    obtain rfl := Option.some.inj H0
    try simp only [thenL, blockL]
    exact fin_au _ (.inr rfl) [] (⟨39, mkS [(6, .x (.one (.ptr 106 0))), (7, .x (.one (.p (pi (6 : Int)))))], mkH [(106, .var [.p (pi (0 : Int)), .p (pi (0 : Int))])]⟩) rfl rfl imp_au
  · intro b_1
    replace H0 := cneg H0 b_1
    refine lok_skip ?_
    try simp only [thenL, blockL, ↓reduceIte, reduceCtorEq]
    refine lok_rt E0 (⟨39, mkS [(0, .x (.one (.p (.val (.bool neg))))), (5, .x (.one (.ptr 105 0))), (6, .x (.one (.ptr 106 0))), (8, .x (.one (.p (pi (IntKind.i64.wrap num.lo)))))], mkH [(105, .var [.p (.val (.int .u64 den.hi)), .p (.val (.int .u64 den.lo))]), (106, .var [.p (pi (0 : Int)), .p (pi (0 : Int))])]⟩) ?_
    refine lok_join (fun x_ : Int => ratio_fitted_j1 den x_ = some r_) (fun x_ => ⟨39, mkS [(5, .x (.one (.ptr 105 0))), (6, .x (.one (.ptr 106 0))), (8, .x (.one (.p (pi x_))))], mkH [(105, .var [.p (.val (.int .u64 den.hi)), .p (.val (.int .u64 den.lo))]), (106, .var [.p (pi (0 : Int)), .p (pi (0 : Int))])]⟩) ?hyratio_fitted_j1 ?hxratio_fitted_j1
    case hyratio_fitted_j1 =>
      rintro n H0
      try dsimp only at H0 ⊢
      unfold ratio_fitted_j1 at H0
      refine lok_rt E0 (⟨39, mkS [(6, .x (.one (.ptr 106 0))), (7, .x (.one (.p (pi (0 : Int)))))], mkH [(106, .var [.p (pi n), .p (pi (IntKind.i64.wrap den.lo))])]⟩) ?_
      refine lok_ret ?_
      obtain rfl := Option.some.inj H0
      try simp only [thenL, blockL]
      exact fin_au _ (.inr rfl) [] (⟨39, mkS [(6, .x (.one (.ptr 106 0))), (7, .x (.one (.p (pi (0 : Int)))))], mkH [(106, .var [.p (pi n), .p (pi (IntKind.i64.wrap den.lo))])]⟩) rfl rfl imp_au
    case hxratio_fitted_j1 =>
      refine lok_rt E0 (⟨39, mkS [(5, .x (.one (.ptr 105 0))), (6, .x (.one (.ptr 106 0))), (8, .x (.one (.p (pi (IntKind.i64.wrap num.lo))))), (31, .x (.one (.p (.val (.bool neg)))))], mkH [(105, .var [.p (.val (.int .u64 den.hi)), .p (.val (.int .u64 den.lo))]), (106, .var [.p (pi (0 : Int)), .p (pi (0 : Int))])]⟩) ?_
      refine lok_c neg ?_ ?_
      · intro b_0
        replace H0 := cpos H0 b_0
        refine lok_rl E0 (⟨39, mkS [(5, .x (.one (.ptr 105 0))), (6, .x (.one (.ptr 106 0))), (8, .x (.one (.p (pi (IntKind.i64.wrap (0 - (IntKind.i64.wrap num.lo)))))))], mkH [(105, .var [.p (.val (.int .u64 den.hi)), .p (.val (.int .u64 den.lo))]), (106, .var [.p (pi (0 : Int)), .p (pi (0 : Int))])]⟩) ?_
        try simp only [thenL, blockL, ↓reduceIte, reduceCtorEq]
        exact ⟨(IntKind.i64.wrap (0 - (IntKind.i64.wrap num.lo))), H0, imp_au⟩
      · intro b_0
        replace H0 := cneg H0 b_0
        refine lok_skip ?_
        try simp only [thenL, blockL, ↓reduceIte, reduceCtorEq]
        exact ⟨(IntKind.i64.wrap num.lo), H0, imp_au⟩
theorem ok_ratio_reduced (num : ratio_signed) (den : Int) (r_ : api_Ratio × Int) (H0 : ratio_reduced num den = some r_) : CallOK Tryd.prog 41 [.agg [.p (.val (.bool num.neg)), .p (.val (.int .u64 num.abs.hi)), .p (.val (.int .u64 num.abs.lo))], .one (.p (.val (.int .u64 den)))] [] [.agg [.p (pi r_.1.Num), .p (pi r_.1.Den)], .one (.p (pi r_.2))] [] := by
  refine callOK (n := 26) (rs := [.cell 4 24, .tmp 5]) (nb := 0) (V := []) Tryd.func41 rfl (by kernel_rfl) rfl rfl rfl rfl (Nat.le_of_ble_eq_true rfl) (by decide) ?_
  unfold ratio_reduced at H0
  refine lok_rt E0 (⟨26, mkS [(1, .x (.one (.p (.val (.int .u64 den))))), (2, .x (.one (.ptr 102 0))), (4, .x (.one (.ptr 104 0)))], mkH [(102, .var [.p (.val (.bool num.neg)), .p (.val (.int .u64 num.abs.hi)), .p (.val (.int .u64 num.abs.lo))]), (104, .var [.p (pi (0 : Int)), .p (pi (0 : Int))])]⟩) ?_
  replace H0 := bind_some H0
  obtain ⟨y, h_0, H0⟩ := H0
  replace H0 := bind_some H0
  obtain ⟨y1, h_1, H0⟩ := H0
  refine lok_rt (Env.of E0 [⟨some 10, 28, [.agg [.p (.val (.int .u64 num.abs.hi)), .p (.val (.int .u64 num.abs.lo))], .one (.p (.val (.int .u64 den)))], [], [.one (.p (.val (.int .u64 y)))], [], True, fun _ => ok_ratio_wide_mod num.abs den y h_0, []⟩,
      ⟨some 12, 50, [.one (.p (.val (.int .u64 y))), .one (.p (.val (.int .u64 den)))], [], [.one (.p (.val (.int .u64 y1)))], [], True, fun _ => ok_ratio_gcd y den y1 h_1, []⟩]) (⟨26, mkS [(1, .x (.one (.p (.val (.int .u64 den))))), (2, .x (.one (.ptr 102 0))), (4, .x (.one (.ptr 104 0))), (6, .x (.one (.p (.val (.int .u64 y1)))))], mkH [(102, .var [.p (.val (.bool num.neg)), .p (.val (.int .u64 num.abs.hi)), .p (.val (.int .u64 num.abs.lo))]), (104, .var [.p (pi (0 : Int)), .p (pi (0 : Int))])]⟩) ?_
  replace H0 := bind_some H0
  obtain ⟨y2, h_2, H0⟩ := H0
  replace H0 := req_some H0
  obtain ⟨q_4, H0⟩ := H0
  replace H0 := bind_some H0
  obtain ⟨⟨y3, y4⟩, h_3, H0⟩ := H0
  try dsimp only at H0
  refine lok_dt (Env.of E0 [⟨some 18, 27, [.agg [.p (.val (.int .u64 num.abs.hi)), .p (.val (.int .u64 num.abs.lo))], .one (.p (.val (.int .u64 y1)))], [], [.agg [.p (.val (.int .u64 y2.hi)), .p (.val (.int .u64 y2.lo))]], [], True, fun _ => ok_ratio_wide_over num.abs y1 y2 h_2, []⟩,
      ⟨some 23, 61, [.one (.p (.val (.bool num.neg))), .agg [.p (.val (.int .u64 y2.hi)), .p (.val (.int .u64 y2.lo))], .agg [.p (.val (.int .u64 (0 : Int))), .p (.val (.int .u64 (IntKind.u64.wrap (Int.tdiv den y1))))]], [], [.agg [.p (pi y3.Num), .p (pi y3.Den)], .one (.p (pi y4))], [], True, fun _ => ok_ratio_fitted num.neg y2 (ratio_wide.mk (0 : Int) (IntKind.u64.wrap (Int.tdiv den y1))) (y3, y4) h_3, []⟩]) 13 (⟨26, mkS [(4, .x (.one (.ptr 104 0))), (5, .x (.one (.p (pi y4))))], mkH [(104, .var [.p (pi y3.Num), .p (pi y3.Den)])]⟩) (by kernel_rfl) (by kernel_rfl) ?_
  refine lok_ret ?_
  obtain rfl := Option.some.inj H0
  try simp only [thenL, blockL]
  exact fin_au _ (.inr rfl) [] (⟨26, mkS [(4, .x (.one (.ptr 104 0))), (5, .x (.one (.p (pi y4))))], mkH [(104, .var [.p (pi y3.Num), .p (pi y3.Den)])]⟩) rfl rfl imp_au
theorem ok_ratio_New (num : Int) (den : Int) (r_ : api_Ratio × Int) (H0 : ratio_New num den = some r_) : CallOK Tryd.prog 37 [.one (.p (pi num)), .one (.p (pi den))] [] [.agg [.p (pi r_.1.Num), .p (pi r_.1.Den)], .one (.p (pi r_.2))] [] := by
  refine callOK (n := 25) (rs := [.cell 4 24, .tmp 5]) (nb := 0) (V := []) Tryd.func37 rfl (by kernel_rfl) rfl rfl rfl rfl (Nat.le_of_ble_eq_true rfl) (by decide) ?_
  unfold ratio_New at H0
  refine lok_rt E0 (⟨25, mkS [(0, .x (.one (.p (pi num)))), (1, .x (.one (.p (pi den)))), (4, .x (.one (.ptr 104 0)))], mkH [(104, .var [.p (pi (0 : Int)), .p (pi (0 : Int))])]⟩) ?_
  refine lok_seq ?_
  refine lok_rt E0 (⟨25, mkS [(0, .x (.one (.p (pi num)))), (1, .x (.one (.p (pi den)))), (4, .x (.one (.ptr 104 0))), (8, .x (.one (.p (.val (.bool (den == (0 : Int)))))))], mkH [(104, .var [.p (pi (0 : Int)), .p (pi (0 : Int))])]⟩) ?_
  refine lok_c (den == (0 : Int)) ?_ ?_
  · intro b_3
    replace H0 := cpos H0 b_3
    refine lok_rt E0 (⟨25, mkS [(4, .x (.one (.ptr 104 0))), (5, .x (.one (.p (pi (2 : Int)))))], mkH [(104, .var [.p (pi (0 : Int)), .p (pi (0 : Int))])]⟩) ?_
    refine lok_ret ?_
    obtain rfl := Option.some.inj H0
    try simp only [thenL, blockL]
    exact fin_au _ (.inr rfl) [] (⟨25, mkS [(4, .x (.one (.ptr 104 0))), (5, .x (.one (.p (pi (2 : Int)))))], mkH [(104, .var [.p (pi (0 : Int)), .p (pi (0 : Int))])]⟩) rfl rfl imp_au
  · intro b_3
    replace H0 := cneg H0 b_3
    refine lok_skip ?_
    try simp only [thenL, blockL, ↓reduceIte, reduceCtorEq]
    refine lok_rt E0 (⟨25, mkS [(0, .x (.one (.p (pi num)))), (1, .x (.one (.p (pi den)))), (4, .x (.one (.ptr 104 0))), (6, .x (.one (.p (.val (.bool (!((decide (num < (0 : Int))) == (decide (den < (0 : Int))))))))))], mkH [(104, .var [.p (pi (0 : Int)), .p (pi (0 : Int))])]⟩) ?_
    replace H0 := bind_some H0
    obtain ⟨y, h_0, H0⟩ := H0
    replace H0 := bind_some H0
    obtain ⟨y1, h_1, H0⟩ := H0
    replace H0 := bind_some H0
    obtain ⟨⟨y2, y3⟩, h_2, H0⟩ := H0
    try dsimp only at H0
    refine lok_rt (Env.of E0 [⟨some 17, 25, [.one (.p (pi num))], [], [.one (.p (.val (.int .u64 y)))], [], True, fun _ => ok_ratio_magnitude num y h_0, []⟩,
      ⟨some 21, 25, [.one (.p (pi den))], [], [.one (.p (.val (.int .u64 y1)))], [], True, fun _ => ok_ratio_magnitude den y1 h_1, []⟩,
      ⟨some 22, 41, [.agg [.p (.val (.bool (!((decide (num < (0 : Int))) == (decide (den < (0 : Int))))))), .p (.val (.int .u64 (0 : Int))), .p (.val (.int .u64 y))], .one (.p (.val (.int .u64 y1)))], [], [.agg [.p (pi y2.Num), .p (pi y2.Den)], .one (.p (pi y3))], [], True, fun _ => ok_ratio_reduced (ratio_signed.mk (!((decide (num < (0 : Int))) == (decide (den < (0 : Int))))) (ratio_wide.mk (0 : Int) y)) y1 (y2, y3) h_2, []⟩]) (⟨25, mkS [(4, .x (.one (.ptr 104 0))), (5, .x (.one (.p (pi y3))))], mkH [(104, .var [.p (pi y2.Num), .p (pi y2.Den)])]⟩) ?_
    refine lok_ret ?_
    obtain rfl := Option.some.inj H0
    try simp only [thenL, blockL]
    exact fin_au _ (.inr rfl) [] (⟨25, mkS [(4, .x (.one (.ptr 104 0))), (5, .x (.one (.p (pi y3))))], mkH [(104, .var [.p (pi y2.Num), .p (pi y2.Den)])]⟩) rfl rfl imp_au
theorem ok_cmp_isNaN_int (x : Int) (r_ : Bool) (H0 : cmp_isNaN_int x = some r_) : CallOK Tryd.prog 74 [.one (.p (pi x))] [] [.one (.p (.val (.bool r_)))] [] := by
  refine callOK (n := 6) (rs := [.tmp 2]) (nb := 0) (V := []) Tryd.func74 rfl (by kernel_rfl) rfl rfl rfl rfl (Nat.le_of_ble_eq_true rfl) (by decide) ?_
  unfold cmp_isNaN_int at H0
  refine lok_rt E0 (⟨6, mkS [(0, .x (.one (.p (pi x))))], mkH []⟩) ?_
  refine lok_rt E0 (⟨6, mkS [(2, .x (.one (.p (.val (.bool (x != x))))))], mkH []⟩) ?_
  refine lok_ret ?_
  obtain rfl := Option.some.inj H0
  try simp only [thenL, blockL]
  exact fin_au _ (.inr rfl) [] (⟨6, mkS [(2, .x (.one (.p (.val (.bool (x != x))))))], mkH []⟩) rfl rfl imp_au
theorem ok_cmp_Compare_int (x : Int) (y : Int) (r_ : Int) (H0 : cmp_Compare_int x y = some r_) : CallOK Tryd.prog 59 [.one (.p (pi x)), .one (.p (pi y))] [] [.one (.p (pi r_))] [] := by
  refine callOK (n := 20) (rs := [.tmp 4]) (nb := 0) (V := []) Tryd.func59 rfl (by kernel_rfl) rfl rfl rfl rfl (Nat.le_of_ble_eq_true rfl) (by decide) ?_
  unfold cmp_Compare_int at H0
  refine lok_rt E0 (⟨20, mkS [(0, .x (.one (.p (pi x)))), (1, .x (.one (.p (pi y))))], mkH []⟩) ?_
  replace H0 := bind_some H0
  obtain ⟨y1, h_0, H0⟩ := H0
  refine lok_rt (Env.of E0 [⟨some 8, 74, [.one (.p (pi x))], [], [.one (.p (.val (.bool y1)))], [], True, fun _ => ok_cmp_isNaN_int x y1 h_0, []⟩]) (⟨20, mkS [(0, .x (.one (.p (pi x)))), (1, .x (.one (.p (pi y)))), (5, .x (.one (.p (.val (.bool y1)))))], mkH []⟩) ?_
  replace H0 := bind_some H0
  obtain ⟨y2, h_1, H0⟩ := H0
  refine lok_rt (Env.of E0 [⟨some 10, 74, [.one (.p (pi y))], [], [.one (.p (.val (.bool y2)))], [], True, fun _ => ok_cmp_isNaN_int y y2 h_1, []⟩]) (⟨20, mkS [(0, .x (.one (.p (pi x)))), (1, .x (.one (.p (pi y)))), (5, .x (.one (.p (.val (.bool y1))))), (6, .x (.one (.p (.val (.bool y2)))))], mkH []⟩) ?_
  refine lok_seq ?_
  refine lok_rt E0 (⟨20, mkS [(0, .x (.one (.p (pi x)))), (1, .x (.one (.p (pi y)))), (6, .x (.one (.p (.val (.bool y2))))), (11, .x (.one (.p (.val (.bool y1)))))], mkH []⟩) ?_
  refine lok_c y1 ?_ ?_
  · intro b_6
    replace H0 := cpos H0 b_6
    refine lok_seq ?_
    refine lok_rt E0 (⟨20, mkS [(12, .x (.one (.p (.val (.bool y2)))))], mkH []⟩) ?_
    refine lok_c y2 ?_ ?_
    · intro b_2
      replace H0 := cpos H0 b_2
      refine lok_rt E0 (⟨20, mkS [(4, .x (.one (.p (pi (0 : Int)))))], mkH []⟩) ?_
      refine lok_ret ?_
      obtain rfl := Option.some.inj H0
      try simp only [thenL, blockL]
      exact fin_au _ (.inr rfl) [] (⟨20, mkS [(4, .x (.one (.p (pi (0 : Int)))))], mkH []⟩) rfl rfl imp_au
    · intro b_2
      replace H0 := cneg H0 b_2
      refine lok_skip ?_
      try simp only [thenL, blockL, ↓reduceIte, reduceCtorEq]
      refine lok_rt E0 (⟨20, mkS [(4, .x (.one (.p (pi (-1 : Int)))))], mkH []⟩) ?_
      refine lok_ret ?_
      obtain rfl := Option.some.inj H0
      try simp only [thenL, blockL]
      exact fin_au _ (.inr rfl) [] (⟨20, mkS [(4, .x (.one (.p (pi (-1 : Int)))))], mkH []⟩) rfl rfl imp_au
  · intro b_6
    replace H0 := cneg H0 b_6
    refine lok_skip ?_
    try simp only [thenL, blockL, ↓reduceIte, reduceCtorEq]
    refine lok_seq ?_
    refine lok_rt E0 (⟨20, mkS [(0, .x (.one (.p (pi x)))), (1, .x (.one (.p (pi y)))), (13, .x (.one (.p (.val (.bool y2)))))], mkH []⟩) ?_
    refine lok_c y2 ?_ ?_
    · intro b_5
      replace H0 := cpos H0 b_5
      refine lok_rt E0 (⟨20, mkS [(4, .x (.one (.p (pi (1 : Int)))))], mkH []⟩) ?_
      refine lok_ret ?_
      obtain rfl := Option.some.inj H0
      try simp only [thenL, blockL]
      exact fin_au _ (.inr rfl) [] (⟨20, mkS [(4, .x (.one (.p (pi (1 : Int)))))], mkH []⟩) rfl rfl imp_au
    · intro b_5
      replace H0 := cneg H0 b_5
      refine lok_skip ?_
      try simp only [thenL, blockL, ↓reduceIte, reduceCtorEq]
      refine lok_seq ?_
      refine lok_rt E0 (⟨20, mkS [(0, .x (.one (.p (pi x)))), (1, .x (.one (.p (pi y)))), (16, .x (.one (.p (.val (.bool (decide (x < y)))))))], mkH []⟩) ?_
      refine lok_c (decide (x < y)) ?_ ?_
      · intro b_4
        replace H0 := cpos H0 b_4
        refine lok_rt E0 (⟨20, mkS [(4, .x (.one (.p (pi (-1 : Int)))))], mkH []⟩) ?_
        refine lok_ret ?_
        obtain rfl := Option.some.inj H0
        try simp only [thenL, blockL]
        exact fin_au _ (.inr rfl) [] (⟨20, mkS [(4, .x (.one (.p (pi (-1 : Int)))))], mkH []⟩) rfl rfl imp_au
      · intro b_4
        replace H0 := cneg H0 b_4
        refine lok_skip ?_
        try simp only [thenL, blockL, ↓reduceIte, reduceCtorEq]
        refine lok_seq ?_
        refine lok_rt E0 (⟨20, mkS [(19, .x (.one (.p (.val (.bool (decide (y < x)))))))], mkH []⟩) ?_
        refine lok_c (decide (y < x)) ?_ ?_
        · intro b_3
          replace H0 := cpos H0 b_3
          refine lok_rt E0 (⟨20, mkS [(4, .x (.one (.p (pi (1 : Int)))))], mkH []⟩) ?_
          refine lok_ret ?_
          obtain rfl := Option.some.inj H0
          try simp only [thenL, blockL]
          exact fin_au _ (.inr rfl) [] (⟨20, mkS [(4, .x (.one (.p (pi (1 : Int)))))], mkH []⟩) rfl rfl imp_au
        · intro b_3
          replace H0 := cneg H0 b_3
          refine lok_skip ?_
          try simp only [thenL, blockL, ↓reduceIte, reduceCtorEq]
          refine lok_rt E0 (⟨20, mkS [(4, .x (.one (.p (pi (0 : Int)))))], mkH []⟩) ?_
          refine lok_ret ?_
          obtain rfl := Option.some.inj H0
          try simp only [thenL, blockL]
          exact fin_au _ (.inr rfl) [] (⟨20, mkS [(4, .x (.one (.p (pi (0 : Int)))))], mkH []⟩) rfl rfl imp_au
theorem ok_ratio_Apportion_f1 (i : Int) (j : Int) (c : Int) (c_1 : List Int) (c_2 : Int) (r_ : Int) (H0 : ratio_Apportion_f1 i j c c_1 c_2 = some r_) : CallOK Tryd.prog 58 [.one (.p (pi i)), .one (.p (pi j)), .one (.ptr 0 0), .one (.ptr 1 0), .one (.ptr 2 0)] [.var [.p (pi c)], .var [.p (.sl 1 (List.map encI c_1))], .var [.p (pi c_2)]] [.one (.p (pi r_))] [some (.var [.p (pi c)]), some (.var [.p (.sl 1 (List.map encI c_1))]), some (.var [.p (pi c_2)])] := by
  refine callOK (n := 25) (rs := [.tmp 7]) (nb := 3) (V := [0, 1, 2]) Tryd.func58 rfl (by kernel_rfl) rfl rfl rfl rfl (Nat.le_of_ble_eq_true rfl) (by decide) ?_
  unfold ratio_Apportion_f1 at H0
  refine lok_rt E0 (⟨25, mkS [(0, .x (.one (.p (pi i)))), (1, .x (.one (.p (pi j)))), (2, .x (.one (.ptr 0 0))), (3, .x (.one (.ptr 1 0))), (4, .x (.one (.ptr 2 0)))], mkH [(0, .var [.p (pi c)]), (1, .var [.p (.sl 1 (List.map encI c_1))]), (2, .var [.p (pi c_2)])]⟩) ?_
  replace H0 := req_some H0
  obtain ⟨⟨q_1, q_2, q_3⟩, H0⟩ := H0
  replace H0 := bind_some H0
  obtain ⟨y, h_0, H0⟩ := H0
  refine lok_dt (Env.of E0 [⟨some 24, 59, [.one (.p (pi (Int.tmod (IntKind.i64.wrap (c * (ix c_1 j))) c_2))), .one (.p (pi (Int.tmod (IntKind.i64.wrap (c * (ix c_1 i))) c_2)))], [], [.one (.p (pi y))], [], True, fun _ => ok_cmp_Compare_int (Int.tmod (IntKind.i64.wrap (c * (ix c_1 j))) c_2) (Int.tmod (IntKind.i64.wrap (c * (ix c_1 i))) c_2) y h_0, []⟩]) 16 (⟨25, mkS [(7, .x (.one (.p (pi y))))], mkH [(0, .var [.p (pi c)]), (1, .var [.p (.sl 1 (List.map encI c_1))]), (2, .var [.p (pi c_2)])]⟩) (by kernel_rfl) (by kernel_rfl) ?_
  refine lok_ret ?_
  obtain rfl := Option.some.inj H0
  try simp only [thenL, blockL]
  exact fin_au _ (.inr rfl) [0, 1, 2] (⟨25, mkS [(7, .x (.one (.p (pi y))))], mkH [(0, .var [.p (pi c)]), (1, .var [.p (.sl 1 (List.map encI c_1))]), (2, .var [.p (pi c_2)])]⟩) rfl rfl imp_au
set_option maxHeartbeats 4000000 in
theorem ok_slices_insertionSortCmpFunc_int_ratio_Apportion_f1 (data : List Int) (a : Int) (b : Int) (cmp_c : Int) (cmp_c_1 : List Int) (cmp_c_2 : Int) (r_ : (List Int)) (H0 : slices_insertionSortCmpFunc_int_ratio_Apportion_f1 data a b cmp_c cmp_c_1 cmp_c_2 = some r_) : CallOK Tryd.prog 83 [.one (.vw 0), .one (.p (pi a)), .one (.p (pi b)), .one (.fn 58 [1, 2, 3])] [.arr 1 (List.map encI data), .var [.p (pi cmp_c)], .var [.p (.sl 1 (List.map encI cmp_c_1))], .var [.p (pi cmp_c_2)]] [] [some (.arr 1 (List.map encI r_)), some (.var [.p (pi cmp_c)]), some (.var [.p (.sl 1 (List.map encI cmp_c_1))]), some (.var [.p (pi cmp_c_2)])] := by
  refine callOK (n := 53) (rs := []) (nb := 4) (V := [0, 1, 2, 3]) Tryd.func83 rfl (by kernel_rfl) rfl rfl rfl rfl (Nat.le_of_ble_eq_true rfl) (by decide) ?_
  unfold slices_insertionSortCmpFunc_int_ratio_Apportion_f1 at H0
  refine lok_rt E0 (⟨53, mkS [(0, .x (.one (.vw 0))), (1, .x (.one (.p (pi a)))), (2, .x (.one (.p (pi b)))), (3, .x (.one (.fn 58 [1, 2, 3]))), (8, .x (.one (.p (pi (IntKind.i64.wrap (a + (1 : Int)))))))], mkH [(0, .arr 1 (List.map encI data)), (1, .var [.p (pi cmp_c)]), (2, .var [.p (.sl 1 (List.map encI cmp_c_1))]), (3, .var [.p (pi cmp_c_2)])]⟩) ?_
  refine lok_block ?_
  replace H0 := bind_some H0
  obtain ⟨v_0, hv_0, H0⟩ := H0
  refine lok_iter (fun x_ => ⟨53, mkS [(0, .x (.one (.vw 0))), (1, .x (.one (.p (pi a)))), (2, .x (.one (.p (pi b)))), (3, .x (.one (.fn 58 [1, 2, 3]))), (8, .x (.one (.p (pi x_.1))))], mkH [(0, .arr 1 (List.map encI x_.2)), (1, .var [.p (pi cmp_c)]), (2, .var [.p (.sl 1 (List.map encI cmp_c_1))]), (3, .var [.p (pi cmp_c_2)])]⟩) hv_0 imp_au ?_
  · rintro ⟨i, data1⟩ o_1 H1 k_1
    unfold slices_insertionSortCmpFunc_int_ratio_Apportion_f1_l3 at H1
    try dsimp only at H1 ⊢
    refine lok_seq ?_
    refine lok_rt E0 (⟨53, mkS [(0, .x (.one (.vw 0))), (1, .x (.one (.p (pi a)))), (2, .x (.one (.p (pi b)))), (3, .x (.one (.fn 58 [1, 2, 3]))), (8, .x (.one (.p (pi i)))), (14, .x (.one (.p (.val (.bool (decide (i < b)))))))], mkH [(0, .arr 1 (List.map encI data1)), (1, .var [.p (pi cmp_c)]), (2, .var [.p (.sl 1 (List.map encI cmp_c_1))]), (3, .var [.p (pi cmp_c_2)])]⟩) ?_
    refine lok_c (decide (i < b)) ?_ ?_
    · intro b_6
      replace H1 := cpos H1 b_6
      refine lok_skip ?_
      try simp only [thenL, blockL, ↓reduceIte, reduceCtorEq]
      refine lok_join (fun x_ : (List Int) => slices_insertionSortCmpFunc_int_ratio_Apportion_f1_j1 i x_ = some o_1) (fun x_ => ⟨53, mkS [(0, .x (.one (.vw 0))), (1, .x (.one (.p (pi a)))), (2, .x (.one (.p (pi b)))), (3, .x (.one (.fn 58 [1, 2, 3]))), (8, .x (.one (.p (pi i))))], mkH [(0, .arr 1 (List.map encI x_)), (1, .var [.p (pi cmp_c)]), (2, .var [.p (.sl 1 (List.map encI cmp_c_1))]), (3, .var [.p (pi cmp_c_2)])]⟩) ?hyslices_insertionSortCmpFunc_int_ratio_Apportion_f1_j1 ?hxslices_insertionSortCmpFunc_int_ratio_Apportion_f1_j1
      case hyslices_insertionSortCmpFunc_int_ratio_Apportion_f1_j1 =>
        rintro data3 H1
        try dsimp only at H1 ⊢
        unfold slices_insertionSortCmpFunc_int_ratio_Apportion_f1_j1 at H1
        refine lok_rl E0 (⟨53, mkS [(0, .x (.one (.vw 0))), (1, .x (.one (.p (pi a)))), (2, .x (.one (.p (pi b)))), (3, .x (.one (.fn 58 [1, 2, 3]))), (8, .x (.one (.p (pi (IntKind.i64.wrap (i + (1 : Int)))))))], mkH [(0, .arr 1 (List.map encI data3)), (1, .var [.p (pi cmp_c)]), (2, .var [.p (.sl 1 (List.map encI cmp_c_1))]), (3, .var [.p (pi cmp_c_2)])]⟩) ?_
        try simp only [thenL, blockL, ↓reduceIte, reduceCtorEq]
        exact ⟨((IntKind.i64.wrap (i + (1 : Int))), data3), (Option.some.inj H1).symm, imp_au⟩
      case hxslices_insertionSortCmpFunc_int_ratio_Apportion_f1_j1 =>
        refine lok_block ?_
        refine lok_rt E0 (⟨53, mkS [(0, .x (.one (.vw 0))), (1, .x (.one (.p (pi a)))), (2, .x (.one (.p (pi b)))), (3, .x (.one (.fn 58 [1, 2, 3]))), (8, .x (.one (.p (pi i)))), (9, .x (.one (.p (pi i))))], mkH [(0, .arr 1 (List.map encI data1)), (1, .var [.p (pi cmp_c)]), (2, .var [.p (.sl 1 (List.map encI cmp_c_1))]), (3, .var [.p (pi cmp_c_2)])]⟩) ?_
        refine lok_block ?_
        replace H1 := bind_some H1
        obtain ⟨v_1, hv_1, H1⟩ := H1
        refine lok_iter (fun x_ => ⟨53, mkS [(0, .x (.one (.vw 0))), (1, .x (.one (.p (pi a)))), (2, .x (.one (.p (pi b)))), (3, .x (.one (.fn 58 [1, 2, 3]))), (8, .x (.one (.p (pi i)))), (9, .x (.one (.p (pi x_.1))))], mkH [(0, .arr 1 (List.map encI x_.2)), (1, .var [.p (pi cmp_c)]), (2, .var [.p (.sl 1 (List.map encI cmp_c_1))]), (3, .var [.p (pi cmp_c_2)])]⟩) hv_1 imp_au ?_
        · rintro ⟨j, data4⟩ o_2 H2 k_2
          unfold slices_insertionSortCmpFunc_int_ratio_Apportion_f1_l2 at H2
          try dsimp only at H2 ⊢
          refine lok_seq ?_
          replace H2 := req_some H2
          obtain ⟨⟨q1_3, q1_4⟩, H2⟩ := H2
          rcases bcases (decide (a < j)) with g_2_0 | g_2_0
          · replace H2 := cpos H2 g_2_0
            replace H2 := bind_some H2
            obtain ⟨y, h_2, H2⟩ := H2
            refine lok_dtg (Env.of E0 [⟨some 32, 58, [.one (.p (pi (ix data4 j))), .one (.p (pi (ix data4 (IntKind.i64.wrap (j - (1 : Int)))))), .one (.ptr 0 0), .one (.ptr 1 0), .one (.ptr 2 0)], [.var [.p (pi cmp_c)], .var [.p (.sl 1 (List.map encI cmp_c_1))], .var [.p (pi cmp_c_2)]], [.one (.p (pi y))], [some (.var [.p (pi cmp_c)]), some (.var [.p (.sl 1 (List.map encI cmp_c_1))]), some (.var [.p (pi cmp_c_2)])], True, fun _ => ok_ratio_Apportion_f1 (ix data4 j) (ix data4 (IntKind.i64.wrap (j - (1 : Int)))) cmp_c cmp_c_1 cmp_c_2 y h_2, []⟩]) 14 g_2_0 (⟨53, mkS [(0, .x (.one (.vw 0))), (1, .x (.one (.p (pi a)))), (2, .x (.one (.p (pi b)))), (3, .x (.one (.fn 58 [1, 2, 3]))), (8, .x (.one (.p (pi i)))), (9, .x (.one (.p (pi j)))), (32, .x (.one (.p (pi y)))), (34, .x (.one (.p (.val (.bool (decide (y < (0 : Int))))))))], mkH [(0, .arr 1 (List.map encI data4)), (1, .var [.p (pi cmp_c)]), (2, .var [.p (.sl 1 (List.map encI cmp_c_1))]), (3, .var [.p (pi cmp_c_2)])]⟩) (by kernel_rfl) (by kernel_rfl) ?_
            refine lok_c (decide (y < (0 : Int))) ?_ ?_
            · intro b_6
              replace H2 := cpos H2 b_6
              refine lok_skip ?_
              try simp only [thenL, blockL, ↓reduceIte, reduceCtorEq]
              refine lok_seq ?_
              refine lok_block ?_
              replace H2 := req_some H2
              obtain ⟨⟨q_4, q_5⟩, H2⟩ := H2
              replace H2 := bindV_some H2
              obtain ⟨data6, a_3, H2⟩ := H2
              refine lok_elg E0 53 [⟨[(0, .x (.one (.vw 0)))], [], [(37, .x (.one (.vw 0)))], [], none⟩,
      ⟨[(9, .x (.one (.p (pi j))))], [], [(38, .x (.one (.p (pi j))))], [], none⟩,
      ⟨[(0, .x (.one (.vw 0)))], [], [(39, .x (.one (.vw 0)))], [], none⟩,
      ⟨[(9, .x (.one (.p (pi j))))], [], [(40, .x (.one (.p (pi j))))], [], none⟩,
      ⟨[(40, .x (.one (.p (pi j))))], [], [(41, .x (.one (.p (pi (IntKind.i64.wrap (j - (1 : Int)))))))], [], none⟩,
      ⟨[(0, .x (.one (.vw 0)))], [], [(42, .x (.one (.vw 0)))], [], none⟩,
      ⟨[(9, .x (.one (.p (pi j))))], [], [(43, .x (.one (.p (pi j))))], [], none⟩,
      ⟨[(43, .x (.one (.p (pi j))))], [], [(44, .x (.one (.p (pi (IntKind.i64.wrap (j - (1 : Int)))))))], [], none⟩,
      ⟨[(42, .x (.one (.vw 0))), (44, .x (.one (.p (pi (IntKind.i64.wrap (j - (1 : Int)))))))], [(0, some (.arr 1 (List.map encI data4)))], [(45, .x (.one (.ap 0 ((IntKind.i64.wrap (j - (1 : Int))).toNat) 0)))], [], none⟩,
      ⟨[(45, .x (.one (.ap 0 ((IntKind.i64.wrap (j - (1 : Int))).toNat) 0)))], [(0, some (.arr 1 (List.map encI data4)))], [(46, .x (.one (.p (pi (ix data4 (IntKind.i64.wrap (j - (1 : Int))))))))], [], none⟩,
      ⟨[(0, .x (.one (.vw 0)))], [], [(47, .x (.one (.vw 0)))], [], none⟩,
      ⟨[(9, .x (.one (.p (pi j))))], [], [(48, .x (.one (.p (pi j))))], [], none⟩,
      ⟨[(47, .x (.one (.vw 0))), (48, .x (.one (.p (pi j))))], [(0, some (.arr 1 (List.map encI data4)))], [(49, .x (.one (.ap 0 (j.toNat) 0)))], [], none⟩,
      ⟨[(49, .x (.one (.ap 0 (j.toNat) 0)))], [(0, some (.arr 1 (List.map encI data4)))], [(50, .x (.one (.p (pi (ix data4 j)))))], [], none⟩,
      ⟨[(37, .x (.one (.vw 0))), (38, .x (.one (.p (pi j))))], [(0, some (.arr 1 (List.map encI data4)))], [(51, .x (.one (.ap 0 (j.toNat) 0)))], [], none⟩,
      ⟨[(46, .x (.one (.p (pi (ix data4 (IntKind.i64.wrap (j - (1 : Int)))))))), (51, .x (.one (.ap 0 (j.toNat) 0)))], [(0, some (.arr 1 (List.map encI data4)))], [], [(0, some (.arr 1 (List.map encI (setI data4 j (ix data4 (IntKind.i64.wrap (j - (1 : Int))))))))], none⟩] a_3 (⟨53, mkS [(0, .x (.one (.vw 0))), (1, .x (.one (.p (pi a)))), (2, .x (.one (.p (pi b)))), (3, .x (.one (.fn 58 [1, 2, 3]))), (8, .x (.one (.p (pi i)))), (9, .x (.one (.p (pi j)))), (32, .x (.one (.p (pi y))))], mkH [(0, .arr 1 (List.map encI data6)), (1, .var [.p (pi cmp_c)]), (2, .var [.p (.sl 1 (List.map encI cmp_c_1))]), (3, .var [.p (pi cmp_c_2)])]⟩) (by kernel_rfl) (by kernel_rfl) (by kernel_rfl) rfl rfl rfl ?_
              try simp only [thenL, blockL, ↓reduceIte, reduceCtorEq]
              refine lok_rl E0 (⟨53, mkS [(0, .x (.one (.vw 0))), (1, .x (.one (.p (pi a)))), (2, .x (.one (.p (pi b)))), (3, .x (.one (.fn 58 [1, 2, 3]))), (8, .x (.one (.p (pi i)))), (9, .x (.one (.p (pi (IntKind.i64.wrap (j - (1 : Int))))))), (32, .x (.one (.p (pi y))))], mkH [(0, .arr 1 (List.map encI data6)), (1, .var [.p (pi cmp_c)]), (2, .var [.p (.sl 1 (List.map encI cmp_c_1))]), (3, .var [.p (pi cmp_c_2)])]⟩) ?_
              try simp only [thenL, blockL, ↓reduceIte, reduceCtorEq]
              exact ⟨((IntKind.i64.wrap (j - (1 : Int))), data6), (Option.some.inj H2).symm, imp_au⟩
            · intro b_6
              replace H2 := cneg H2 b_6
              refine lok_exit ?_
              try simp only [thenL, blockL, ↓reduceIte, reduceCtorEq]
              have e_2 := k_2 _ (Option.some.inj H2).symm
              subst e_2
              try dsimp only at H1
              try simp only [thenL, blockL, ↓reduceIte, reduceCtorEq]
              exact ⟨data4, H1, imp_au⟩
          · replace H2 := cneg H2 g_2_0
            refine lok_dtg E0 14 g_2_0 (⟨53, mkS [(0, .x (.one (.vw 0))), (1, .x (.one (.p (pi a)))), (2, .x (.one (.p (pi b)))), (3, .x (.one (.fn 58 [1, 2, 3]))), (8, .x (.one (.p (pi i)))), (9, .x (.one (.p (pi j)))), (34, .x (.one (.p (.val (.bool false)))))], mkH [(0, .arr 1 (List.map encI data4)), (1, .var [.p (pi cmp_c)]), (2, .var [.p (.sl 1 (List.map encI cmp_c_1))]), (3, .var [.p (pi cmp_c_2)])]⟩) (by kernel_rfl) (by kernel_rfl) ?_
            refine lok_c false ?_ ?_
            · intro h; exact absurd h (by decide)
            · intro _
              refine lok_exit ?_
              try simp only [thenL, blockL, ↓reduceIte, reduceCtorEq]
              have e_2 := k_2 _ (Option.some.inj H2).symm
              subst e_2
              try dsimp only at H1
              try simp only [thenL, blockL, ↓reduceIte, reduceCtorEq]
              exact ⟨data4, H1, imp_au⟩
    · intro b_6
      replace H1 := cneg H1 b_6
      refine lok_exit ?_
      try simp only [thenL, blockL, ↓reduceIte, reduceCtorEq]
      have e_1 := k_1 _ (Option.some.inj H1).symm
      subst e_1
      try dsimp only at H0
      obtain rfl := Option.some.inj H0
      try simp only [thenL, blockL]
      exact fin_au _ (.inl rfl) [0, 1, 2, 3] (⟨53, mkS [], mkH [(0, .arr 1 (List.map encI data1)), (1, .var [.p (pi cmp_c)]), (2, .var [.p (.sl 1 (List.map encI cmp_c_1))]), (3, .var [.p (pi cmp_c_2)])]⟩) rfl rfl imp_au
theorem ok_slices_swapRangeCmpFunc_int_ratio_Apportion_f1 (data : List Int) (a : Int) (b : Int) (n : Int) (cmp_c : Int) (cmp_c_1 : List Int) (cmp_c_2 : Int) (r_ : (List Int)) (H0 : slices_swapRangeCmpFunc_int_ratio_Apportion_f1 data a b n cmp_c cmp_c_1 cmp_c_2 = some r_) : CallOK Tryd.prog 89 [.one (.vw 0), .one (.p (pi a)), .one (.p (pi b)), .one (.p (pi n)), .one (.fn 58 [1, 2, 3])] [.arr 1 (List.map encI data), .var [.p (pi cmp_c)], .var [.p (.sl 1 (List.map encI cmp_c_1))], .var [.p (pi cmp_c_2)]] [] [some (.arr 1 (List.map encI r_)), some (.var [.p (pi cmp_c)]), some (.var [.p (.sl 1 (List.map encI cmp_c_1))]), some (.var [.p (pi cmp_c_2)])] := by
  refine callOK (n := 38) (rs := []) (nb := 4) (V := [0, 1, 2, 3]) Tryd.func89 rfl (by kernel_rfl) rfl rfl rfl rfl (Nat.le_of_ble_eq_true rfl) (by decide) ?_
  unfold slices_swapRangeCmpFunc_int_ratio_Apportion_f1 at H0
  refine lok_rt E0 (⟨38, mkS [(0, .x (.one (.vw 0))), (1, .x (.one (.p (pi a)))), (2, .x (.one (.p (pi b)))), (3, .x (.one (.p (pi n)))), (10, .x (.one (.p (pi (0 : Int)))))], mkH [(0, .arr 1 (List.map encI data)), (1, .var [.p (pi cmp_c)]), (2, .var [.p (.sl 1 (List.map encI cmp_c_1))]), (3, .var [.p (pi cmp_c_2)])]⟩) ?_
  refine lok_block ?_
  replace H0 := bind_some H0
  obtain ⟨v_0, hv_0, H0⟩ := H0
  refine lok_iter (fun x_ => ⟨38, mkS [(0, .x (.one (.vw 0))), (1, .x (.one (.p (pi a)))), (2, .x (.one (.p (pi b)))), (3, .x (.one (.p (pi n)))), (10, .x (.one (.p (pi x_.1))))], mkH [(0, .arr 1 (List.map encI x_.2)), (1, .var [.p (pi cmp_c)]), (2, .var [.p (.sl 1 (List.map encI cmp_c_1))]), (3, .var [.p (pi cmp_c_2)])]⟩) hv_0 imp_au ?_
  · rintro ⟨i, data1⟩ o_1 H1 k_1
    unfold slices_swapRangeCmpFunc_int_ratio_Apportion_f1_l1 at H1
    try dsimp only at H1 ⊢
    refine lok_seq ?_
    refine lok_rt E0 (⟨38, mkS [(0, .x (.one (.vw 0))), (1, .x (.one (.p (pi a)))), (2, .x (.one (.p (pi b)))), (3, .x (.one (.p (pi n)))), (10, .x (.one (.p (pi i)))), (13, .x (.one (.p (.val (.bool (decide (i < n)))))))], mkH [(0, .arr 1 (List.map encI data1)), (1, .var [.p (pi cmp_c)]), (2, .var [.p (.sl 1 (List.map encI cmp_c_1))]), (3, .var [.p (pi cmp_c_2)])]⟩) ?_
    refine lok_c (decide (i < n)) ?_ ?_
    · intro b_4
      replace H1 := cpos H1 b_4
      refine lok_skip ?_
      try simp only [thenL, blockL, ↓reduceIte, reduceCtorEq]
      refine lok_seq ?_
      refine lok_block ?_
      replace H1 := req_some H1
      obtain ⟨⟨q_2, q_3⟩, H1⟩ := H1
      replace H1 := bindV_some H1
      obtain ⟨data3, a_1, H1⟩ := H1
      refine lok_elg E0 38 [⟨[(0, .x (.one (.vw 0)))], [], [(16, .x (.one (.vw 0)))], [], none⟩,
      ⟨[(1, .x (.one (.p (pi a))))], [], [(17, .x (.one (.p (pi a))))], [], none⟩,
      ⟨[(10, .x (.one (.p (pi i))))], [], [(18, .x (.one (.p (pi i))))], [], none⟩,
      ⟨[(17, .x (.one (.p (pi a)))), (18, .x (.one (.p (pi i))))], [], [(19, .x (.one (.p (pi (IntKind.i64.wrap (a + i))))))], [], none⟩,
      ⟨[(0, .x (.one (.vw 0)))], [], [(20, .x (.one (.vw 0)))], [], none⟩,
      ⟨[(2, .x (.one (.p (pi b))))], [], [(21, .x (.one (.p (pi b))))], [], none⟩,
      ⟨[(10, .x (.one (.p (pi i))))], [], [(22, .x (.one (.p (pi i))))], [], none⟩,
      ⟨[(21, .x (.one (.p (pi b)))), (22, .x (.one (.p (pi i))))], [], [(23, .x (.one (.p (pi (IntKind.i64.wrap (b + i))))))], [], none⟩,
      ⟨[(0, .x (.one (.vw 0)))], [], [(24, .x (.one (.vw 0)))], [], none⟩,
      ⟨[(2, .x (.one (.p (pi b))))], [], [(25, .x (.one (.p (pi b))))], [], none⟩,
      ⟨[(10, .x (.one (.p (pi i))))], [], [(26, .x (.one (.p (pi i))))], [], none⟩,
      ⟨[(25, .x (.one (.p (pi b)))), (26, .x (.one (.p (pi i))))], [], [(27, .x (.one (.p (pi (IntKind.i64.wrap (b + i))))))], [], none⟩,
      ⟨[(24, .x (.one (.vw 0))), (27, .x (.one (.p (pi (IntKind.i64.wrap (b + i))))))], [(0, some (.arr 1 (List.map encI data1)))], [(28, .x (.one (.ap 0 ((IntKind.i64.wrap (b + i)).toNat) 0)))], [], none⟩,
      ⟨[(28, .x (.one (.ap 0 ((IntKind.i64.wrap (b + i)).toNat) 0)))], [(0, some (.arr 1 (List.map encI data1)))], [(29, .x (.one (.p (pi (ix data1 (IntKind.i64.wrap (b + i)))))))], [], none⟩,
      ⟨[(0, .x (.one (.vw 0)))], [], [(30, .x (.one (.vw 0)))], [], none⟩,
      ⟨[(1, .x (.one (.p (pi a))))], [], [(31, .x (.one (.p (pi a))))], [], none⟩,
      ⟨[(10, .x (.one (.p (pi i))))], [], [(32, .x (.one (.p (pi i))))], [], none⟩,
      ⟨[(31, .x (.one (.p (pi a)))), (32, .x (.one (.p (pi i))))], [], [(33, .x (.one (.p (pi (IntKind.i64.wrap (a + i))))))], [], none⟩,
      ⟨[(30, .x (.one (.vw 0))), (33, .x (.one (.p (pi (IntKind.i64.wrap (a + i))))))], [(0, some (.arr 1 (List.map encI data1)))], [(34, .x (.one (.ap 0 ((IntKind.i64.wrap (a + i)).toNat) 0)))], [], none⟩,
      ⟨[(34, .x (.one (.ap 0 ((IntKind.i64.wrap (a + i)).toNat) 0)))], [(0, some (.arr 1 (List.map encI data1)))], [(35, .x (.one (.p (pi (ix data1 (IntKind.i64.wrap (a + i)))))))], [], none⟩,
      ⟨[(16, .x (.one (.vw 0))), (19, .x (.one (.p (pi (IntKind.i64.wrap (a + i))))))], [(0, some (.arr 1 (List.map encI data1)))], [(36, .x (.one (.ap 0 ((IntKind.i64.wrap (a + i)).toNat) 0)))], [], none⟩,
      ⟨[(29, .x (.one (.p (pi (ix data1 (IntKind.i64.wrap (b + i))))))), (36, .x (.one (.ap 0 ((IntKind.i64.wrap (a + i)).toNat) 0)))], [(0, some (.arr 1 (List.map encI data1)))], [], [(0, some (.arr 1 (List.map encI (setI data1 (IntKind.i64.wrap (a + i)) (ix data1 (IntKind.i64.wrap (b + i)))))))], none⟩] a_1 (⟨38, mkS [(0, .x (.one (.vw 0))), (1, .x (.one (.p (pi a)))), (2, .x (.one (.p (pi b)))), (3, .x (.one (.p (pi n)))), (10, .x (.one (.p (pi i))))], mkH [(0, .arr 1 (List.map encI data3)), (1, .var [.p (pi cmp_c)]), (2, .var [.p (.sl 1 (List.map encI cmp_c_1))]), (3, .var [.p (pi cmp_c_2)])]⟩) (by kernel_rfl) (by kernel_rfl) (by kernel_rfl) rfl rfl rfl ?_
      try simp only [thenL, blockL, ↓reduceIte, reduceCtorEq]
      refine lok_rl E0 (⟨38, mkS [(0, .x (.one (.vw 0))), (1, .x (.one (.p (pi a)))), (2, .x (.one (.p (pi b)))), (3, .x (.one (.p (pi n)))), (10, .x (.one (.p (pi (IntKind.i64.wrap (i + (1 : Int)))))))], mkH [(0, .arr 1 (List.map encI data3)), (1, .var [.p (pi cmp_c)]), (2, .var [.p (.sl 1 (List.map encI cmp_c_1))]), (3, .var [.p (pi cmp_c_2)])]⟩) ?_
      try simp only [thenL, blockL, ↓reduceIte, reduceCtorEq]
      exact ⟨((IntKind.i64.wrap (i + (1 : Int))), data3), (Option.some.inj H1).symm, imp_au⟩
    · intro b_4
      replace H1 := cneg H1 b_4
      refine lok_exit ?_
      try simp only [thenL, blockL, ↓reduceIte, reduceCtorEq]
      have e_1 := k_1 _ (Option.some.inj H1).symm
      subst e_1
      try dsimp only at H0
      obtain rfl := Option.some.inj H0
      try simp only [thenL, blockL]
      exact fin_au _ (.inl rfl) [0, 1, 2, 3] (⟨38, mkS [], mkH [(0, .arr 1 (List.map encI data1)), (1, .var [.p (pi cmp_c)]), (2, .var [.p (.sl 1 (List.map encI cmp_c_1))]), (3, .var [.p (pi cmp_c_2)])]⟩) rfl rfl imp_au
set_option maxHeartbeats 4000000 in
theorem ok_slices_rotateCmpFunc_int_ratio_Apportion_f1 (data : List Int) (a : Int) (m : Int) (b : Int) (cmp_c : Int) (cmp_c_1 : List Int) (cmp_c_2 : Int) (r_ : (List Int)) (H0 : slices_rotateCmpFunc_int_ratio_Apportion_f1 data a m b cmp_c cmp_c_1 cmp_c_2 = some r_) : CallOK Tryd.prog 88 [.one (.vw 0), .one (.p (pi a)), .one (.p (pi m)), .one (.p (pi b)), .one (.fn 58 [1, 2, 3])] [.arr 1 (List.map encI data), .var [.p (pi cmp_c)], .var [.p (.sl 1 (List.map encI cmp_c_1))], .var [.p (pi cmp_c_2)]] [] [some (.arr 1 (List.map encI r_)), some (.var [.p (pi cmp_c)]), some (.var [.p (.sl 1 (List.map encI cmp_c_1))]), some (.var [.p (pi cmp_c_2)])] := by
  refine callOK (n := 58) (rs := []) (nb := 4) (V := [0, 1, 2, 3]) Tryd.func88 rfl (by kernel_rfl) rfl rfl rfl rfl (Nat.le_of_ble_eq_true rfl) (by decide) ?_
  unfold slices_rotateCmpFunc_int_ratio_Apportion_f1 at H0
  refine lok_rt E0 (⟨58, mkS [(0, .x (.one (.vw 0))), (2, .x (.one (.p (pi m)))), (3, .x (.one (.p (pi b)))), (4, .x (.one (.fn 58 [1, 2, 3]))), (10, .x (.one (.p (pi (IntKind.i64.wrap (m - a))))))], mkH [(0, .arr 1 (List.map encI data)), (1, .var [.p (pi cmp_c)]), (2, .var [.p (.sl 1 (List.map encI cmp_c_1))]), (3, .var [.p (pi cmp_c_2)])]⟩) ?_
  refine lok_rt E0 (⟨58, mkS [(0, .x (.one (.vw 0))), (2, .x (.one (.p (pi m)))), (4, .x (.one (.fn 58 [1, 2, 3]))), (10, .x (.one (.p (pi (IntKind.i64.wrap (m - a)))))), (11, .x (.one (.p (pi (IntKind.i64.wrap (b - m))))))], mkH [(0, .arr 1 (List.map encI data)), (1, .var [.p (pi cmp_c)]), (2, .var [.p (.sl 1 (List.map encI cmp_c_1))]), (3, .var [.p (pi cmp_c_2)])]⟩) ?_
  refine lok_join (fun x_ : Int × (List Int) => slices_rotateCmpFunc_int_ratio_Apportion_f1_j1 m cmp_c cmp_c_1 cmp_c_2 x_.1 x_.2 = some r_) (fun x_ => ⟨58, mkS [(0, .x (.one (.vw 0))), (2, .x (.one (.p (pi m)))), (4, .x (.one (.fn 58 [1, 2, 3]))), (10, .x (.one (.p (pi x_.1))))], mkH [(0, .arr 1 (List.map encI x_.2)), (1, .var [.p (pi cmp_c)]), (2, .var [.p (.sl 1 (List.map encI cmp_c_1))]), (3, .var [.p (pi cmp_c_2)])]⟩) ?hyslices_rotateCmpFunc_int_ratio_Apportion_f1_j1 ?hxslices_rotateCmpFunc_int_ratio_Apportion_f1_j1
  case hyslices_rotateCmpFunc_int_ratio_Apportion_f1_j1 =>
    rintro ⟨i, data1⟩ H0
    try dsimp only at H0 ⊢
    unfold slices_rotateCmpFunc_int_ratio_Apportion_f1_j1 at H0
    replace H0 := bind_some H0
    obtain ⟨y, h_0, H0⟩ := H0
    replace H0 := req_some H0
    obtain ⟨q_1, H0⟩ := H0
    refine lok_rl (Env.of E0 [⟨some 57, 89, [.one (.vw 0), .one (.p (pi (IntKind.i64.wrap (m - i)))), .one (.p (pi m)), .one (.p (pi i)), .one (.fn 58 [1, 2, 3])], [.arr 1 (List.map encI data1), .var [.p (pi cmp_c)], .var [.p (.sl 1 (List.map encI cmp_c_1))], .var [.p (pi cmp_c_2)]], [], [some (.arr 1 (List.map encI y)), some (.var [.p (pi cmp_c)]), some (.var [.p (.sl 1 (List.map encI cmp_c_1))]), some (.var [.p (pi cmp_c_2)])], True, fun _ => ok_slices_swapRangeCmpFunc_int_ratio_Apportion_f1 data1 (IntKind.i64.wrap (m - i)) m i cmp_c cmp_c_1 cmp_c_2 y h_0, [true, false, false, false, false]⟩]) (⟨58, mkS [], mkH [(0, .arr 1 (List.map encI y)), (1, .var [.p (pi cmp_c)]), (2, .var [.p (.sl 1 (List.map encI cmp_c_1))]), (3, .var [.p (pi cmp_c_2)])]⟩) ?_
    obtain rfl := Option.some.inj H0
    try simp only [thenL, blockL]
    exact fin_au _ (.inl rfl) [0, 1, 2, 3] (⟨58, mkS [], mkH [(0, .arr 1 (List.map encI y)), (1, .var [.p (pi cmp_c)]), (2, .var [.p (.sl 1 (List.map encI cmp_c_1))]), (3, .var [.p (pi cmp_c_2)])]⟩) rfl rfl imp_au
  case hxslices_rotateCmpFunc_int_ratio_Apportion_f1_j1 =>
    refine lok_block ?_
    replace H0 := bind_some H0
    obtain ⟨v_2, hv_2, H0⟩ := H0
    refine lok_iter (fun x_ => ⟨58, mkS [(0, .x (.one (.vw 0))), (2, .x (.one (.p (pi m)))), (4, .x (.one (.fn 58 [1, 2, 3]))), (10, .x (.one (.p (pi x_.1)))), (11, .x (.one (.p (pi x_.2.1))))], mkH [(0, .arr 1 (List.map encI x_.2.2)), (1, .var [.p (pi cmp_c)]), (2, .var [.p (.sl 1 (List.map encI cmp_c_1))]), (3, .var [.p (pi cmp_c_2)])]⟩) hv_2 imp_au ?_
    · rintro ⟨i1, j, data2⟩ o_1 H1 k_1
      unfold slices_rotateCmpFunc_int_ratio_Apportion_f1_l2 at H1
      try dsimp only at H1 ⊢
      refine lok_seq ?_
      refine lok_rt E0 (⟨58, mkS [(0, .x (.one (.vw 0))), (2, .x (.one (.p (pi m)))), (4, .x (.one (.fn 58 [1, 2, 3]))), (10, .x (.one (.p (pi i1)))), (11, .x (.one (.p (pi j)))), (20, .x (.one (.p (.val (.bool (i1 != j))))))], mkH [(0, .arr 1 (List.map encI data2)), (1, .var [.p (pi cmp_c)]), (2, .var [.p (.sl 1 (List.map encI cmp_c_1))]), (3, .var [.p (pi cmp_c_2)])]⟩) ?_
      refine lok_c (i1 != j) ?_ ?_
      · intro b_8
        replace H1 := cpos H1 b_8
        refine lok_skip ?_
        try simp only [thenL, blockL, ↓reduceIte, reduceCtorEq]
        refine lok_block ?_
        refine lok_rt E0 (⟨58, mkS [(0, .x (.one (.vw 0))), (2, .x (.one (.p (pi m)))), (4, .x (.one (.fn 58 [1, 2, 3]))), (10, .x (.one (.p (pi i1)))), (11, .x (.one (.p (pi j)))), (23, .x (.one (.p (.val (.bool (decide (j < i1)))))))], mkH [(0, .arr 1 (List.map encI data2)), (1, .var [.p (pi cmp_c)]), (2, .var [.p (.sl 1 (List.map encI cmp_c_1))]), (3, .var [.p (pi cmp_c_2)])]⟩) ?_
        refine lok_c (decide (j < i1)) ?_ ?_
        · intro b_7
          replace H1 := cpos H1 b_7
          replace H1 := bind_some H1
          obtain ⟨y1, h_3, H1⟩ := H1
          replace H1 := req_some H1
          obtain ⟨q_4, H1⟩ := H1
          refine lok_rt (Env.of E0 [⟨some 31, 89, [.one (.vw 0), .one (.p (pi (IntKind.i64.wrap (m - i1)))), .one (.p (pi m)), .one (.p (pi j)), .one (.fn 58 [1, 2, 3])], [.arr 1 (List.map encI data2), .var [.p (pi cmp_c)], .var [.p (.sl 1 (List.map encI cmp_c_1))], .var [.p (pi cmp_c_2)]], [], [some (.arr 1 (List.map encI y1)), some (.var [.p (pi cmp_c)]), some (.var [.p (.sl 1 (List.map encI cmp_c_1))]), some (.var [.p (pi cmp_c_2)])], True, fun _ => ok_slices_swapRangeCmpFunc_int_ratio_Apportion_f1 data2 (IntKind.i64.wrap (m - i1)) m j cmp_c cmp_c_1 cmp_c_2 y1 h_3, [true, false, false, false, false]⟩]) (⟨58, mkS [(0, .x (.one (.vw 0))), (2, .x (.one (.p (pi m)))), (4, .x (.one (.fn 58 [1, 2, 3]))), (10, .x (.one (.p (pi i1)))), (11, .x (.one (.p (pi j))))], mkH [(0, .arr 1 (List.map encI y1)), (1, .var [.p (pi cmp_c)]), (2, .var [.p (.sl 1 (List.map encI cmp_c_1))]), (3, .var [.p (pi cmp_c_2)])]⟩) ?_
          refine lok_rl E0 (⟨58, mkS [(0, .x (.one (.vw 0))), (2, .x (.one (.p (pi m)))), (4, .x (.one (.fn 58 [1, 2, 3]))), (10, .x (.one (.p (pi (IntKind.i64.wrap (i1 - j)))))), (11, .x (.one (.p (pi j))))], mkH [(0, .arr 1 (List.map encI y1)), (1, .var [.p (pi cmp_c)]), (2, .var [.p (.sl 1 (List.map encI cmp_c_1))]), (3, .var [.p (pi cmp_c_2)])]⟩) ?_
          try simp only [thenL, blockL, ↓reduceIte, reduceCtorEq]
          exact ⟨((IntKind.i64.wrap (i1 - j)), j, y1), (Option.some.inj H1).symm, imp_au⟩
        · intro b_7
          replace H1 := cneg H1 b_7
          replace H1 := bind_some H1
          obtain ⟨y2, h_5, H1⟩ := H1
          replace H1 := req_some H1
          obtain ⟨q_6, H1⟩ := H1
          refine lok_rt (Env.of E0 [⟨some 46, 89, [.one (.vw 0), .one (.p (pi (IntKind.i64.wrap (m - i1)))), .one (.p (pi (IntKind.i64.wrap ((IntKind.i64.wrap (m + j)) - i1)))), .one (.p (pi i1)), .one (.fn 58 [1, 2, 3])], [.arr 1 (List.map encI data2), .var [.p (pi cmp_c)], .var [.p (.sl 1 (List.map encI cmp_c_1))], .var [.p (pi cmp_c_2)]], [], [some (.arr 1 (List.map encI y2)), some (.var [.p (pi cmp_c)]), some (.var [.p (.sl 1 (List.map encI cmp_c_1))]), some (.var [.p (pi cmp_c_2)])], True, fun _ => ok_slices_swapRangeCmpFunc_int_ratio_Apportion_f1 data2 (IntKind.i64.wrap (m - i1)) (IntKind.i64.wrap ((IntKind.i64.wrap (m + j)) - i1)) i1 cmp_c cmp_c_1 cmp_c_2 y2 h_5, [true, false, false, false, false]⟩]) (⟨58, mkS [(0, .x (.one (.vw 0))), (2, .x (.one (.p (pi m)))), (4, .x (.one (.fn 58 [1, 2, 3]))), (10, .x (.one (.p (pi i1)))), (11, .x (.one (.p (pi j))))], mkH [(0, .arr 1 (List.map encI y2)), (1, .var [.p (pi cmp_c)]), (2, .var [.p (.sl 1 (List.map encI cmp_c_1))]), (3, .var [.p (pi cmp_c_2)])]⟩) ?_
          refine lok_rl E0 (⟨58, mkS [(0, .x (.one (.vw 0))), (2, .x (.one (.p (pi m)))), (4, .x (.one (.fn 58 [1, 2, 3]))), (10, .x (.one (.p (pi i1)))), (11, .x (.one (.p (pi (IntKind.i64.wrap (j - i1))))))], mkH [(0, .arr 1 (List.map encI y2)), (1, .var [.p (pi cmp_c)]), (2, .var [.p (.sl 1 (List.map encI cmp_c_1))]), (3, .var [.p (pi cmp_c_2)])]⟩) ?_
          try simp only [thenL, blockL, ↓reduceIte, reduceCtorEq]
          exact ⟨(i1, (IntKind.i64.wrap (j - i1)), y2), (Option.some.inj H1).symm, imp_au⟩
      · intro b_8
        replace H1 := cneg H1 b_8
        refine lok_exit ?_
        try simp only [thenL, blockL, ↓reduceIte, reduceCtorEq]
        have e_1 := k_1 _ (Option.some.inj H1).symm
        subst e_1
        try dsimp only at H0
        try simp only [thenL, blockL, ↓reduceIte, reduceCtorEq]
        exact ⟨(i1, data2), H0, imp_au⟩
theorem ok_slices_symMergeCmpFunc_int_ratio_Apportion_f1 (data : List Int) (a : Int) (m : Int) (b : Int) (cmp_c : Int) (cmp_c_1 : List Int) (cmp_c_2 : Int) (r_ : (List Int) × Int × (List Int) × Int) (H0 : slices_symMergeCmpFunc_int_ratio_Apportion_f1 data a m b cmp_c cmp_c_1 cmp_c_2 = some r_) : CallOK Tryd.prog 84 [.one (.vw 0), .one (.p (pi a)), .one (.p (pi m)), .one (.p (pi b)), .one (.fn 58 [1, 2, 3])] [.arr 1 (List.map encI data), .var [.p (pi cmp_c)], .var [.p (.sl 1 (List.map encI cmp_c_1))], .var [.p (pi cmp_c_2)]] [] [some (.arr 1 (List.map encI r_.1)), some (.var [.p (pi r_.2.1)]), some (.var [.p (.sl 1 (List.map encI r_.2.2.1))]), some (.var [.p (pi r_.2.2.2)])] := by
  unfold slices_symMergeCmpFunc_int_ratio_Apportion_f1 at H0; cases H0
set_option maxHeartbeats 4000000 in
theorem ok_slices_stableCmpFunc_int_ratio_Apportion_f1 (data : List Int) (n : Int) (cmp_c : Int) (cmp_c_1 : List Int) (cmp_c_2 : Int) (r_ : (List Int) × Int × (List Int) × Int) (H0 : slices_stableCmpFunc_int_ratio_Apportion_f1 data n cmp_c cmp_c_1 cmp_c_2 = some r_) : CallOK Tryd.prog 73 [.one (.vw 0), .one (.p (pi n)), .one (.fn 58 [1, 2, 3])] [.arr 1 (List.map encI data), .var [.p (pi cmp_c)], .var [.p (.sl 1 (List.map encI cmp_c_1))], .var [.p (pi cmp_c_2)]] [] [some (.arr 1 (List.map encI r_.1)), some (.var [.p (pi r_.2.1)]), some (.var [.p (.sl 1 (List.map encI r_.2.2.1))]), some (.var [.p (pi r_.2.2.2)])] := by
  refine callOK (n := 63) (rs := []) (nb := 4) (V := [0, 1, 2, 3]) Tryd.func73 rfl (by kernel_rfl) rfl rfl rfl rfl (Nat.le_of_ble_eq_true rfl) (by decide) ?_
  unfold slices_stableCmpFunc_int_ratio_Apportion_f1 at H0
  refine lok_rt E0 (⟨63, mkS [(0, .x (.one (.vw 0))), (1, .x (.one (.p (pi n)))), (2, .x (.one (.fn 58 [1, 2, 3]))), (6, .x (.one (.p (pi (20 : Int)))))], mkH [(0, .arr 1 (List.map encI data)), (1, .var [.p (pi cmp_c)]), (2, .var [.p (.sl 1 (List.map encI cmp_c_1))]), (3, .var [.p (pi cmp_c_2)])]⟩) ?_
  refine lok_rt E0 (⟨63, mkS [(0, .x (.one (.vw 0))), (1, .x (.one (.p (pi n)))), (2, .x (.one (.fn 58 [1, 2, 3]))), (6, .x (.one (.p (pi (20 : Int))))), (7, .x (.one (.p (pi (0 : Int))))), (8, .x (.one (.p (pi (20 : Int)))))], mkH [(0, .arr 1 (List.map encI data)), (1, .var [.p (pi cmp_c)]), (2, .var [.p (.sl 1 (List.map encI cmp_c_1))]), (3, .var [.p (pi cmp_c_2)])]⟩) ?_
  refine lok_join (fun x_ : Int × (List Int) => slices_stableCmpFunc_int_ratio_Apportion_f1_j5 n cmp_c cmp_c_1 cmp_c_2 x_.1 x_.2 = some r_) (fun x_ => ⟨63, mkS [(0, .x (.one (.vw 0))), (1, .x (.one (.p (pi n)))), (2, .x (.one (.fn 58 [1, 2, 3]))), (6, .x (.one (.p (pi (20 : Int))))), (7, .x (.one (.p (pi x_.1))))], mkH [(0, .arr 1 (List.map encI x_.2)), (1, .var [.p (pi cmp_c)]), (2, .var [.p (.sl 1 (List.map encI cmp_c_1))]), (3, .var [.p (pi cmp_c_2)])]⟩) ?hyslices_stableCmpFunc_int_ratio_Apportion_f1_j5 ?hxslices_stableCmpFunc_int_ratio_Apportion_f1_j5
  case hyslices_stableCmpFunc_int_ratio_Apportion_f1_j5 =>
    rintro ⟨a, data1⟩ H0
    try dsimp only at H0 ⊢
    unfold slices_stableCmpFunc_int_ratio_Apportion_f1_j5 at H0
    replace H0 := bind_some H0
    obtain ⟨y, h_0, H0⟩ := H0
    replace H0 := req_some H0
    obtain ⟨q_10, H0⟩ := H0
    refine lok_rt (Env.of E0 [⟨some 27, 83, [.one (.vw 0), .one (.p (pi a)), .one (.p (pi n)), .one (.fn 58 [1, 2, 3])], [.arr 1 (List.map encI data1), .var [.p (pi cmp_c)], .var [.p (.sl 1 (List.map encI cmp_c_1))], .var [.p (pi cmp_c_2)]], [], [some (.arr 1 (List.map encI y)), some (.var [.p (pi cmp_c)]), some (.var [.p (.sl 1 (List.map encI cmp_c_1))]), some (.var [.p (pi cmp_c_2)])], True, fun _ => ok_slices_insertionSortCmpFunc_int_ratio_Apportion_f1 data1 a n cmp_c cmp_c_1 cmp_c_2 y h_0, [true, false, false, false]⟩]) (⟨63, mkS [(0, .x (.one (.vw 0))), (1, .x (.one (.p (pi n)))), (2, .x (.one (.fn 58 [1, 2, 3]))), (6, .x (.one (.p (pi (20 : Int)))))], mkH [(0, .arr 1 (List.map encI y)), (1, .var [.p (pi cmp_c)]), (2, .var [.p (.sl 1 (List.map encI cmp_c_1))]), (3, .var [.p (pi cmp_c_2)])]⟩) ?_
    refine lok_block ?_
    replace H0 := bind_some H0
    obtain ⟨v_1, hv_1, H0⟩ := H0
    refine lok_iter (fun x_ => ⟨63, mkS [(0, .x (.one (.vw 0))), (1, .x (.one (.p (pi n)))), (2, .x (.one (.fn 58 [1, 2, 3]))), (6, .x (.one (.p (pi x_.1))))], mkH [(0, .arr 1 (List.map encI x_.2.1)), (1, .var [.p (pi x_.2.2.1)]), (2, .var [.p (.sl 1 (List.map encI x_.2.2.2.1))]), (3, .var [.p (pi x_.2.2.2.2)])]⟩) hv_1 imp_au ?_
    · rintro ⟨blockSize, data2, cmp_c1, cmp_c_11, cmp_c_21⟩ o_1 H1 k_1
      unfold slices_stableCmpFunc_int_ratio_Apportion_f1_l4 at H1
      try dsimp only at H1 ⊢
      refine lok_seq ?_
      refine lok_rt E0 (⟨63, mkS [(0, .x (.one (.vw 0))), (1, .x (.one (.p (pi n)))), (2, .x (.one (.fn 58 [1, 2, 3]))), (6, .x (.one (.p (pi blockSize)))), (30, .x (.one (.p (.val (.bool (decide (blockSize < n)))))))], mkH [(0, .arr 1 (List.map encI data2)), (1, .var [.p (pi cmp_c1)]), (2, .var [.p (.sl 1 (List.map encI cmp_c_11))]), (3, .var [.p (pi cmp_c_21)])]⟩) ?_
      refine lok_c (decide (blockSize < n)) ?_ ?_
      · intro b_9
        replace H1 := cpos H1 b_9
        refine lok_skip ?_
        try simp only [thenL, blockL, ↓reduceIte, reduceCtorEq]
        refine lok_block ?_
        refine lok_rt E0 (⟨63, mkS [(0, .x (.one (.vw 0))), (1, .x (.one (.p (pi n)))), (2, .x (.one (.fn 58 [1, 2, 3]))), (6, .x (.one (.p (pi blockSize)))), (7, .x (.one (.p (pi (0 : Int))))), (8, .x (.one (.p (pi (IntKind.i64.wrap ((2 : Int) * blockSize))))))], mkH [(0, .arr 1 (List.map encI data2)), (1, .var [.p (pi cmp_c1)]), (2, .var [.p (.sl 1 (List.map encI cmp_c_11))]), (3, .var [.p (pi cmp_c_21)])]⟩) ?_
        refine lok_join (fun x_ : Int × (List Int) × Int × (List Int) × Int => slices_stableCmpFunc_int_ratio_Apportion_f1_j2 n blockSize x_.1 x_.2.1 x_.2.2.1 x_.2.2.2.1 x_.2.2.2.2 = some o_1) (fun x_ => ⟨63, mkS [(0, .x (.one (.vw 0))), (1, .x (.one (.p (pi n)))), (2, .x (.one (.fn 58 [1, 2, 3]))), (6, .x (.one (.p (pi blockSize)))), (7, .x (.one (.p (pi x_.1))))], mkH [(0, .arr 1 (List.map encI x_.2.1)), (1, .var [.p (pi x_.2.2.1)]), (2, .var [.p (.sl 1 (List.map encI x_.2.2.2.1))]), (3, .var [.p (pi x_.2.2.2.2)])]⟩) ?hyslices_stableCmpFunc_int_ratio_Apportion_f1_j2 ?hxslices_stableCmpFunc_int_ratio_Apportion_f1_j2
        case hyslices_stableCmpFunc_int_ratio_Apportion_f1_j2 =>
          rintro ⟨a1, data4, cmp_c3, cmp_c_13, cmp_c_23⟩ H1
          try dsimp only at H1 ⊢
          unfold slices_stableCmpFunc_int_ratio_Apportion_f1_j2 at H1
          refine lok_join (fun x_ : (List Int) × Int × (List Int) × Int => slices_stableCmpFunc_int_ratio_Apportion_f1_j1 blockSize x_.1 x_.2.1 x_.2.2.1 x_.2.2.2 = some o_1) (fun x_ => ⟨63, mkS [(0, .x (.one (.vw 0))), (1, .x (.one (.p (pi n)))), (2, .x (.one (.fn 58 [1, 2, 3]))), (6, .x (.one (.p (pi blockSize))))], mkH [(0, .arr 1 (List.map encI x_.1)), (1, .var [.p (pi x_.2.1)]), (2, .var [.p (.sl 1 (List.map encI x_.2.2.1))]), (3, .var [.p (pi x_.2.2.2)])]⟩) ?hyslices_stableCmpFunc_int_ratio_Apportion_f1_j1 ?hxslices_stableCmpFunc_int_ratio_Apportion_f1_j1
          case hyslices_stableCmpFunc_int_ratio_Apportion_f1_j1 =>
            rintro ⟨data5, cmp_c4, cmp_c_14, cmp_c_24⟩ H1
            try dsimp only at H1 ⊢
            unfold slices_stableCmpFunc_int_ratio_Apportion_f1_j1 at H1
            refine lok_rl E0 (⟨63, mkS [(0, .x (.one (.vw 0))), (1, .x (.one (.p (pi n)))), (2, .x (.one (.fn 58 [1, 2, 3]))), (6, .x (.one (.p (pi (IntKind.i64.wrap (blockSize * (2 : Int)))))))], mkH [(0, .arr 1 (List.map encI data5)), (1, .var [.p (pi cmp_c4)]), (2, .var [.p (.sl 1 (List.map encI cmp_c_14))]), (3, .var [.p (pi cmp_c_24)])]⟩) ?_
            try simp only [thenL, blockL, ↓reduceIte, reduceCtorEq]
            exact ⟨((IntKind.i64.wrap (blockSize * (2 : Int))), data5, cmp_c4, cmp_c_14, cmp_c_24), (Option.some.inj H1).symm, imp_au⟩
          case hxslices_stableCmpFunc_int_ratio_Apportion_f1_j1 =>
            refine lok_rt E0 (⟨63, mkS [(0, .x (.one (.vw 0))), (1, .x (.one (.p (pi n)))), (2, .x (.one (.fn 58 [1, 2, 3]))), (6, .x (.one (.p (pi blockSize)))), (7, .x (.one (.p (pi a1)))), (9, .x (.one (.p (pi (IntKind.i64.wrap (a1 + blockSize))))))], mkH [(0, .arr 1 (List.map encI data4)), (1, .var [.p (pi cmp_c3)]), (2, .var [.p (.sl 1 (List.map encI cmp_c_13))]), (3, .var [.p (pi cmp_c_23)])]⟩) ?_
            refine lok_rt E0 (⟨63, mkS [(0, .x (.one (.vw 0))), (1, .x (.one (.p (pi n)))), (2, .x (.one (.fn 58 [1, 2, 3]))), (6, .x (.one (.p (pi blockSize)))), (7, .x (.one (.p (pi a1)))), (9, .x (.one (.p (pi (IntKind.i64.wrap (a1 + blockSize)))))), (54, .x (.one (.p (.val (.bool (decide ((IntKind.i64.wrap (a1 + blockSize)) < n)))))))], mkH [(0, .arr 1 (List.map encI data4)), (1, .var [.p (pi cmp_c3)]), (2, .var [.p (.sl 1 (List.map encI cmp_c_13))]), (3, .var [.p (pi cmp_c_23)])]⟩) ?_
            refine lok_c (decide ((IntKind.i64.wrap (a1 + blockSize)) < n)) ?_ ?_
            · intro b_4
              replace H1 := cpos H1 b_4
              replace H1 := bind_some H1
              obtain ⟨⟨y1, y2, y3, y4⟩, h_2, H1⟩ := H1
              try dsimp only at H1
              replace H1 := req_some H1
              obtain ⟨q_3, H1⟩ := H1
              refine lok_rl (Env.of E0 [⟨some 60, 84, [.one (.vw 0), .one (.p (pi a1)), .one (.p (pi (IntKind.i64.wrap (a1 + blockSize)))), .one (.p (pi n)), .one (.fn 58 [1, 2, 3])], [.arr 1 (List.map encI data4), .var [.p (pi cmp_c3)], .var [.p (.sl 1 (List.map encI cmp_c_13))], .var [.p (pi cmp_c_23)]], [], [some (.arr 1 (List.map encI y1)), some (.var [.p (pi y2)]), some (.var [.p (.sl 1 (List.map encI y3))]), some (.var [.p (pi y4)])], True, fun _ => ok_slices_symMergeCmpFunc_int_ratio_Apportion_f1 data4 a1 (IntKind.i64.wrap (a1 + blockSize)) n cmp_c3 cmp_c_13 cmp_c_23 (y1, y2, y3, y4) h_2, [true, false, false, false, false]⟩]) (⟨63, mkS [(0, .x (.one (.vw 0))), (1, .x (.one (.p (pi n)))), (2, .x (.one (.fn 58 [1, 2, 3]))), (6, .x (.one (.p (pi blockSize))))], mkH [(0, .arr 1 (List.map encI y1)), (1, .var [.p (pi y2)]), (2, .var [.p (.sl 1 (List.map encI y3))]), (3, .var [.p (pi y4)])]⟩) ?_
              try simp only [thenL, blockL, ↓reduceIte, reduceCtorEq]
              exact ⟨(y1, y2, y3, y4), H1, imp_au⟩
            · intro b_4
              replace H1 := cneg H1 b_4
              refine lok_skip ?_
              try simp only [thenL, blockL, ↓reduceIte, reduceCtorEq]
              exact ⟨(data4, cmp_c3, cmp_c_13, cmp_c_23), H1, imp_au⟩
        case hxslices_stableCmpFunc_int_ratio_Apportion_f1_j2 =>
          refine lok_block ?_
          replace H1 := bind_some H1
          obtain ⟨v_5, hv_5, H1⟩ := H1
          refine lok_iter (fun x_ => ⟨63, mkS [(0, .x (.one (.vw 0))), (1, .x (.one (.p (pi n)))), (2, .x (.one (.fn 58 [1, 2, 3]))), (6, .x (.one (.p (pi blockSize)))), (7, .x (.one (.p (pi x_.1)))), (8, .x (.one (.p (pi x_.2.1))))], mkH [(0, .arr 1 (List.map encI x_.2.2.1)), (1, .var [.p (pi x_.2.2.2.1)]), (2, .var [.p (.sl 1 (List.map encI x_.2.2.2.2.1))]), (3, .var [.p (pi x_.2.2.2.2.2)])]⟩) hv_5 imp_au ?_
          · rintro ⟨a2, b, data6, cmp_c5, cmp_c_15, cmp_c_25⟩ o_2 H2 k_2
            unfold slices_stableCmpFunc_int_ratio_Apportion_f1_l3 at H2
            try dsimp only at H2 ⊢
            refine lok_seq ?_
            refine lok_rt E0 (⟨63, mkS [(0, .x (.one (.vw 0))), (1, .x (.one (.p (pi n)))), (2, .x (.one (.fn 58 [1, 2, 3]))), (6, .x (.one (.p (pi blockSize)))), (7, .x (.one (.p (pi a2)))), (8, .x (.one (.p (pi b)))), (35, .x (.one (.p (.val (.bool (decide (b ≤ n)))))))], mkH [(0, .arr 1 (List.map encI data6)), (1, .var [.p (pi cmp_c5)]), (2, .var [.p (.sl 1 (List.map encI cmp_c_15))]), (3, .var [.p (pi cmp_c_25)])]⟩) ?_
            refine lok_c (decide (b ≤ n)) ?_ ?_
            · intro b_8
              replace H2 := cpos H2 b_8
              refine lok_skip ?_
              try simp only [thenL, blockL, ↓reduceIte, reduceCtorEq]
              refine lok_block ?_
              replace H2 := bind_some H2
              obtain ⟨⟨y5, y6, y7, y8⟩, h_6, H2⟩ := H2
              try dsimp only at H2
              replace H2 := req_some H2
              obtain ⟨q_7, H2⟩ := H2
              refine lok_rt (Env.of E0 [⟨some 43, 84, [.one (.vw 0), .one (.p (pi a2)), .one (.p (pi (IntKind.i64.wrap (a2 + blockSize)))), .one (.p (pi b)), .one (.fn 58 [1, 2, 3])], [.arr 1 (List.map encI data6), .var [.p (pi cmp_c5)], .var [.p (.sl 1 (List.map encI cmp_c_15))], .var [.p (pi cmp_c_25)]], [], [some (.arr 1 (List.map encI y5)), some (.var [.p (pi y6)]), some (.var [.p (.sl 1 (List.map encI y7))]), some (.var [.p (pi y8)])], True, fun _ => ok_slices_symMergeCmpFunc_int_ratio_Apportion_f1 data6 a2 (IntKind.i64.wrap (a2 + blockSize)) b cmp_c5 cmp_c_15 cmp_c_25 (y5, y6, y7, y8) h_6, [true, false, false, false, false]⟩]) (⟨63, mkS [(0, .x (.one (.vw 0))), (1, .x (.one (.p (pi n)))), (2, .x (.one (.fn 58 [1, 2, 3]))), (6, .x (.one (.p (pi blockSize)))), (8, .x (.one (.p (pi b))))], mkH [(0, .arr 1 (List.map encI y5)), (1, .var [.p (pi y6)]), (2, .var [.p (.sl 1 (List.map encI y7))]), (3, .var [.p (pi y8)])]⟩) ?_
              refine lok_rt E0 (⟨63, mkS [(0, .x (.one (.vw 0))), (1, .x (.one (.p (pi n)))), (2, .x (.one (.fn 58 [1, 2, 3]))), (6, .x (.one (.p (pi blockSize)))), (7, .x (.one (.p (pi b)))), (8, .x (.one (.p (pi b))))], mkH [(0, .arr 1 (List.map encI y5)), (1, .var [.p (pi y6)]), (2, .var [.p (.sl 1 (List.map encI y7))]), (3, .var [.p (pi y8)])]⟩) ?_
              refine lok_rl E0 (⟨63, mkS [(0, .x (.one (.vw 0))), (1, .x (.one (.p (pi n)))), (2, .x (.one (.fn 58 [1, 2, 3]))), (6, .x (.one (.p (pi blockSize)))), (7, .x (.one (.p (pi b)))), (8, .x (.one (.p (pi (IntKind.i64.wrap (b + (IntKind.i64.wrap ((2 : Int) * blockSize))))))))], mkH [(0, .arr 1 (List.map encI y5)), (1, .var [.p (pi y6)]), (2, .var [.p (.sl 1 (List.map encI y7))]), (3, .var [.p (pi y8)])]⟩) ?_
              try simp only [thenL, blockL, ↓reduceIte, reduceCtorEq]
              exact ⟨(b, (IntKind.i64.wrap (b + (IntKind.i64.wrap ((2 : Int) * blockSize)))), y5, y6, y7, y8), (Option.some.inj H2).symm, imp_au⟩
            · intro b_8
              replace H2 := cneg H2 b_8
              refine lok_exit ?_
              try simp only [thenL, blockL, ↓reduceIte, reduceCtorEq]
              have e_2 := k_2 _ (Option.some.inj H2).symm
              subst e_2
              try dsimp only at H1
              try simp only [thenL, blockL, ↓reduceIte, reduceCtorEq]
              exact ⟨(a2, data6, cmp_c5, cmp_c_15, cmp_c_25), H1, imp_au⟩
      · intro b_9
        replace H1 := cneg H1 b_9
        refine lok_exit ?_
        try simp only [thenL, blockL, ↓reduceIte, reduceCtorEq]
        have e_1 := k_1 _ (Option.some.inj H1).symm
        subst e_1
        try dsimp only at H0
        obtain rfl := Option.some.inj H0
        try simp only [thenL, blockL]
        exact fin_au _ (.inl rfl) [0, 1, 2, 3] (⟨63, mkS [], mkH [(0, .arr 1 (List.map encI data2)), (1, .var [.p (pi cmp_c1)]), (2, .var [.p (.sl 1 (List.map encI cmp_c_11))]), (3, .var [.p (pi cmp_c_21)])]⟩) rfl rfl imp_au
  case hxslices_stableCmpFunc_int_ratio_Apportion_f1_j5 =>
    refine lok_block ?_
    replace H0 := bind_some H0
    obtain ⟨v_11, hv_11, H0⟩ := H0
    refine lok_iter (fun x_ => ⟨63, mkS [(0, .x (.one (.vw 0))), (1, .x (.one (.p (pi n)))), (2, .x (.one (.fn 58 [1, 2, 3]))), (6, .x (.one (.p (pi (20 : Int))))), (7, .x (.one (.p (pi x_.1)))), (8, .x (.one (.p (pi x_.2.1))))], mkH [(0, .arr 1 (List.map encI x_.2.2)), (1, .var [.p (pi cmp_c)]), (2, .var [.p (.sl 1 (List.map encI cmp_c_1))]), (3, .var [.p (pi cmp_c_2)])]⟩) hv_11 imp_au ?_
    · rintro ⟨a4, b1, data8⟩ o_1 H1 k_1
      unfold slices_stableCmpFunc_int_ratio_Apportion_f1_l6 at H1
      try dsimp only at H1 ⊢
      refine lok_seq ?_
      refine lok_rt E0 (⟨63, mkS [(0, .x (.one (.vw 0))), (1, .x (.one (.p (pi n)))), (2, .x (.one (.fn 58 [1, 2, 3]))), (6, .x (.one (.p (pi (20 : Int))))), (7, .x (.one (.p (pi a4)))), (8, .x (.one (.p (pi b1)))), (13, .x (.one (.p (.val (.bool (decide (b1 ≤ n)))))))], mkH [(0, .arr 1 (List.map encI data8)), (1, .var [.p (pi cmp_c)]), (2, .var [.p (.sl 1 (List.map encI cmp_c_1))]), (3, .var [.p (pi cmp_c_2)])]⟩) ?_
      refine lok_c (decide (b1 ≤ n)) ?_ ?_
      · intro b_14
        replace H1 := cpos H1 b_14
        refine lok_skip ?_
        try simp only [thenL, blockL, ↓reduceIte, reduceCtorEq]
        refine lok_block ?_
        replace H1 := bind_some H1
        obtain ⟨y9, h_12, H1⟩ := H1
        replace H1 := req_some H1
        obtain ⟨q_13, H1⟩ := H1
        refine lok_rt (Env.of E0 [⟨some 18, 83, [.one (.vw 0), .one (.p (pi a4)), .one (.p (pi b1)), .one (.fn 58 [1, 2, 3])], [.arr 1 (List.map encI data8), .var [.p (pi cmp_c)], .var [.p (.sl 1 (List.map encI cmp_c_1))], .var [.p (pi cmp_c_2)]], [], [some (.arr 1 (List.map encI y9)), some (.var [.p (pi cmp_c)]), some (.var [.p (.sl 1 (List.map encI cmp_c_1))]), some (.var [.p (pi cmp_c_2)])], True, fun _ => ok_slices_insertionSortCmpFunc_int_ratio_Apportion_f1 data8 a4 b1 cmp_c cmp_c_1 cmp_c_2 y9 h_12, [true, false, false, false]⟩]) (⟨63, mkS [(0, .x (.one (.vw 0))), (1, .x (.one (.p (pi n)))), (2, .x (.one (.fn 58 [1, 2, 3]))), (6, .x (.one (.p (pi (20 : Int))))), (8, .x (.one (.p (pi b1))))], mkH [(0, .arr 1 (List.map encI y9)), (1, .var [.p (pi cmp_c)]), (2, .var [.p (.sl 1 (List.map encI cmp_c_1))]), (3, .var [.p (pi cmp_c_2)])]⟩) ?_
        refine lok_rt E0 (⟨63, mkS [(0, .x (.one (.vw 0))), (1, .x (.one (.p (pi n)))), (2, .x (.one (.fn 58 [1, 2, 3]))), (6, .x (.one (.p (pi (20 : Int))))), (7, .x (.one (.p (pi b1)))), (8, .x (.one (.p (pi b1))))], mkH [(0, .arr 1 (List.map encI y9)), (1, .var [.p (pi cmp_c)]), (2, .var [.p (.sl 1 (List.map encI cmp_c_1))]), (3, .var [.p (pi cmp_c_2)])]⟩) ?_
        refine lok_rl E0 (⟨63, mkS [(0, .x (.one (.vw 0))), (1, .x (.one (.p (pi n)))), (2, .x (.one (.fn 58 [1, 2, 3]))), (6, .x (.one (.p (pi (20 : Int))))), (7, .x (.one (.p (pi b1)))), (8, .x (.one (.p (pi (IntKind.i64.wrap (b1 + (20 : Int)))))))], mkH [(0, .arr 1 (List.map encI y9)), (1, .var [.p (pi cmp_c)]), (2, .var [.p (.sl 1 (List.map encI cmp_c_1))]), (3, .var [.p (pi cmp_c_2)])]⟩) ?_
        try simp only [thenL, blockL, ↓reduceIte, reduceCtorEq]
        exact ⟨(b1, (IntKind.i64.wrap (b1 + (20 : Int))), y9), (Option.some.inj H1).symm, imp_au⟩
      · intro b_14
        replace H1 := cneg H1 b_14
        refine lok_exit ?_
        try simp only [thenL, blockL, ↓reduceIte, reduceCtorEq]
        have e_1 := k_1 _ (Option.some.inj H1).symm
        subst e_1
        try dsimp only at H0
        try simp only [thenL, blockL, ↓reduceIte, reduceCtorEq]
        exact ⟨(a4, data8), H0, imp_au⟩
theorem ok_slices_SortStableFunc_intint_ratio_Apportion_f1 (x : List Int) (cmp_c : Int) (cmp_c_1 : List Int) (cmp_c_2 : Int) (r_ : (List Int) × Int × (List Int) × Int) (H0 : slices_SortStableFunc_intint_ratio_Apportion_f1 x cmp_c cmp_c_1 cmp_c_2 = some r_) : CallOK Tryd.prog 57 [.one (.vw 0), .one (.fn 58 [1, 2, 3])] [.arr 1 (List.map encI x), .var [.p (pi cmp_c)], .var [.p (.sl 1 (List.map encI cmp_c_1))], .var [.p (pi cmp_c_2)]] [] [some (.arr 1 (List.map encI r_.1)), some (.var [.p (pi r_.2.1)]), some (.var [.p (.sl 1 (List.map encI r_.2.2.1))]), some (.var [.p (pi r_.2.2.2)])] := by
  refine callOK (n := 9) (rs := []) (nb := 4) (V := [0, 1, 2, 3]) Tryd.func57 rfl (by kernel_rfl) rfl rfl rfl rfl (Nat.le_of_ble_eq_true rfl) (by decide) ?_
  unfold slices_SortStableFunc_intint_ratio_Apportion_f1 at H0
  replace H0 := bind_some H0
  obtain ⟨⟨y, y1, y2, y3⟩, h_0, H0⟩ := H0
  try dsimp only at H0
  replace H0 := req_some H0
  obtain ⟨q_1, H0⟩ := H0
  refine lok_rl (Env.of E0 [⟨some 8, 73, [.one (.vw 0), .one (.p (pi (x.length : Int))), .one (.fn 58 [1, 2, 3])], [.arr 1 (List.map encI x), .var [.p (pi cmp_c)], .var [.p (.sl 1 (List.map encI cmp_c_1))], .var [.p (pi cmp_c_2)]], [], [some (.arr 1 (List.map encI y)), some (.var [.p (pi y1)]), some (.var [.p (.sl 1 (List.map encI y2))]), some (.var [.p (pi y3)])], True, fun _ => ok_slices_stableCmpFunc_int_ratio_Apportion_f1 x (x.length : Int) cmp_c cmp_c_1 cmp_c_2 (y, y1, y2, y3) h_0, [true, false, false]⟩]) (⟨9, mkS [], mkH [(0, .arr 1 (List.map encI y)), (1, .var [.p (pi y1)]), (2, .var [.p (.sl 1 (List.map encI y2))]), (3, .var [.p (pi y3)])]⟩) ?_
  obtain rfl := Option.some.inj H0
  try simp only [thenL, blockL]
  exact fin_au _ (.inl rfl) [0, 1, 2, 3] (⟨9, mkS [], mkH [(0, .arr 1 (List.map encI y)), (1, .var [.p (pi y1)]), (2, .var [.p (.sl 1 (List.map encI y2))]), (3, .var [.p (pi y3)])]⟩) rfl rfl imp_au
end Go.LS
