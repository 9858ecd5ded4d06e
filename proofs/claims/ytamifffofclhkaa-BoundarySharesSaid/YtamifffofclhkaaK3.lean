/-
  The walks: the functions compute what the plain ones say. Condition: the plain function has a value.
-/
import Derived.Test.YtamifffofclhkaaK2
import Derived.Test.YtamifffofclhkaaD3
namespace Go.LS
open Go.Proofs
set_option linter.all false
set_option linter.unusedSimpArgs false
set_option linter.unusedVariables false
set_option maxRecDepth 20000

theorem ok_ref01_Order (a : ref01_Wide) (b : ref01_Wide) (r_ : Int) (H0 : ref01_Order a b = some r_) : CallOK Try.prog 58 [.agg [.p (.val (.int .u64 a.Hi)), .p (.val (.int .u64 a.Lo))], .agg [.p (.val (.int .u64 b.Hi)), .p (.val (.int .u64 b.Lo))]] [] [.one (.p (pi r_))] [] := by
  refine callOK (n := 27) (rs := [.tmp 4]) (nb := 0) (V := []) Try.func58 rfl (by kernel_rfl) rfl rfl rfl rfl (Nat.le_of_ble_eq_true rfl) (by decide) ?_
  unfold ref01_Order at H0
  refine lok_rt E0 (⟨27, mkS [(2, .x (.one (.ptr 102 0))), (3, .x (.one (.ptr 103 0)))], mkH [(102, .var [.p (.val (.int .u64 a.Hi)), .p (.val (.int .u64 a.Lo))]), (103, .var [.p (.val (.int .u64 b.Hi)), .p (.val (.int .u64 b.Lo))])]⟩) ?_
  refine lok_seq ?_
  refine lok_rt E0 (⟨27, mkS [(2, .x (.one (.ptr 102 0))), (3, .x (.one (.ptr 103 0))), (23, .x (.one (.p (.val (.bool ((decide (a.Hi < b.Hi)) || ((a.Hi == b.Hi) && (decide (a.Lo < b.Lo)))))))))], mkH [(102, .var [.p (.val (.int .u64 a.Hi)), .p (.val (.int .u64 a.Lo))]), (103, .var [.p (.val (.int .u64 b.Hi)), .p (.val (.int .u64 b.Lo))])]⟩) ?_
  refine lok_c ((decide (a.Hi < b.Hi)) || ((a.Hi == b.Hi) && (decide (a.Lo < b.Lo)))) ?_ ?_
  · intro b_1
    replace H0 := cpos H0 b_1
    refine lok_rt E0 (⟨27, mkS [(4, .x (.one (.p (pi (-1 : Int)))))], mkH []⟩) ?_
    refine lok_ret ?_
    obtain rfl := Option.some.inj H0
    try simp only [thenL, blockL]
    exact fin_au _ (.inr rfl) [] (⟨27, mkS [(4, .x (.one (.p (pi (-1 : Int)))))], mkH []⟩) rfl rfl imp_au
  · intro b_1
    replace H0 := cneg H0 b_1
    refine lok_skip ?_
    try simp only [thenL, blockL, ↓reduceIte, reduceCtorEq]
    refine lok_seq ?_
    refine lok_rt E0 (⟨27, mkS [(26, .x (.one (.p (.val (.bool ((a.Hi == b.Hi) && (a.Lo == b.Lo)))))))], mkH []⟩) ?_
    refine lok_c ((a.Hi == b.Hi) && (a.Lo == b.Lo)) ?_ ?_
    · intro b_0
      replace H0 := cpos H0 b_0
      refine lok_rt E0 (⟨27, mkS [(4, .x (.one (.p (pi (0 : Int)))))], mkH []⟩) ?_
      refine lok_ret ?_
      obtain rfl := Option.some.inj H0
      try simp only [thenL, blockL]
      exact fin_au _ (.inr rfl) [] (⟨27, mkS [(4, .x (.one (.p (pi (0 : Int)))))], mkH []⟩) rfl rfl imp_au
    · intro b_0
      replace H0 := cneg H0 b_0
      refine lok_skip ?_
      try simp only [thenL, blockL, ↓reduceIte, reduceCtorEq]
      refine lok_rt E0 (⟨27, mkS [(4, .x (.one (.p (pi (1 : Int)))))], mkH []⟩) ?_
      refine lok_ret ?_
      obtain rfl := Option.some.inj H0
      try simp only [thenL, blockL]
      exact fin_au _ (.inr rfl) [] (⟨27, mkS [(4, .x (.one (.p (pi (1 : Int)))))], mkH []⟩) rfl rfl imp_au
theorem ok_bits_Sub64 (x y borrow : Int) (r_ : Int × Int) (H0 : bits_Sub64 x y borrow = some r_) : CallOK Try.prog 74 [.int .u64 x, .int .u64 y, .int .u64 borrow] [] [.int .u64 r_.1, .int .u64 r_.2] [] :=
  okSub64 Try.func74 (by kernel_rfl) (by kernel_rfl) (by kernel_rfl) (by kernel_rfl) _ _ _ r_ H0
theorem ok_ref01_Minus (a : ref01_Wide) (b : ref01_Wide) (r_ : ref01_Wide) (H0 : ref01_Minus a b = some r_) : CallOK Try.prog 59 [.agg [.p (.val (.int .u64 a.Hi)), .p (.val (.int .u64 a.Lo))], .agg [.p (.val (.int .u64 b.Hi)), .p (.val (.int .u64 b.Lo))]] [] [.agg [.p (.val (.int .u64 r_.Hi)), .p (.val (.int .u64 r_.Lo))]] [] := by
  refine callOK (n := 29) (rs := [.cell 4 64]) (nb := 0) (V := []) Try.func59 rfl (by kernel_rfl) rfl rfl rfl rfl (Nat.le_of_ble_eq_true rfl) (by decide) ?_
  unfold ref01_Minus at H0
  refine lok_rt E0 (⟨29, mkS [(2, .x (.one (.ptr 102 0))), (3, .x (.one (.ptr 103 0))), (4, .x (.one (.ptr 104 0)))], mkH [(102, .var [.p (.val (.int .u64 a.Hi)), .p (.val (.int .u64 a.Lo))]), (103, .var [.p (.val (.int .u64 b.Hi)), .p (.val (.int .u64 b.Lo))]), (104, .var [.p (.val (.int .u64 (0 : Int))), .p (.val (.int .u64 (0 : Int)))])]⟩) ?_
  replace H0 := bind_some H0
  obtain ⟨⟨y, y1⟩, h_0, H0⟩ := H0
  try dsimp only at H0
  refine lok_rt (Env.of E0 [⟨some 14, 74, [.one (.p (.val (.int .u64 a.Lo))), .one (.p (.val (.int .u64 b.Lo))), .one (.p (.val (.int .u64 (0 : Int))))], [], [.one (.p (.val (.int .u64 y))), .one (.p (.val (.int .u64 y1)))], [], True, fun _ => ok_bits_Sub64 a.Lo b.Lo (0 : Int) (y, y1) h_0, []⟩]) (⟨29, mkS [(2, .x (.one (.ptr 102 0))), (3, .x (.one (.ptr 103 0))), (4, .x (.one (.ptr 104 0))), (5, .x (.one (.p (.val (.int .u64 y))))), (6, .x (.one (.p (.val (.int .u64 y1)))))], mkH [(102, .var [.p (.val (.int .u64 a.Hi)), .p (.val (.int .u64 a.Lo))]), (103, .var [.p (.val (.int .u64 b.Hi)), .p (.val (.int .u64 b.Lo))]), (104, .var [.p (.val (.int .u64 (0 : Int))), .p (.val (.int .u64 (0 : Int)))])]⟩) ?_
  replace H0 := bind_some H0
  obtain ⟨⟨y2, y3⟩, h_1, H0⟩ := H0
  try dsimp only at H0
  refine lok_rt (Env.of E0 [⟨some 23, 74, [.one (.p (.val (.int .u64 a.Hi))), .one (.p (.val (.int .u64 b.Hi))), .one (.p (.val (.int .u64 y1)))], [], [.one (.p (.val (.int .u64 y2))), .one (.p (.val (.int .u64 y3)))], [], True, fun _ => ok_bits_Sub64 a.Hi b.Hi y1 (y2, y3) h_1, []⟩]) (⟨29, mkS [(4, .x (.one (.ptr 104 0))), (5, .x (.one (.p (.val (.int .u64 y))))), (7, .x (.one (.p (.val (.int .u64 y2)))))], mkH [(104, .var [.p (.val (.int .u64 (0 : Int))), .p (.val (.int .u64 (0 : Int)))])]⟩) ?_
  refine lok_rt E0 (⟨29, mkS [(4, .x (.one (.ptr 104 0)))], mkH [(104, .var [.p (.val (.int .u64 y2)), .p (.val (.int .u64 y))])]⟩) ?_
  refine lok_ret ?_
  obtain rfl := Option.some.inj H0
  try simp only [thenL, blockL]
  exact fin_au _ (.inr rfl) [] (⟨29, mkS [(4, .x (.one (.ptr 104 0)))], mkH [(104, .var [.p (.val (.int .u64 y2)), .p (.val (.int .u64 y))])]⟩) rfl rfl imp_au
theorem ok_ref01_Divide (a : ref01_Wide) (b : ref01_Wide) (r_ : ref01_Wide × ref01_Wide) (H0 : ref01_Divide a b = some r_) : CallOK Try.prog 47 [.agg [.p (.val (.int .u64 a.Hi)), .p (.val (.int .u64 a.Lo))], .agg [.p (.val (.int .u64 b.Hi)), .p (.val (.int .u64 b.Lo))]] [] [.agg [.p (.val (.int .u64 r_.1.Hi)), .p (.val (.int .u64 r_.1.Lo))], .agg [.p (.val (.int .u64 r_.2.Hi)), .p (.val (.int .u64 r_.2.Lo))]] [] := by
  refine callOK (n := 82) (rs := [.cell 4 64, .cell 5 64]) (nb := 0) (V := []) Try.func47 rfl (by kernel_rfl) rfl rfl rfl rfl (Nat.le_of_ble_eq_true rfl) (by decide) ?_
  unfold ref01_Divide at H0
  refine lok_rt E0 (⟨82, mkS [(2, .x (.one (.ptr 102 0))), (3, .x (.one (.ptr 103 0))), (4, .x (.one (.ptr 104 0))), (5, .x (.one (.ptr 105 0)))], mkH [(102, .var [.p (.val (.int .u64 a.Hi)), .p (.val (.int .u64 a.Lo))]), (103, .var [.p (.val (.int .u64 b.Hi)), .p (.val (.int .u64 b.Lo))]), (104, .var [.p (.val (.int .u64 (0 : Int))), .p (.val (.int .u64 (0 : Int)))]), (105, .var [.p (.val (.int .u64 (0 : Int))), .p (.val (.int .u64 (0 : Int)))])]⟩) ?_
  refine lok_seq ?_
  refine lok_rt E0 (⟨82, mkS [(2, .x (.one (.ptr 102 0))), (3, .x (.one (.ptr 103 0))), (4, .x (.one (.ptr 104 0))), (5, .x (.one (.ptr 105 0))), (18, .x (.one (.p (.val (.bool ((a.Hi == (0 : Int)) && (b.Hi == (0 : Int))))))))], mkH [(102, .var [.p (.val (.int .u64 a.Hi)), .p (.val (.int .u64 a.Lo))]), (103, .var [.p (.val (.int .u64 b.Hi)), .p (.val (.int .u64 b.Lo))]), (104, .var [.p (.val (.int .u64 (0 : Int))), .p (.val (.int .u64 (0 : Int)))]), (105, .var [.p (.val (.int .u64 (0 : Int))), .p (.val (.int .u64 (0 : Int)))])]⟩) ?_
  refine lok_c ((a.Hi == (0 : Int)) && (b.Hi == (0 : Int))) ?_ ?_
  · intro b_13
    replace H0 := cpos H0 b_13
    replace H0 := req_some H0
    obtain ⟨q_0, H0⟩ := H0
    refine lok_et E0 82 [⟨[(2, .x (.one (.ptr 102 0)))], [], [(19, .x (.one (.ptr 102 1)))], [], none⟩,
      ⟨[(19, .x (.one (.ptr 102 1)))], [(102, some (.var [.p (.val (.int .u64 a.Hi)), .p (.val (.int .u64 a.Lo))]))], [(20, .x (.one (.p (.val (.int .u64 a.Lo)))))], [], none⟩,
      ⟨[(3, .x (.one (.ptr 103 0)))], [], [(21, .x (.one (.ptr 103 1)))], [], none⟩,
      ⟨[(21, .x (.one (.ptr 103 1)))], [(103, some (.var [.p (.val (.int .u64 b.Hi)), .p (.val (.int .u64 b.Lo))]))], [(22, .x (.one (.p (.val (.int .u64 b.Lo)))))], [], none⟩,
      ⟨[(20, .x (.one (.p (.val (.int .u64 a.Lo))))), (22, .x (.one (.p (.val (.int .u64 b.Lo)))))], [], [(23, .x (.one (.p (.val (.int .u64 (IntKind.u64.wrap (Int.tdiv a.Lo b.Lo)))))))], [], none⟩,
      ⟨[(23, .x (.one (.p (.val (.int .u64 (IntKind.u64.wrap (Int.tdiv a.Lo b.Lo)))))))], [], [(24, .x (.agg [.p (.val (.int .u64 (0 : Int))), .p (.val (.int .u64 (IntKind.u64.wrap (Int.tdiv a.Lo b.Lo))))]))], [], none⟩,
      ⟨[(2, .x (.one (.ptr 102 0)))], [], [(25, .x (.one (.ptr 102 1)))], [], none⟩,
      ⟨[(25, .x (.one (.ptr 102 1)))], [(102, some (.var [.p (.val (.int .u64 a.Hi)), .p (.val (.int .u64 a.Lo))]))], [(26, .x (.one (.p (.val (.int .u64 a.Lo)))))], [], none⟩,
      ⟨[(3, .x (.one (.ptr 103 0)))], [], [(27, .x (.one (.ptr 103 1)))], [], none⟩,
      ⟨[(27, .x (.one (.ptr 103 1)))], [(103, some (.var [.p (.val (.int .u64 b.Hi)), .p (.val (.int .u64 b.Lo))]))], [(28, .x (.one (.p (.val (.int .u64 b.Lo)))))], [], none⟩,
      ⟨[(26, .x (.one (.p (.val (.int .u64 a.Lo))))), (28, .x (.one (.p (.val (.int .u64 b.Lo)))))], [], [(29, .x (.one (.p (.val (.int .u64 (Int.tmod a.Lo b.Lo))))))], [], none⟩,
      ⟨[(29, .x (.one (.p (.val (.int .u64 (Int.tmod a.Lo b.Lo))))))], [], [(30, .x (.agg [.p (.val (.int .u64 (0 : Int))), .p (.val (.int .u64 (Int.tmod a.Lo b.Lo)))]))], [], none⟩,
      ⟨[(4, .x (.one (.ptr 104 0))), (24, .x (.agg [.p (.val (.int .u64 (0 : Int))), .p (.val (.int .u64 (IntKind.u64.wrap (Int.tdiv a.Lo b.Lo))))]))], [(104, some (.var [.p (.val (.int .u64 (0 : Int))), .p (.val (.int .u64 (0 : Int)))]))], [], [(104, some (.var [.p (.val (.int .u64 (0 : Int))), .p (.val (.int .u64 (IntKind.u64.wrap (Int.tdiv a.Lo b.Lo))))]))], none⟩] (⟨82, mkS [(4, .x (.one (.ptr 104 0))), (5, .x (.one (.ptr 105 0)))], mkH [(104, .var [.p (.val (.int .u64 (0 : Int))), .p (.val (.int .u64 (IntKind.u64.wrap (Int.tdiv a.Lo b.Lo))))]), (105, .var [.p (.val (.int .u64 (0 : Int))), .p (.val (.int .u64 (Int.tmod a.Lo b.Lo)))])]⟩) (by kernel_rfl) (by kernel_rfl) (by kernel_rfl) rfl rfl rfl ?_
    refine lok_ret ?_
    obtain rfl := Option.some.inj H0
    try simp only [thenL, blockL]
    exact fin_au _ (.inr rfl) [] (⟨82, mkS [(4, .x (.one (.ptr 104 0))), (5, .x (.one (.ptr 105 0)))], mkH [(104, .var [.p (.val (.int .u64 (0 : Int))), .p (.val (.int .u64 (IntKind.u64.wrap (Int.tdiv a.Lo b.Lo))))]), (105, .var [.p (.val (.int .u64 (0 : Int))), .p (.val (.int .u64 (Int.tmod a.Lo b.Lo)))])]⟩) rfl rfl imp_au
  · intro b_13
    replace H0 := cneg H0 b_13
    refine lok_skip ?_
    try simp only [thenL, blockL, ↓reduceIte, reduceCtorEq]
    refine lok_rt E0 (⟨82, mkS [(2, .x (.one (.ptr 102 0))), (3, .x (.one (.ptr 103 0))), (4, .x (.one (.ptr 104 0))), (5, .x (.one (.ptr 105 0))), (6, .x (.one (.ptr 106 0))), (7, .x (.one (.ptr 107 0)))], mkH [(102, .var [.p (.val (.int .u64 a.Hi)), .p (.val (.int .u64 a.Lo))]), (103, .var [.p (.val (.int .u64 b.Hi)), .p (.val (.int .u64 b.Lo))]), (104, .var [.p (.val (.int .u64 (0 : Int))), .p (.val (.int .u64 (0 : Int)))]), (105, .var [.p (.val (.int .u64 (0 : Int))), .p (.val (.int .u64 (0 : Int)))]), (106, .var [.p (.val (.int .u64 (0 : Int))), .p (.val (.int .u64 (0 : Int)))]), (107, .var [.p (.val (.int .u64 (0 : Int))), .p (.val (.int .u64 (0 : Int)))])]⟩) ?_
    refine lok_join (fun x_ : Int × Int × Int × Int => ref01_Divide_j1 x_.1 x_.2.1 x_.2.2.1 x_.2.2.2 = some r_) (fun x_ => ⟨82, mkS [(4, .x (.one (.ptr 104 0))), (5, .x (.one (.ptr 105 0))), (6, .x (.one (.ptr 106 0))), (7, .x (.one (.ptr 107 0)))], mkH [(104, .var [.p (.val (.int .u64 (0 : Int))), .p (.val (.int .u64 (0 : Int)))]), (105, .var [.p (.val (.int .u64 (0 : Int))), .p (.val (.int .u64 (0 : Int)))]), (106, .var [.p (.val (.int .u64 x_.1)), .p (.val (.int .u64 x_.2.1))]), (107, .var [.p (.val (.int .u64 x_.2.2.1)), .p (.val (.int .u64 x_.2.2.2))])]⟩) ?hyref01_Divide_j1 ?hxref01_Divide_j1
    case hyref01_Divide_j1 =>
      rintro ⟨q, q1, r, r1⟩ H0
      try dsimp only at H0 ⊢
      unfold ref01_Divide_j1 at H0
      refine lok_et E0 82 [⟨[(6, .x (.one (.ptr 106 0)))], [(106, some (.var [.p (.val (.int .u64 q)), .p (.val (.int .u64 q1))]))], [(80, .x (.agg [.p (.val (.int .u64 q)), .p (.val (.int .u64 q1))]))], [], none⟩,
      ⟨[(7, .x (.one (.ptr 107 0)))], [(107, some (.var [.p (.val (.int .u64 r)), .p (.val (.int .u64 r1))]))], [(81, .x (.agg [.p (.val (.int .u64 r)), .p (.val (.int .u64 r1))]))], [], none⟩,
      ⟨[(4, .x (.one (.ptr 104 0))), (80, .x (.agg [.p (.val (.int .u64 q)), .p (.val (.int .u64 q1))]))], [(104, some (.var [.p (.val (.int .u64 (0 : Int))), .p (.val (.int .u64 (0 : Int)))]))], [], [(104, some (.var [.p (.val (.int .u64 q)), .p (.val (.int .u64 q1))]))], none⟩] (⟨82, mkS [(4, .x (.one (.ptr 104 0))), (5, .x (.one (.ptr 105 0)))], mkH [(104, .var [.p (.val (.int .u64 q)), .p (.val (.int .u64 q1))]), (105, .var [.p (.val (.int .u64 r)), .p (.val (.int .u64 r1))])]⟩) (by kernel_rfl) (by kernel_rfl) (by kernel_rfl) rfl rfl rfl ?_
      refine lok_ret ?_
      obtain rfl := Option.some.inj H0
      try simp only [thenL, blockL]
      exact fin_au _ (.inr rfl) [] (⟨82, mkS [(4, .x (.one (.ptr 104 0))), (5, .x (.one (.ptr 105 0)))], mkH [(104, .var [.p (.val (.int .u64 q)), .p (.val (.int .u64 q1))]), (105, .var [.p (.val (.int .u64 r)), .p (.val (.int .u64 r1))])]⟩) rfl rfl imp_au
    case hxref01_Divide_j1 =>
      refine lok_rt E0 (⟨82, mkS [(2, .x (.one (.ptr 102 0))), (3, .x (.one (.ptr 103 0))), (4, .x (.one (.ptr 104 0))), (5, .x (.one (.ptr 105 0))), (6, .x (.one (.ptr 106 0))), (7, .x (.one (.ptr 107 0))), (8, .x (.one (.p (pi (127 : Int)))))], mkH [(102, .var [.p (.val (.int .u64 a.Hi)), .p (.val (.int .u64 a.Lo))]), (103, .var [.p (.val (.int .u64 b.Hi)), .p (.val (.int .u64 b.Lo))]), (104, .var [.p (.val (.int .u64 (0 : Int))), .p (.val (.int .u64 (0 : Int)))]), (105, .var [.p (.val (.int .u64 (0 : Int))), .p (.val (.int .u64 (0 : Int)))]), (106, .var [.p (.val (.int .u64 (0 : Int))), .p (.val (.int .u64 (0 : Int)))]), (107, .var [.p (.val (.int .u64 (0 : Int))), .p (.val (.int .u64 (0 : Int)))])]⟩) ?_
      refine lok_block ?_
      replace H0 := bind_some H0
      obtain ⟨v_1, hv_1, H0⟩ := H0
      refine lok_iter (fun x_ => ⟨82, mkS [(2, .x (.one (.ptr 102 0))), (3, .x (.one (.ptr 103 0))), (4, .x (.one (.ptr 104 0))), (5, .x (.one (.ptr 105 0))), (6, .x (.one (.ptr 106 0))), (7, .x (.one (.ptr 107 0))), (8, .x (.one (.p (pi x_.1))))], mkH [(102, .var [.p (.val (.int .u64 a.Hi)), .p (.val (.int .u64 a.Lo))]), (103, .var [.p (.val (.int .u64 b.Hi)), .p (.val (.int .u64 b.Lo))]), (104, .var [.p (.val (.int .u64 (0 : Int))), .p (.val (.int .u64 (0 : Int)))]), (105, .var [.p (.val (.int .u64 (0 : Int))), .p (.val (.int .u64 (0 : Int)))]), (106, .var [.p (.val (.int .u64 x_.2.1)), .p (.val (.int .u64 x_.2.2.1))]), (107, .var [.p (.val (.int .u64 x_.2.2.2.1)), .p (.val (.int .u64 x_.2.2.2.2))])]⟩) hv_1 imp_au ?_
      · rintro ⟨i, q2, q3, r2, r3⟩ o_1 H1 k_1
        unfold ref01_Divide_l4 at H1
        try dsimp only at H1 ⊢
        refine lok_seq ?_
        refine lok_rt E0 (⟨82, mkS [(2, .x (.one (.ptr 102 0))), (3, .x (.one (.ptr 103 0))), (4, .x (.one (.ptr 104 0))), (5, .x (.one (.ptr 105 0))), (6, .x (.one (.ptr 106 0))), (7, .x (.one (.ptr 107 0))), (8, .x (.one (.p (pi i)))), (34, .x (.one (.p (.val (.bool (decide ((0 : Int) ≤ i)))))))], mkH [(102, .var [.p (.val (.int .u64 a.Hi)), .p (.val (.int .u64 a.Lo))]), (103, .var [.p (.val (.int .u64 b.Hi)), .p (.val (.int .u64 b.Lo))]), (104, .var [.p (.val (.int .u64 (0 : Int))), .p (.val (.int .u64 (0 : Int)))]), (105, .var [.p (.val (.int .u64 (0 : Int))), .p (.val (.int .u64 (0 : Int)))]), (106, .var [.p (.val (.int .u64 q2)), .p (.val (.int .u64 q3))]), (107, .var [.p (.val (.int .u64 r2)), .p (.val (.int .u64 r3))])]⟩) ?_
        refine lok_c (decide ((0 : Int) ≤ i)) ?_ ?_
        · intro b_12
          replace H1 := cpos H1 b_12
          refine lok_skip ?_
          try simp only [thenL, blockL, ↓reduceIte, reduceCtorEq]
          refine lok_join (fun x_ : Int × Int × Int × Int => ref01_Divide_j2 i x_.1 x_.2.1 x_.2.2.1 x_.2.2.2 = some o_1) (fun x_ => ⟨82, mkS [(2, .x (.one (.ptr 102 0))), (3, .x (.one (.ptr 103 0))), (4, .x (.one (.ptr 104 0))), (5, .x (.one (.ptr 105 0))), (6, .x (.one (.ptr 106 0))), (7, .x (.one (.ptr 107 0))), (8, .x (.one (.p (pi i))))], mkH [(102, .var [.p (.val (.int .u64 a.Hi)), .p (.val (.int .u64 a.Lo))]), (103, .var [.p (.val (.int .u64 b.Hi)), .p (.val (.int .u64 b.Lo))]), (104, .var [.p (.val (.int .u64 (0 : Int))), .p (.val (.int .u64 (0 : Int)))]), (105, .var [.p (.val (.int .u64 (0 : Int))), .p (.val (.int .u64 (0 : Int)))]), (106, .var [.p (.val (.int .u64 x_.1)), .p (.val (.int .u64 x_.2.1))]), (107, .var [.p (.val (.int .u64 x_.2.2.1)), .p (.val (.int .u64 x_.2.2.2))])]⟩) ?hyref01_Divide_j2 ?hxref01_Divide_j2
          case hyref01_Divide_j2 =>
            rintro ⟨q6, q7, r6, r7⟩ H1
            try dsimp only at H1 ⊢
            unfold ref01_Divide_j2 at H1
            refine lok_rl E0 (⟨82, mkS [(2, .x (.one (.ptr 102 0))), (3, .x (.one (.ptr 103 0))), (4, .x (.one (.ptr 104 0))), (5, .x (.one (.ptr 105 0))), (6, .x (.one (.ptr 106 0))), (7, .x (.one (.ptr 107 0))), (8, .x (.one (.p (pi (IntKind.i64.wrap (i - (1 : Int)))))))], mkH [(102, .var [.p (.val (.int .u64 a.Hi)), .p (.val (.int .u64 a.Lo))]), (103, .var [.p (.val (.int .u64 b.Hi)), .p (.val (.int .u64 b.Lo))]), (104, .var [.p (.val (.int .u64 (0 : Int))), .p (.val (.int .u64 (0 : Int)))]), (105, .var [.p (.val (.int .u64 (0 : Int))), .p (.val (.int .u64 (0 : Int)))]), (106, .var [.p (.val (.int .u64 q6)), .p (.val (.int .u64 q7))]), (107, .var [.p (.val (.int .u64 r6)), .p (.val (.int .u64 r7))])]⟩) ?_
            try simp only [thenL, blockL, ↓reduceIte, reduceCtorEq]
            exact ⟨((IntKind.i64.wrap (i - (1 : Int))), q6, q7, r6, r7), (Option.some.inj H1).symm, imp_au⟩
          case hxref01_Divide_j2 =>
            refine lok_block ?_
            replace H1 := req_some H1
            obtain ⟨q_11, H1⟩ := H1
            replace H1 := bindV_some H1
            obtain ⟨bit, a_2, H1⟩ := H1
            refine lok_rtg E0 a_2 (⟨82, mkS [(2, .x (.one (.ptr 102 0))), (3, .x (.one (.ptr 103 0))), (4, .x (.one (.ptr 104 0))), (5, .x (.one (.ptr 105 0))), (6, .x (.one (.ptr 106 0))), (7, .x (.one (.ptr 107 0))), (8, .x (.one (.p (pi i)))), (9, .x (.one (.p (.val (.int .u64 bit)))))], mkH [(102, .var [.p (.val (.int .u64 a.Hi)), .p (.val (.int .u64 a.Lo))]), (103, .var [.p (.val (.int .u64 b.Hi)), .p (.val (.int .u64 b.Lo))]), (104, .var [.p (.val (.int .u64 (0 : Int))), .p (.val (.int .u64 (0 : Int)))]), (105, .var [.p (.val (.int .u64 (0 : Int))), .p (.val (.int .u64 (0 : Int)))]), (106, .var [.p (.val (.int .u64 q2)), .p (.val (.int .u64 q3))]), (107, .var [.p (.val (.int .u64 r2)), .p (.val (.int .u64 r3))])]⟩) ?_
            refine lok_join (fun x_ : Int => ref01_Divide_j3 b i q2 q3 r2 r3 x_ = some o_1) (fun x_ => ⟨82, mkS [(2, .x (.one (.ptr 102 0))), (3, .x (.one (.ptr 103 0))), (4, .x (.one (.ptr 104 0))), (5, .x (.one (.ptr 105 0))), (6, .x (.one (.ptr 106 0))), (7, .x (.one (.ptr 107 0))), (8, .x (.one (.p (pi i)))), (9, .x (.one (.p (.val (.int .u64 x_)))))], mkH [(102, .var [.p (.val (.int .u64 a.Hi)), .p (.val (.int .u64 a.Lo))]), (103, .var [.p (.val (.int .u64 b.Hi)), .p (.val (.int .u64 b.Lo))]), (104, .var [.p (.val (.int .u64 (0 : Int))), .p (.val (.int .u64 (0 : Int)))]), (105, .var [.p (.val (.int .u64 (0 : Int))), .p (.val (.int .u64 (0 : Int)))]), (106, .var [.p (.val (.int .u64 q2)), .p (.val (.int .u64 q3))]), (107, .var [.p (.val (.int .u64 r2)), .p (.val (.int .u64 r3))])]⟩) ?hyref01_Divide_j3 ?hxref01_Divide_j3
            case hyref01_Divide_j3 =>
              rintro bit1 H1
              try dsimp only at H1 ⊢
              unfold ref01_Divide_j3 at H1
              refine lok_rt E0 (⟨82, mkS [(2, .x (.one (.ptr 102 0))), (3, .x (.one (.ptr 103 0))), (4, .x (.one (.ptr 104 0))), (5, .x (.one (.ptr 105 0))), (6, .x (.one (.ptr 106 0))), (7, .x (.one (.ptr 107 0))), (8, .x (.one (.p (pi i)))), (9, .x (.one (.p (.val (.int .u64 bit1))))), (10, .x (.one (.p (.val (.bool ((bShr .u64 r2 (63 : Int)) == (1 : Int)))))))], mkH [(102, .var [.p (.val (.int .u64 a.Hi)), .p (.val (.int .u64 a.Lo))]), (103, .var [.p (.val (.int .u64 b.Hi)), .p (.val (.int .u64 b.Lo))]), (104, .var [.p (.val (.int .u64 (0 : Int))), .p (.val (.int .u64 (0 : Int)))]), (105, .var [.p (.val (.int .u64 (0 : Int))), .p (.val (.int .u64 (0 : Int)))]), (106, .var [.p (.val (.int .u64 q2)), .p (.val (.int .u64 q3))]), (107, .var [.p (.val (.int .u64 r2)), .p (.val (.int .u64 r3))])]⟩) ?_
              replace H1 := bind_some H1
              obtain ⟨y, h_3, H1⟩ := H1
              refine lok_rt (Env.of E0 [⟨some 58, 57, [.agg [.p (.val (.int .u64 r2)), .p (.val (.int .u64 r3))]], [], [.agg [.p (.val (.int .u64 y.Hi)), .p (.val (.int .u64 y.Lo))]], [], True, fun _ => ok_ref01_Twice (ref01_Wide.mk r2 r3) y h_3, []⟩]) (⟨82, mkS [(2, .x (.one (.ptr 102 0))), (3, .x (.one (.ptr 103 0))), (4, .x (.one (.ptr 104 0))), (5, .x (.one (.ptr 105 0))), (6, .x (.one (.ptr 106 0))), (7, .x (.one (.ptr 107 0))), (8, .x (.one (.p (pi i)))), (9, .x (.one (.p (.val (.int .u64 bit1))))), (10, .x (.one (.p (.val (.bool ((bShr .u64 r2 (63 : Int)) == (1 : Int)))))))], mkH [(102, .var [.p (.val (.int .u64 a.Hi)), .p (.val (.int .u64 a.Lo))]), (103, .var [.p (.val (.int .u64 b.Hi)), .p (.val (.int .u64 b.Lo))]), (104, .var [.p (.val (.int .u64 (0 : Int))), .p (.val (.int .u64 (0 : Int)))]), (105, .var [.p (.val (.int .u64 (0 : Int))), .p (.val (.int .u64 (0 : Int)))]), (106, .var [.p (.val (.int .u64 q2)), .p (.val (.int .u64 q3))]), (107, .var [.p (.val (.int .u64 y.Hi)), .p (.val (.int .u64 y.Lo))])]⟩) ?_
              refine lok_rt E0 (⟨82, mkS [(2, .x (.one (.ptr 102 0))), (3, .x (.one (.ptr 103 0))), (4, .x (.one (.ptr 104 0))), (5, .x (.one (.ptr 105 0))), (6, .x (.one (.ptr 106 0))), (7, .x (.one (.ptr 107 0))), (8, .x (.one (.p (pi i)))), (10, .x (.one (.p (.val (.bool ((bShr .u64 r2 (63 : Int)) == (1 : Int)))))))], mkH [(102, .var [.p (.val (.int .u64 a.Hi)), .p (.val (.int .u64 a.Lo))]), (103, .var [.p (.val (.int .u64 b.Hi)), .p (.val (.int .u64 b.Lo))]), (104, .var [.p (.val (.int .u64 (0 : Int))), .p (.val (.int .u64 (0 : Int)))]), (105, .var [.p (.val (.int .u64 (0 : Int))), .p (.val (.int .u64 (0 : Int)))]), (106, .var [.p (.val (.int .u64 q2)), .p (.val (.int .u64 q3))]), (107, .var [.p (.val (.int .u64 y.Hi)), .p (.val (.int .u64 (bOr .u64 y.Lo bit1)))])]⟩) ?_
              replace H1 := bind_some H1
              obtain ⟨y1, h_4, H1⟩ := H1
              refine lok_rt (Env.of E0 [⟨some 65, 57, [.agg [.p (.val (.int .u64 q2)), .p (.val (.int .u64 q3))]], [], [.agg [.p (.val (.int .u64 y1.Hi)), .p (.val (.int .u64 y1.Lo))]], [], True, fun _ => ok_ref01_Twice (ref01_Wide.mk q2 q3) y1 h_4, []⟩]) (⟨82, mkS [(2, .x (.one (.ptr 102 0))), (3, .x (.one (.ptr 103 0))), (4, .x (.one (.ptr 104 0))), (5, .x (.one (.ptr 105 0))), (6, .x (.one (.ptr 106 0))), (7, .x (.one (.ptr 107 0))), (8, .x (.one (.p (pi i)))), (10, .x (.one (.p (.val (.bool ((bShr .u64 r2 (63 : Int)) == (1 : Int)))))))], mkH [(102, .var [.p (.val (.int .u64 a.Hi)), .p (.val (.int .u64 a.Lo))]), (103, .var [.p (.val (.int .u64 b.Hi)), .p (.val (.int .u64 b.Lo))]), (104, .var [.p (.val (.int .u64 (0 : Int))), .p (.val (.int .u64 (0 : Int)))]), (105, .var [.p (.val (.int .u64 (0 : Int))), .p (.val (.int .u64 (0 : Int)))]), (106, .var [.p (.val (.int .u64 y1.Hi)), .p (.val (.int .u64 y1.Lo))]), (107, .var [.p (.val (.int .u64 y.Hi)), .p (.val (.int .u64 (bOr .u64 y.Lo bit1)))])]⟩) ?_
              replace H1 := req_some H1
              obtain ⟨q_7, H1⟩ := H1
              refine lok_rt (Env.of E0 [⟨some 70, 58, [.agg [.p (.val (.int .u64 y.Hi)), .p (.val (.int .u64 (bOr .u64 y.Lo bit1)))], .agg [.p (.val (.int .u64 b.Hi)), .p (.val (.int .u64 b.Lo))]], [], [.one (.p (pi ((ref01_Order (ref01_Wide.mk y.Hi (bOr .u64 y.Lo bit1)) b).getD default)))], [], (ref01_Order (ref01_Wide.mk y.Hi (bOr .u64 y.Lo bit1)) b).isSome = true, fun h => ok_ref01_Order (ref01_Wide.mk y.Hi (bOr .u64 y.Lo bit1)) b _ (isSome_get h), []⟩]) (⟨82, mkS [(2, .x (.one (.ptr 102 0))), (3, .x (.one (.ptr 103 0))), (4, .x (.one (.ptr 104 0))), (5, .x (.one (.ptr 105 0))), (6, .x (.one (.ptr 106 0))), (7, .x (.one (.ptr 107 0))), (8, .x (.one (.p (pi i)))), (72, .x (.one (.p (.val (.bool (((bShr .u64 r2 (63 : Int)) == (1 : Int)) || (decide ((0 : Int) ≤ ((ref01_Order (ref01_Wide.mk y.Hi (bOr .u64 y.Lo bit1)) b).getD default)))))))))], mkH [(102, .var [.p (.val (.int .u64 a.Hi)), .p (.val (.int .u64 a.Lo))]), (103, .var [.p (.val (.int .u64 b.Hi)), .p (.val (.int .u64 b.Lo))]), (104, .var [.p (.val (.int .u64 (0 : Int))), .p (.val (.int .u64 (0 : Int)))]), (105, .var [.p (.val (.int .u64 (0 : Int))), .p (.val (.int .u64 (0 : Int)))]), (106, .var [.p (.val (.int .u64 y1.Hi)), .p (.val (.int .u64 y1.Lo))]), (107, .var [.p (.val (.int .u64 y.Hi)), .p (.val (.int .u64 (bOr .u64 y.Lo bit1)))])]⟩) ?_
              refine lok_c (((bShr .u64 r2 (63 : Int)) == (1 : Int)) || (decide ((0 : Int) ≤ ((ref01_Order (ref01_Wide.mk y.Hi (bOr .u64 y.Lo bit1)) b).getD default)))) ?_ ?_
              · intro b_6
                replace H1 := cpos H1 b_6
                replace H1 := bind_some H1
                obtain ⟨y2, h_5, H1⟩ := H1
                refine lok_rt (Env.of E0 [⟨some 75, 59, [.agg [.p (.val (.int .u64 y.Hi)), .p (.val (.int .u64 (bOr .u64 y.Lo bit1)))], .agg [.p (.val (.int .u64 b.Hi)), .p (.val (.int .u64 b.Lo))]], [], [.agg [.p (.val (.int .u64 y2.Hi)), .p (.val (.int .u64 y2.Lo))]], [], True, fun _ => ok_ref01_Minus (ref01_Wide.mk y.Hi (bOr .u64 y.Lo bit1)) b y2 h_5, []⟩]) (⟨82, mkS [(2, .x (.one (.ptr 102 0))), (3, .x (.one (.ptr 103 0))), (4, .x (.one (.ptr 104 0))), (5, .x (.one (.ptr 105 0))), (6, .x (.one (.ptr 106 0))), (7, .x (.one (.ptr 107 0))), (8, .x (.one (.p (pi i))))], mkH [(102, .var [.p (.val (.int .u64 a.Hi)), .p (.val (.int .u64 a.Lo))]), (103, .var [.p (.val (.int .u64 b.Hi)), .p (.val (.int .u64 b.Lo))]), (104, .var [.p (.val (.int .u64 (0 : Int))), .p (.val (.int .u64 (0 : Int)))]), (105, .var [.p (.val (.int .u64 (0 : Int))), .p (.val (.int .u64 (0 : Int)))]), (106, .var [.p (.val (.int .u64 y1.Hi)), .p (.val (.int .u64 y1.Lo))]), (107, .var [.p (.val (.int .u64 y2.Hi)), .p (.val (.int .u64 y2.Lo))])]⟩) ?_
                refine lok_rl E0 (⟨82, mkS [(2, .x (.one (.ptr 102 0))), (3, .x (.one (.ptr 103 0))), (4, .x (.one (.ptr 104 0))), (5, .x (.one (.ptr 105 0))), (6, .x (.one (.ptr 106 0))), (7, .x (.one (.ptr 107 0))), (8, .x (.one (.p (pi i))))], mkH [(102, .var [.p (.val (.int .u64 a.Hi)), .p (.val (.int .u64 a.Lo))]), (103, .var [.p (.val (.int .u64 b.Hi)), .p (.val (.int .u64 b.Lo))]), (104, .var [.p (.val (.int .u64 (0 : Int))), .p (.val (.int .u64 (0 : Int)))]), (105, .var [.p (.val (.int .u64 (0 : Int))), .p (.val (.int .u64 (0 : Int)))]), (106, .var [.p (.val (.int .u64 y1.Hi)), .p (.val (.int .u64 (bOr .u64 y1.Lo (1 : Int))))]), (107, .var [.p (.val (.int .u64 y2.Hi)), .p (.val (.int .u64 y2.Lo))])]⟩) ?_
                try simp only [thenL, blockL, ↓reduceIte, reduceCtorEq]
                exact ⟨(y1.Hi, (bOr .u64 y1.Lo (1 : Int)), y2.Hi, y2.Lo), H1, imp_au⟩
              · intro b_6
                replace H1 := cneg H1 b_6
                refine lok_skip ?_
                try simp only [thenL, blockL, ↓reduceIte, reduceCtorEq]
                exact ⟨(y1.Hi, y1.Lo, y.Hi, (bOr .u64 y.Lo bit1)), H1, imp_au⟩
            case hxref01_Divide_j3 =>
              refine lok_rt E0 (⟨82, mkS [(2, .x (.one (.ptr 102 0))), (3, .x (.one (.ptr 103 0))), (4, .x (.one (.ptr 104 0))), (5, .x (.one (.ptr 105 0))), (6, .x (.one (.ptr 106 0))), (7, .x (.one (.ptr 107 0))), (8, .x (.one (.p (pi i)))), (9, .x (.one (.p (.val (.int .u64 bit))))), (45, .x (.one (.p (.val (.bool (decide ((64 : Int) ≤ i)))))))], mkH [(102, .var [.p (.val (.int .u64 a.Hi)), .p (.val (.int .u64 a.Lo))]), (103, .var [.p (.val (.int .u64 b.Hi)), .p (.val (.int .u64 b.Lo))]), (104, .var [.p (.val (.int .u64 (0 : Int))), .p (.val (.int .u64 (0 : Int)))]), (105, .var [.p (.val (.int .u64 (0 : Int))), .p (.val (.int .u64 (0 : Int)))]), (106, .var [.p (.val (.int .u64 q2)), .p (.val (.int .u64 q3))]), (107, .var [.p (.val (.int .u64 r2)), .p (.val (.int .u64 r3))])]⟩) ?_
              refine lok_c (decide ((64 : Int) ≤ i)) ?_ ?_
              · intro b_10
                replace H1 := cpos H1 b_10
                replace H1 := req_some H1
                obtain ⟨q_9, H1⟩ := H1
                replace H1 := bindV_some H1
                obtain ⟨bit2, a_8, H1⟩ := H1
                refine lok_rlg E0 a_8 (⟨82, mkS [(2, .x (.one (.ptr 102 0))), (3, .x (.one (.ptr 103 0))), (4, .x (.one (.ptr 104 0))), (5, .x (.one (.ptr 105 0))), (6, .x (.one (.ptr 106 0))), (7, .x (.one (.ptr 107 0))), (8, .x (.one (.p (pi i)))), (9, .x (.one (.p (.val (.int .u64 bit2)))))], mkH [(102, .var [.p (.val (.int .u64 a.Hi)), .p (.val (.int .u64 a.Lo))]), (103, .var [.p (.val (.int .u64 b.Hi)), .p (.val (.int .u64 b.Lo))]), (104, .var [.p (.val (.int .u64 (0 : Int))), .p (.val (.int .u64 (0 : Int)))]), (105, .var [.p (.val (.int .u64 (0 : Int))), .p (.val (.int .u64 (0 : Int)))]), (106, .var [.p (.val (.int .u64 q2)), .p (.val (.int .u64 q3))]), (107, .var [.p (.val (.int .u64 r2)), .p (.val (.int .u64 r3))])]⟩) ?_
                try simp only [thenL, blockL, ↓reduceIte, reduceCtorEq]
                exact ⟨bit2, H1, imp_au⟩
              · intro b_10
                replace H1 := cneg H1 b_10
                refine lok_skip ?_
                try simp only [thenL, blockL, ↓reduceIte, reduceCtorEq]
                exact ⟨bit, H1, imp_au⟩
        · intro b_12
          replace H1 := cneg H1 b_12
          refine lok_exit ?_
          try simp only [thenL, blockL, ↓reduceIte, reduceCtorEq]
          have e_1 := k_1 _ (Option.some.inj H1).symm
          subst e_1
          try dsimp only at H0
          try simp only [thenL, blockL, ↓reduceIte, reduceCtorEq]
          exact ⟨(q2, q3, r2, r3), H0, imp_au⟩
theorem ok_ref01_Divisor (a : ref01_Wide) (b : ref01_Wide) (r_ : ref01_Wide) (H0 : ref01_Divisor a b = some r_) : CallOK Try.prog 46 [.agg [.p (.val (.int .u64 a.Hi)), .p (.val (.int .u64 a.Lo))], .agg [.p (.val (.int .u64 b.Hi)), .p (.val (.int .u64 b.Lo))]] [] [.agg [.p (.val (.int .u64 r_.Hi)), .p (.val (.int .u64 r_.Lo))]] [] := by
  refine callOK (n := 19) (rs := [.cell 4 64]) (nb := 0) (V := []) Try.func46 rfl (by kernel_rfl) rfl rfl rfl rfl (Nat.le_of_ble_eq_true rfl) (by decide) ?_
  unfold ref01_Divisor at H0
  refine lok_rt E0 (⟨19, mkS [(2, .x (.one (.ptr 102 0))), (3, .x (.one (.ptr 103 0))), (4, .x (.one (.ptr 104 0)))], mkH [(102, .var [.p (.val (.int .u64 a.Hi)), .p (.val (.int .u64 a.Lo))]), (103, .var [.p (.val (.int .u64 b.Hi)), .p (.val (.int .u64 b.Lo))]), (104, .var [.p (.val (.int .u64 (0 : Int))), .p (.val (.int .u64 (0 : Int)))])]⟩) ?_
  refine lok_join (fun x_ : Int × Int => ref01_Divisor_j1 x_.1 x_.2 = some r_) (fun x_ => ⟨19, mkS [(2, .x (.one (.ptr 102 0))), (4, .x (.one (.ptr 104 0)))], mkH [(102, .var [.p (.val (.int .u64 x_.1)), .p (.val (.int .u64 x_.2))]), (104, .var [.p (.val (.int .u64 (0 : Int))), .p (.val (.int .u64 (0 : Int)))])]⟩) ?hyref01_Divisor_j1 ?hxref01_Divisor_j1
  case hyref01_Divisor_j1 =>
    rintro ⟨a1, a2⟩ H0
    try dsimp only at H0 ⊢
    unfold ref01_Divisor_j1 at H0
    refine lok_rt E0 (⟨19, mkS [(4, .x (.one (.ptr 104 0)))], mkH [(104, .var [.p (.val (.int .u64 a1)), .p (.val (.int .u64 a2))])]⟩) ?_
    refine lok_ret ?_
    obtain rfl := Option.some.inj H0
    try simp only [thenL, blockL]
    exact fin_au _ (.inr rfl) [] (⟨19, mkS [(4, .x (.one (.ptr 104 0)))], mkH [(104, .var [.p (.val (.int .u64 a1)), .p (.val (.int .u64 a2))])]⟩) rfl rfl imp_au
  case hxref01_Divisor_j1 =>
    refine lok_block ?_
    replace H0 := bind_some H0
    obtain ⟨v_0, hv_0, H0⟩ := H0
    refine lok_iter (fun x_ => ⟨19, mkS [(2, .x (.one (.ptr 102 0))), (3, .x (.one (.ptr 103 0))), (4, .x (.one (.ptr 104 0)))], mkH [(102, .var [.p (.val (.int .u64 x_.1)), .p (.val (.int .u64 x_.2.1))]), (103, .var [.p (.val (.int .u64 x_.2.2.1)), .p (.val (.int .u64 x_.2.2.2))]), (104, .var [.p (.val (.int .u64 (0 : Int))), .p (.val (.int .u64 (0 : Int)))])]⟩) hv_0 imp_au ?_
    · rintro ⟨a3, a4, b1, b2⟩ o_1 H1 k_1
      unfold ref01_Divisor_l2 at H1
      try dsimp only at H1 ⊢
      refine lok_seq ?_
      refine lok_rt E0 (⟨19, mkS [(2, .x (.one (.ptr 102 0))), (3, .x (.one (.ptr 103 0))), (4, .x (.one (.ptr 104 0))), (9, .x (.one (.p (.val (.bool (!((b1 == (0 : Int)) && (b2 == (0 : Int)))))))))], mkH [(102, .var [.p (.val (.int .u64 a3)), .p (.val (.int .u64 a4))]), (103, .var [.p (.val (.int .u64 b1)), .p (.val (.int .u64 b2))]), (104, .var [.p (.val (.int .u64 (0 : Int))), .p (.val (.int .u64 (0 : Int)))])]⟩) ?_
      refine lok_c (!((b1 == (0 : Int)) && (b2 == (0 : Int)))) ?_ ?_
      · intro b_2
        replace H1 := cpos H1 b_2
        refine lok_skip ?_
        try simp only [thenL, blockL, ↓reduceIte, reduceCtorEq]
        refine lok_block ?_
        replace H1 := bind_some H1
        obtain ⟨⟨y, y1⟩, h_1, H1⟩ := H1
        try dsimp only at H1
        refine lok_rt (Env.of E0 [⟨some 13, 47, [.agg [.p (.val (.int .u64 a3)), .p (.val (.int .u64 a4))], .agg [.p (.val (.int .u64 b1)), .p (.val (.int .u64 b2))]], [], [.agg [.p (.val (.int .u64 y.Hi)), .p (.val (.int .u64 y.Lo))], .agg [.p (.val (.int .u64 y1.Hi)), .p (.val (.int .u64 y1.Lo))]], [], True, fun _ => ok_ref01_Divide (ref01_Wide.mk a3 a4) (ref01_Wide.mk b1 b2) (y, y1) h_1, []⟩]) (⟨19, mkS [(2, .x (.one (.ptr 102 0))), (3, .x (.one (.ptr 103 0))), (4, .x (.one (.ptr 104 0))), (6, .x (.one (.ptr 106 0)))], mkH [(102, .var [.p (.val (.int .u64 a3)), .p (.val (.int .u64 a4))]), (103, .var [.p (.val (.int .u64 b1)), .p (.val (.int .u64 b2))]), (104, .var [.p (.val (.int .u64 (0 : Int))), .p (.val (.int .u64 (0 : Int)))]), (106, .var [.p (.val (.int .u64 y1.Hi)), .p (.val (.int .u64 y1.Lo))])]⟩) ?_
        refine lok_el E0 19 [⟨[(3, .x (.one (.ptr 103 0)))], [(103, some (.var [.p (.val (.int .u64 b1)), .p (.val (.int .u64 b2))]))], [(16, .x (.agg [.p (.val (.int .u64 b1)), .p (.val (.int .u64 b2))]))], [], none⟩,
      ⟨[(6, .x (.one (.ptr 106 0)))], [(106, some (.var [.p (.val (.int .u64 y1.Hi)), .p (.val (.int .u64 y1.Lo))]))], [(17, .x (.agg [.p (.val (.int .u64 y1.Hi)), .p (.val (.int .u64 y1.Lo))]))], [], none⟩,
      ⟨[(2, .x (.one (.ptr 102 0))), (16, .x (.agg [.p (.val (.int .u64 b1)), .p (.val (.int .u64 b2))]))], [(102, some (.var [.p (.val (.int .u64 a3)), .p (.val (.int .u64 a4))]))], [], [(102, some (.var [.p (.val (.int .u64 b1)), .p (.val (.int .u64 b2))]))], none⟩] (⟨19, mkS [(2, .x (.one (.ptr 102 0))), (3, .x (.one (.ptr 103 0))), (4, .x (.one (.ptr 104 0)))], mkH [(102, .var [.p (.val (.int .u64 b1)), .p (.val (.int .u64 b2))]), (103, .var [.p (.val (.int .u64 y1.Hi)), .p (.val (.int .u64 y1.Lo))]), (104, .var [.p (.val (.int .u64 (0 : Int))), .p (.val (.int .u64 (0 : Int)))])]⟩) (by kernel_rfl) (by kernel_rfl) (by kernel_rfl) rfl rfl rfl ?_
        try simp only [thenL, blockL, ↓reduceIte, reduceCtorEq]
        exact ⟨(b1, b2, y1.Hi, y1.Lo), (Option.some.inj H1).symm, imp_au⟩
      · intro b_2
        replace H1 := cneg H1 b_2
        refine lok_exit ?_
        try simp only [thenL, blockL, ↓reduceIte, reduceCtorEq]
        have e_1 := k_1 _ (Option.some.inj H1).symm
        subst e_1
        try dsimp only at H0
        try simp only [thenL, blockL, ↓reduceIte, reduceCtorEq]
        exact ⟨(a3, a4), H0, imp_au⟩
theorem ok_ref01_Reduce (negative : Bool) (num : ref01_Wide) (den : ref01_Wide) (r_ : api_Ratio × Int) (H0 : ref01_Reduce negative num den = some r_) : CallOK Try.prog 33 [.one (.p (.val (.bool negative))), .agg [.p (.val (.int .u64 num.Hi)), .p (.val (.int .u64 num.Lo))], .agg [.p (.val (.int .u64 den.Hi)), .p (.val (.int .u64 den.Lo))]] [] [.agg [.p (pi r_.1.Num), .p (pi r_.1.Den)], .one (.p (pi r_.2))] [] := by
  refine callOK (n := 61) (rs := [.cell 6 40, .tmp 7]) (nb := 0) (V := []) Try.func33 rfl (by kernel_rfl) rfl rfl rfl rfl (Nat.le_of_ble_eq_true rfl) (by decide) ?_
  unfold ref01_Reduce at H0
  refine lok_rt E0 (⟨61, mkS [(0, .x (.one (.p (.val (.bool negative))))), (4, .x (.one (.ptr 104 0))), (5, .x (.one (.ptr 105 0))), (6, .x (.one (.ptr 106 0)))], mkH [(104, .var [.p (.val (.int .u64 num.Hi)), .p (.val (.int .u64 num.Lo))]), (105, .var [.p (.val (.int .u64 den.Hi)), .p (.val (.int .u64 den.Lo))]), (106, .var [.p (pi (0 : Int)), .p (pi (0 : Int))])]⟩) ?_
  replace H0 := bind_some H0
  obtain ⟨y, h_0, H0⟩ := H0
  refine lok_rt (Env.of E0 [⟨some 16, 46, [.agg [.p (.val (.int .u64 num.Hi)), .p (.val (.int .u64 num.Lo))], .agg [.p (.val (.int .u64 den.Hi)), .p (.val (.int .u64 den.Lo))]], [], [.agg [.p (.val (.int .u64 y.Hi)), .p (.val (.int .u64 y.Lo))]], [], True, fun _ => ok_ref01_Divisor num den y h_0, []⟩]) (⟨61, mkS [(0, .x (.one (.p (.val (.bool negative))))), (4, .x (.one (.ptr 104 0))), (5, .x (.one (.ptr 105 0))), (6, .x (.one (.ptr 106 0))), (8, .x (.one (.ptr 108 0)))], mkH [(104, .var [.p (.val (.int .u64 num.Hi)), .p (.val (.int .u64 num.Lo))]), (105, .var [.p (.val (.int .u64 den.Hi)), .p (.val (.int .u64 den.Lo))]), (106, .var [.p (pi (0 : Int)), .p (pi (0 : Int))]), (108, .var [.p (.val (.int .u64 y.Hi)), .p (.val (.int .u64 y.Lo))])]⟩) ?_
  replace H0 := bind_some H0
  obtain ⟨⟨y1, y2⟩, h_1, H0⟩ := H0
  try dsimp only at H0
  refine lok_rt (Env.of E0 [⟨some 20, 47, [.agg [.p (.val (.int .u64 num.Hi)), .p (.val (.int .u64 num.Lo))], .agg [.p (.val (.int .u64 y.Hi)), .p (.val (.int .u64 y.Lo))]], [], [.agg [.p (.val (.int .u64 y1.Hi)), .p (.val (.int .u64 y1.Lo))], .agg [.p (.val (.int .u64 y2.Hi)), .p (.val (.int .u64 y2.Lo))]], [], True, fun _ => ok_ref01_Divide num y (y1, y2) h_1, []⟩]) (⟨61, mkS [(0, .x (.one (.p (.val (.bool negative))))), (5, .x (.one (.ptr 105 0))), (6, .x (.one (.ptr 106 0))), (8, .x (.one (.ptr 108 0))), (9, .x (.one (.ptr 109 0)))], mkH [(105, .var [.p (.val (.int .u64 den.Hi)), .p (.val (.int .u64 den.Lo))]), (106, .var [.p (pi (0 : Int)), .p (pi (0 : Int))]), (108, .var [.p (.val (.int .u64 y.Hi)), .p (.val (.int .u64 y.Lo))]), (109, .var [.p (.val (.int .u64 y1.Hi)), .p (.val (.int .u64 y1.Lo))])]⟩) ?_
  replace H0 := bind_some H0
  obtain ⟨⟨y3, y4⟩, h_2, H0⟩ := H0
  try dsimp only at H0
  refine lok_rt (Env.of E0 [⟨some 26, 47, [.agg [.p (.val (.int .u64 den.Hi)), .p (.val (.int .u64 den.Lo))], .agg [.p (.val (.int .u64 y.Hi)), .p (.val (.int .u64 y.Lo))]], [], [.agg [.p (.val (.int .u64 y3.Hi)), .p (.val (.int .u64 y3.Lo))], .agg [.p (.val (.int .u64 y4.Hi)), .p (.val (.int .u64 y4.Lo))]], [], True, fun _ => ok_ref01_Divide den y (y3, y4) h_2, []⟩]) (⟨61, mkS [(0, .x (.one (.p (.val (.bool negative))))), (6, .x (.one (.ptr 106 0))), (9, .x (.one (.ptr 109 0))), (11, .x (.one (.ptr 111 0)))], mkH [(106, .var [.p (pi (0 : Int)), .p (pi (0 : Int))]), (109, .var [.p (.val (.int .u64 y1.Hi)), .p (.val (.int .u64 y1.Lo))]), (111, .var [.p (.val (.int .u64 y3.Hi)), .p (.val (.int .u64 y3.Lo))])]⟩) ?_
  refine lok_seq ?_
  refine lok_rt E0 (⟨61, mkS [(0, .x (.one (.p (.val (.bool negative))))), (6, .x (.one (.ptr 106 0))), (9, .x (.one (.ptr 109 0))), (11, .x (.one (.ptr 111 0))), (46, .x (.one (.p (.val (.bool ((((decide ((0 : Int) < y1.Hi)) || (decide ((0 : Int) < y3.Hi))) || (decide ((1152921504606846976 : Int) < y1.Lo))) || (decide ((1152921504606846976 : Int) < y3.Lo))))))))], mkH [(106, .var [.p (pi (0 : Int)), .p (pi (0 : Int))]), (109, .var [.p (.val (.int .u64 y1.Hi)), .p (.val (.int .u64 y1.Lo))]), (111, .var [.p (.val (.int .u64 y3.Hi)), .p (.val (.int .u64 y3.Lo))])]⟩) ?_
  refine lok_c ((((decide ((0 : Int) < y1.Hi)) || (decide ((0 : Int) < y3.Hi))) || (decide ((1152921504606846976 : Int) < y1.Lo))) || (decide ((1152921504606846976 : Int) < y3.Lo))) ?_ ?_
  · intro b_4
    replace H0 := cpos H0 b_4
    refine lok_rt E0 (⟨61, mkS [(6, .x (.one (.ptr 106 0))), (7, .x (.one (.p (pi (6 : Int)))))], mkH [(106, .var [.p (pi (0 : Int)), .p (pi (0 : Int))])]⟩) ?_
    refine lok_ret ?_
    obtain rfl := Option.some.inj H0
    try simp only [thenL, blockL]
    exact fin_au _ (.inr rfl) [] (⟨61, mkS [(6, .x (.one (.ptr 106 0))), (7, .x (.one (.p (pi (6 : Int)))))], mkH [(106, .var [.p (pi (0 : Int)), .p (pi (0 : Int))])]⟩) rfl rfl imp_au
  · intro b_4
    replace H0 := cneg H0 b_4
    refine lok_skip ?_
    try simp only [thenL, blockL, ↓reduceIte, reduceCtorEq]
    refine lok_rt E0 (⟨61, mkS [(0, .x (.one (.p (.val (.bool negative))))), (6, .x (.one (.ptr 106 0))), (13, .x (.one (.ptr 113 0)))], mkH [(106, .var [.p (pi (0 : Int)), .p (pi (0 : Int))]), (113, .var [.p (pi (IntKind.i64.wrap y1.Lo)), .p (pi (IntKind.i64.wrap y3.Lo))])]⟩) ?_
    refine lok_join (fun x_ : Int => ref01_Reduce_j1 y3 x_ = some r_) (fun x_ => ⟨61, mkS [(6, .x (.one (.ptr 106 0))), (13, .x (.one (.ptr 113 0)))], mkH [(106, .var [.p (pi (0 : Int)), .p (pi (0 : Int))]), (113, .var [.p (pi x_), .p (pi (IntKind.i64.wrap y3.Lo))])]⟩) ?hyref01_Reduce_j1 ?hxref01_Reduce_j1
    case hyref01_Reduce_j1 =>
      rintro out H0
      try dsimp only at H0 ⊢
      unfold ref01_Reduce_j1 at H0
      refine lok_rt E0 (⟨61, mkS [(6, .x (.one (.ptr 106 0))), (7, .x (.one (.p (pi (0 : Int)))))], mkH [(106, .var [.p (pi out), .p (pi (IntKind.i64.wrap y3.Lo))])]⟩) ?_
      refine lok_ret ?_
      obtain rfl := Option.some.inj H0
      try simp only [thenL, blockL]
      exact fin_au _ (.inr rfl) [] (⟨61, mkS [(6, .x (.one (.ptr 106 0))), (7, .x (.one (.p (pi (0 : Int)))))], mkH [(106, .var [.p (pi out), .p (pi (IntKind.i64.wrap y3.Lo))])]⟩) rfl rfl imp_au
    case hxref01_Reduce_j1 =>
      refine lok_rt E0 (⟨61, mkS [(6, .x (.one (.ptr 106 0))), (13, .x (.one (.ptr 113 0))), (55, .x (.one (.p (.val (.bool negative)))))], mkH [(106, .var [.p (pi (0 : Int)), .p (pi (0 : Int))]), (113, .var [.p (pi (IntKind.i64.wrap y1.Lo)), .p (pi (IntKind.i64.wrap y3.Lo))])]⟩) ?_
      refine lok_c negative ?_ ?_
      · intro b_3
        replace H0 := cpos H0 b_3
        refine lok_rl E0 (⟨61, mkS [(6, .x (.one (.ptr 106 0))), (13, .x (.one (.ptr 113 0)))], mkH [(106, .var [.p (pi (0 : Int)), .p (pi (0 : Int))]), (113, .var [.p (pi (IntKind.i64.wrap (0 - (IntKind.i64.wrap y1.Lo)))), .p (pi (IntKind.i64.wrap y3.Lo))])]⟩) ?_
        try simp only [thenL, blockL, ↓reduceIte, reduceCtorEq]
        exact ⟨(IntKind.i64.wrap (0 - (IntKind.i64.wrap y1.Lo))), H0, imp_au⟩
      · intro b_3
        replace H0 := cneg H0 b_3
        refine lok_skip ?_
        try simp only [thenL, blockL, ↓reduceIte, reduceCtorEq]
        exact ⟨(IntKind.i64.wrap y1.Lo), H0, imp_au⟩
theorem ok_ref01_Size (n : Int) (r_ : Int) (H0 : ref01_Size n = some r_) : CallOK Try.prog 34 [.one (.p (pi n))] [] [.one (.p (.val (.int .u64 r_)))] [] := by
  refine callOK (n := 12) (rs := [.tmp 2]) (nb := 0) (V := []) Try.func34 rfl (by kernel_rfl) rfl rfl rfl rfl (Nat.le_of_ble_eq_true rfl) (by decide) ?_
  unfold ref01_Size at H0
  refine lok_rt E0 (⟨12, mkS [(0, .x (.one (.p (pi n))))], mkH []⟩) ?_
  refine lok_seq ?_
  refine lok_rt E0 (⟨12, mkS [(0, .x (.one (.p (pi n)))), (4, .x (.one (.p (.val (.bool (decide (n < (0 : Int))))))))], mkH []⟩) ?_
  refine lok_c (decide (n < (0 : Int))) ?_ ?_
  · intro b_1
    replace H0 := cpos H0 b_1
    replace H0 := bindV_some H0
    obtain ⟨v, a_0, H0⟩ := H0
    refine lok_rtg E0 a_0 (⟨12, mkS [(2, .x (.one (.p (.val (.int .u64 v)))))], mkH []⟩) ?_
    refine lok_ret ?_
    obtain rfl := Option.some.inj H0
    try simp only [thenL, blockL]
    exact fin_au _ (.inr rfl) [] (⟨12, mkS [(2, .x (.one (.p (.val (.int .u64 v)))))], mkH []⟩) rfl rfl imp_au
  · intro b_1
    replace H0 := cneg H0 b_1
    refine lok_skip ?_
    try simp only [thenL, blockL, ↓reduceIte, reduceCtorEq]
    refine lok_rt E0 (⟨12, mkS [(2, .x (.one (.p (.val (.int .u64 (IntKind.u64.wrap n))))))], mkH []⟩) ?_
    refine lok_ret ?_
    obtain rfl := Option.some.inj H0
    try simp only [thenL, blockL]
    exact fin_au _ (.inr rfl) [] (⟨12, mkS [(2, .x (.one (.p (.val (.int .u64 (IntKind.u64.wrap n))))))], mkH []⟩) rfl rfl imp_au
theorem ok_ref01_New (num : Int) (den : Int) (r_ : api_Ratio × Int) (H0 : ref01_New num den = some r_) : CallOK Try.prog 18 [.one (.p (pi num)), .one (.p (pi den))] [] [.agg [.p (pi r_.1.Num), .p (pi r_.1.Den)], .one (.p (pi r_.2))] [] := by
  refine callOK (n := 23) (rs := [.cell 4 40, .tmp 5]) (nb := 0) (V := []) Try.func18 rfl (by kernel_rfl) rfl rfl rfl rfl (Nat.le_of_ble_eq_true rfl) (by decide) ?_
  unfold ref01_New at H0
  refine lok_rt E0 (⟨23, mkS [(0, .x (.one (.p (pi num)))), (1, .x (.one (.p (pi den)))), (4, .x (.one (.ptr 104 0)))], mkH [(104, .var [.p (pi (0 : Int)), .p (pi (0 : Int))])]⟩) ?_
  refine lok_seq ?_
  refine lok_rt E0 (⟨23, mkS [(0, .x (.one (.p (pi num)))), (1, .x (.one (.p (pi den)))), (4, .x (.one (.ptr 104 0))), (7, .x (.one (.p (.val (.bool (den == (0 : Int)))))))], mkH [(104, .var [.p (pi (0 : Int)), .p (pi (0 : Int))])]⟩) ?_
  refine lok_c (den == (0 : Int)) ?_ ?_
  · intro b_3
    replace H0 := cpos H0 b_3
    refine lok_rt E0 (⟨23, mkS [(4, .x (.one (.ptr 104 0))), (5, .x (.one (.p (pi (2 : Int)))))], mkH [(104, .var [.p (pi (0 : Int)), .p (pi (0 : Int))])]⟩) ?_
    refine lok_ret ?_
    obtain rfl := Option.some.inj H0
    try simp only [thenL, blockL]
    exact fin_au _ (.inr rfl) [] (⟨23, mkS [(4, .x (.one (.ptr 104 0))), (5, .x (.one (.p (pi (2 : Int)))))], mkH [(104, .var [.p (pi (0 : Int)), .p (pi (0 : Int))])]⟩) rfl rfl imp_au
  · intro b_3
    replace H0 := cneg H0 b_3
    refine lok_skip ?_
    try simp only [thenL, blockL, ↓reduceIte, reduceCtorEq]
    replace H0 := bind_some H0
    obtain ⟨y, h_0, H0⟩ := H0
    replace H0 := bind_some H0
    obtain ⟨y1, h_1, H0⟩ := H0
    replace H0 := bind_some H0
    obtain ⟨⟨y2, y3⟩, h_2, H0⟩ := H0
    try dsimp only at H0
    refine lok_rt (Env.of E0 [⟨some 15, 34, [.one (.p (pi num))], [], [.one (.p (.val (.int .u64 y)))], [], True, fun _ => ok_ref01_Size num y h_0, []⟩,
      ⟨some 18, 34, [.one (.p (pi den))], [], [.one (.p (.val (.int .u64 y1)))], [], True, fun _ => ok_ref01_Size den y1 h_1, []⟩,
      ⟨some 20, 33, [.one (.p (.val (.bool (!((decide (num < (0 : Int))) == (decide (den < (0 : Int)))))))), .agg [.p (.val (.int .u64 (0 : Int))), .p (.val (.int .u64 y))], .agg [.p (.val (.int .u64 (0 : Int))), .p (.val (.int .u64 y1))]], [], [.agg [.p (pi y2.Num), .p (pi y2.Den)], .one (.p (pi y3))], [], True, fun _ => ok_ref01_Reduce (!((decide (num < (0 : Int))) == (decide (den < (0 : Int))))) (ref01_Wide.mk (0 : Int) y) (ref01_Wide.mk (0 : Int) y1) (y2, y3) h_2, []⟩]) (⟨23, mkS [(4, .x (.one (.ptr 104 0))), (5, .x (.one (.p (pi y3))))], mkH [(104, .var [.p (pi y2.Num), .p (pi y2.Den)])]⟩) ?_
    refine lok_ret ?_
    obtain rfl := Option.some.inj H0
    try simp only [thenL, blockL]
    exact fin_au _ (.inr rfl) [] (⟨23, mkS [(4, .x (.one (.ptr 104 0))), (5, .x (.one (.p (pi y3))))], mkH [(104, .var [.p (pi y2.Num), .p (pi y2.Den)])]⟩) rfl rfl imp_au
theorem ok_boundary_nearest (d : api_Distribution) (share : api_Ratio) (r_ : Int) (H0 : boundary_nearest d share = some r_) : CallOK Try.prog 38 [.agg [.p (.sl 1 (List.map encI d.Counts))], .agg [.p (pi share.Num), .p (pi share.Den)]] [] [.one (.p (pi r_))] [] := by
  refine callOK (n := 42) (rs := [.tmp 4]) (nb := 0) (V := []) Try.func38 rfl (by kernel_rfl) rfl rfl rfl rfl (Nat.le_of_ble_eq_true rfl) (by decide) ?_
  unfold boundary_nearest at H0
  refine lok_rt E0 (⟨42, mkS [(2, .x (.one (.ptr 102 0))), (3, .x (.one (.ptr 103 0)))], mkH [(102, .var [.p (.sl 1 (List.map encI d.Counts))]), (103, .var [.p (pi share.Num), .p (pi share.Den)])]⟩) ?_
  replace H0 := bind_some H0
  obtain ⟨y, h_0, H0⟩ := H0
  refine lok_rt (Env.of E0 [⟨some 10, 36, [.agg [.p (.sl 1 (List.map encI d.Counts))]], [], [.one (.p (.sl 1 (List.map encI y)))], [], True, fun _ => ok_boundary_reaching d y h_0, []⟩]) (⟨42, mkS [(3, .x (.one (.ptr 103 0))), (5, .x (.one (.p (.sl 1 (List.map encI y)))))], mkH [(103, .var [.p (pi share.Num), .p (pi share.Den)])]⟩) ?_
  refine lok_rt E0 (⟨42, mkS [(3, .x (.one (.ptr 103 0))), (5, .x (.one (.p (.sl 1 (List.map encI y))))), (6, .x (.one (.p (pi (0 : Int)))))], mkH [(103, .var [.p (pi share.Num), .p (pi share.Den)])]⟩) ?_
  refine lok_join (fun x_ : Int => boundary_nearest_j1 x_ = some r_) (fun x_ => ⟨42, mkS [(6, .x (.one (.p (pi x_))))], mkH []⟩) ?hyboundary_nearest_j1 ?hxboundary_nearest_j1
  case hyboundary_nearest_j1 =>
    rintro best H0
    try dsimp only at H0 ⊢
    unfold boundary_nearest_j1 at H0
    refine lok_rt E0 (⟨42, mkS [(4, .x (.one (.p (pi best))))], mkH []⟩) ?_
    refine lok_ret ?_
    obtain rfl := Option.some.inj H0
    try simp only [thenL, blockL]
    exact fin_au _ (.inr rfl) [] (⟨42, mkS [(4, .x (.one (.p (pi best))))], mkH []⟩) rfl rfl imp_au
  case hxboundary_nearest_j1 =>
    refine lok_rt E0 (⟨42, mkS [(3, .x (.one (.ptr 103 0))), (5, .x (.one (.p (.sl 1 (List.map encI y))))), (6, .x (.one (.p (pi (0 : Int))))), (11, .x (.one (.p (.sl 1 (List.map encI y))))), (12, .x (.one (.p (pi (y.length : Int))))), (13, .x (.one (.p (pi (0 : Int)))))], mkH [(103, .var [.p (pi share.Num), .p (pi share.Den)])]⟩) ?_
    refine lok_block ?_
    replace H0 := bind_some H0
    obtain ⟨v_1, hv_1, H0⟩ := H0
    refine lok_iter (fun x_ => ⟨42, mkS [(3, .x (.one (.ptr 103 0))), (5, .x (.one (.p (.sl 1 (List.map encI y))))), (6, .x (.one (.p (pi x_.1)))), (11, .x (.one (.p (.sl 1 (List.map encI y))))), (12, .x (.one (.p (pi (y.length : Int))))), (13, .x (.one (.p (pi x_.2))))], mkH [(103, .var [.p (pi share.Num), .p (pi share.Den)])]⟩) hv_1 imp_au ?_
    · rintro ⟨best1, v⟩ o_1 H1 k_1
      unfold boundary_nearest_l3 at H1
      try dsimp only at H1 ⊢
      refine lok_rt E0 (⟨42, mkS [(3, .x (.one (.ptr 103 0))), (5, .x (.one (.p (.sl 1 (List.map encI y))))), (6, .x (.one (.p (pi best1)))), (11, .x (.one (.p (.sl 1 (List.map encI y))))), (12, .x (.one (.p (pi (y.length : Int))))), (13, .x (.one (.p (pi v)))), (14, .x (.one (.p (.val (.bool (decide (v < (y.length : Int))))))))], mkH [(103, .var [.p (pi share.Num), .p (pi share.Den)])]⟩) ?_
      refine lok_seq ?_
      refine lok_c (decide (v < (y.length : Int))) ?_ ?_
      · intro b_8
        replace H1 := cpos H1 b_8
        refine lok_skip ?_
        try simp only [thenL, blockL, ↓reduceIte, reduceCtorEq]
        refine lok_join (fun x_ : Int => boundary_nearest_j2 v x_ = some o_1) (fun x_ => ⟨42, mkS [(3, .x (.one (.ptr 103 0))), (5, .x (.one (.p (.sl 1 (List.map encI y))))), (6, .x (.one (.p (pi x_)))), (11, .x (.one (.p (.sl 1 (List.map encI y))))), (12, .x (.one (.p (pi (y.length : Int))))), (13, .x (.one (.p (pi v))))], mkH [(103, .var [.p (pi share.Num), .p (pi share.Den)])]⟩) ?hyboundary_nearest_j2 ?hxboundary_nearest_j2
        case hyboundary_nearest_j2 =>
          rintro best3 H1
          try dsimp only at H1 ⊢
          unfold boundary_nearest_j2 at H1
          refine lok_rl E0 (⟨42, mkS [(3, .x (.one (.ptr 103 0))), (5, .x (.one (.p (.sl 1 (List.map encI y))))), (6, .x (.one (.p (pi best3)))), (11, .x (.one (.p (.sl 1 (List.map encI y))))), (12, .x (.one (.p (pi (y.length : Int))))), (13, .x (.one (.p (pi (IntKind.i64.wrap (v + (1 : Int)))))))], mkH [(103, .var [.p (pi share.Num), .p (pi share.Den)])]⟩) ?_
          try simp only [thenL, blockL, ↓reduceIte, reduceCtorEq]
          exact ⟨(best3, (IntKind.i64.wrap (v + (1 : Int)))), (Option.some.inj H1).symm, imp_au⟩
        case hxboundary_nearest_j2 =>
          refine lok_block ?_
          replace H1 := req_some H1
          obtain ⟨q_7, H1⟩ := H1
          refine lok_rt E0 (⟨42, mkS [(3, .x (.one (.ptr 103 0))), (5, .x (.one (.p (.sl 1 (List.map encI y))))), (6, .x (.one (.p (pi best1)))), (7, .x (.one (.p (pi v)))), (8, .x (.one (.p (pi (ix y v))))), (11, .x (.one (.p (.sl 1 (List.map encI y))))), (12, .x (.one (.p (pi (y.length : Int))))), (13, .x (.one (.p (pi v))))], mkH [(103, .var [.p (pi share.Num), .p (pi share.Den)])]⟩) ?_
          replace H1 := req_some H1
          obtain ⟨⟨q_3, q_4, q_5, q_6⟩, H1⟩ := H1
          refine lok_dt (Env.of E0 [⟨some 36, 37, [.one (.p (pi (IntKind.i64.wrap ((ix y v) + (ix y best1))))), .one (.p (pi (IntKind.i64.wrap ((2 : Int) * (ix y (0 : Int)))))), .agg [.p (pi share.Num), .p (pi share.Den)]], [], [.one (.p (pi ((boundary_compareShare (IntKind.i64.wrap ((ix y v) + (ix y best1))) (IntKind.i64.wrap ((2 : Int) * (ix y (0 : Int)))) share).getD default)))], [], (boundary_compareShare (IntKind.i64.wrap ((ix y v) + (ix y best1))) (IntKind.i64.wrap ((2 : Int) * (ix y (0 : Int)))) share).isSome = true, fun h => ok_boundary_compareShare (IntKind.i64.wrap ((ix y v) + (ix y best1))) (IntKind.i64.wrap ((2 : Int) * (ix y (0 : Int)))) share _ (isSome_get h), []⟩]) 18 (⟨42, mkS [(3, .x (.one (.ptr 103 0))), (5, .x (.one (.p (.sl 1 (List.map encI y))))), (6, .x (.one (.p (pi best1)))), (7, .x (.one (.p (pi v)))), (11, .x (.one (.p (.sl 1 (List.map encI y))))), (12, .x (.one (.p (pi (y.length : Int))))), (13, .x (.one (.p (pi v)))), (38, .x (.one (.p (.val (.bool ((decide ((ix y v) < (ix y best1))) && (decide ((0 : Int) < ((boundary_compareShare (IntKind.i64.wrap ((ix y v) + (ix y best1))) (IntKind.i64.wrap ((2 : Int) * (ix y (0 : Int)))) share).getD default)))))))))], mkH [(103, .var [.p (pi share.Num), .p (pi share.Den)])]⟩) (by kernel_rfl) (by kernel_rfl) ?_
          refine lok_c ((decide ((ix y v) < (ix y best1))) && (decide ((0 : Int) < ((boundary_compareShare (IntKind.i64.wrap ((ix y v) + (ix y best1))) (IntKind.i64.wrap ((2 : Int) * (ix y (0 : Int)))) share).getD default)))) ?_ ?_
          · intro b_2
            replace H1 := cpos H1 b_2
            refine lok_rl E0 (⟨42, mkS [(3, .x (.one (.ptr 103 0))), (5, .x (.one (.p (.sl 1 (List.map encI y))))), (6, .x (.one (.p (pi v)))), (11, .x (.one (.p (.sl 1 (List.map encI y))))), (12, .x (.one (.p (pi (y.length : Int))))), (13, .x (.one (.p (pi v))))], mkH [(103, .var [.p (pi share.Num), .p (pi share.Den)])]⟩) ?_
            try simp only [thenL, blockL, ↓reduceIte, reduceCtorEq]
            exact ⟨v, H1, imp_au⟩
          · intro b_2
            replace H1 := cneg H1 b_2
            refine lok_skip ?_
            try simp only [thenL, blockL, ↓reduceIte, reduceCtorEq]
            exact ⟨best1, H1, imp_au⟩
      · intro b_8
        replace H1 := cneg H1 b_8
        refine lok_exit ?_
        try simp only [thenL, blockL, ↓reduceIte, reduceCtorEq]
        have e_1 := k_1 _ (Option.some.inj H1).symm
        subst e_1
        try dsimp only at H0
        try simp only [thenL, blockL, ↓reduceIte, reduceCtorEq]
        exact ⟨best1, H0, imp_au⟩
theorem ok_boundary_Nearest (d : api_Distribution) (share : api_Ratio) (r_ : Int × Int) (H0 : boundary_Nearest d share = some r_) : CallOK Try.prog 20 [.agg [.p (.sl 1 (List.map encI d.Counts))], .agg [.p (pi share.Num), .p (pi share.Den)]] [] [.one (.p (pi r_.1)), .one (.p (pi r_.2))] [] := by
  refine callOK (n := 16) (rs := [.tmp 4, .tmp 5]) (nb := 0) (V := []) Try.func20 rfl (by kernel_rfl) rfl rfl rfl rfl (Nat.le_of_ble_eq_true rfl) (by decide) ?_
  unfold boundary_Nearest at H0
  refine lok_rt E0 (⟨16, mkS [(2, .x (.one (.ptr 102 0))), (3, .x (.one (.ptr 103 0)))], mkH [(102, .var [.p (.sl 1 (List.map encI d.Counts))]), (103, .var [.p (pi share.Num), .p (pi share.Den)])]⟩) ?_
  refine lok_seq ?_
  replace H0 := bind_some H0
  obtain ⟨y, h_0, H0⟩ := H0
  refine lok_rt (Env.of E0 [⟨some 9, 35, [.agg [.p (.sl 1 (List.map encI d.Counts))], .agg [.p (pi share.Num), .p (pi share.Den)]], [], [.one (.p (pi y))], [], True, fun _ => ok_boundary_check d share y h_0, []⟩]) (⟨16, mkS [(2, .x (.one (.ptr 102 0))), (3, .x (.one (.ptr 103 0))), (6, .x (.one (.p (pi y))))], mkH [(102, .var [.p (.sl 1 (List.map encI d.Counts))]), (103, .var [.p (pi share.Num), .p (pi share.Den)])]⟩) ?_
  refine lok_rt E0 (⟨16, mkS [(2, .x (.one (.ptr 102 0))), (3, .x (.one (.ptr 103 0))), (6, .x (.one (.p (pi y)))), (11, .x (.one (.p (.val (.bool (y != (0 : Int)))))))], mkH [(102, .var [.p (.sl 1 (List.map encI d.Counts))]), (103, .var [.p (pi share.Num), .p (pi share.Den)])]⟩) ?_
  refine lok_c (y != (0 : Int)) ?_ ?_
  · intro b_2
    replace H0 := cpos H0 b_2
    refine lok_rt E0 (⟨16, mkS [(4, .x (.one (.p (pi (0 : Int))))), (5, .x (.one (.p (pi y))))], mkH []⟩) ?_
    refine lok_ret ?_
    obtain rfl := Option.some.inj H0
    try simp only [thenL, blockL]
    exact fin_au _ (.inr rfl) [] (⟨16, mkS [(4, .x (.one (.p (pi (0 : Int))))), (5, .x (.one (.p (pi y))))], mkH []⟩) rfl rfl imp_au
  · intro b_2
    replace H0 := cneg H0 b_2
    refine lok_skip ?_
    try simp only [thenL, blockL, ↓reduceIte, reduceCtorEq]
    replace H0 := bind_some H0
    obtain ⟨y1, h_1, H0⟩ := H0
    refine lok_rt (Env.of E0 [⟨some 15, 38, [.agg [.p (.sl 1 (List.map encI d.Counts))], .agg [.p (pi share.Num), .p (pi share.Den)]], [], [.one (.p (pi y1))], [], True, fun _ => ok_boundary_nearest d share y1 h_1, []⟩]) (⟨16, mkS [(4, .x (.one (.p (pi y1)))), (5, .x (.one (.p (pi (0 : Int)))))], mkH []⟩) ?_
    refine lok_ret ?_
    obtain rfl := Option.some.inj H0
    try simp only [thenL, blockL]
    exact fin_au _ (.inr rfl) [] (⟨16, mkS [(4, .x (.one (.p (pi y1)))), (5, .x (.one (.p (pi (0 : Int)))))], mkH []⟩) rfl rfl imp_au
set_option maxHeartbeats 4000000 in
theorem ok_law35_BoundaryShares (t : List Int) (n : Int) (r_ : Bool) (H0 : law35_BoundaryShares t n = some r_) : CallOK Try.prog 5 [.one (.p (.sl 1 (List.map encI t))), .one (.p (.val (.int .u8 n)))] [] [.one (.p (.val (.bool r_)))] [] := by
  refine callOK (n := 124) (rs := [.tmp 4]) (nb := 0) (V := []) Try.func5 rfl (by kernel_rfl) rfl rfl rfl rfl (Nat.le_of_ble_eq_true rfl) (by decide) ?_
  unfold law35_BoundaryShares at H0
  refine lok_rt E0 (⟨124, mkS [(0, .x (.one (.p (.sl 1 (List.map encI t))))), (1, .x (.one (.p (.val (.int .u8 n)))))], mkH []⟩) ?_
  refine lok_seq ?_
  replace H0 := bind_some H0
  obtain ⟨y, h_0, H0⟩ := H0
  refine lok_rt (Env.of E0 [⟨some 18, 8, [.one (.p (.sl 1 (List.map encI t)))], [], [.one (.p (.val (.bool y)))], [], True, fun _ => ok_mark_Light t y h_0, []⟩]) (⟨124, mkS [(0, .x (.one (.p (.sl 1 (List.map encI t))))), (1, .x (.one (.p (.val (.int .u8 n))))), (19, .x (.one (.p (.val (.bool (!y))))))], mkH []⟩) ?_
  refine lok_c (!y) ?_ ?_
  · intro b_20
    replace H0 := cpos H0 b_20
    replace H0 := bind_some H0
    obtain ⟨y1, h_1, H0⟩ := H0
    refine lok_rt (Env.of E0 [⟨some 20, 9, [], [], [.one (.p (.val (.bool y1)))], [], True, fun _ => ok_law35_sane y1 h_1, []⟩]) (⟨124, mkS [(4, .x (.one (.p (.val (.bool y1)))))], mkH []⟩) ?_
    refine lok_ret ?_
    obtain rfl := Option.some.inj H0
    try simp only [thenL, blockL]
    exact fin_au _ (.inr rfl) [] (⟨124, mkS [(4, .x (.one (.p (.val (.bool y1)))))], mkH []⟩) rfl rfl imp_au
  · intro b_20
    replace H0 := cneg H0 b_20
    refine lok_skip ?_
    try simp only [thenL, blockL, ↓reduceIte, reduceCtorEq]
    replace H0 := bind_some H0
    obtain ⟨y2, h_2, H0⟩ := H0
    replace H0 := bind_some H0
    obtain ⟨⟨y3, y4⟩, h_3, H0⟩ := H0
    try dsimp only at H0
    refine lok_rt (Env.of E0 [⟨some 22, 10, [.one (.p (.sl 1 (List.map encI t)))], [], [.one (.ptr 0 0)], [some (.var [.p (.sl 1 (List.map encI y2.L)), .p (pi y2.At)])], True, fun _ => ok_mark_Roll t y2 h_2, []⟩,
      ⟨some 23, 11, [.one (.ptr 0 0), .one (.p (pi (9 : Int))), .one (.p (.val (.bool false)))], [.var [.p (.sl 1 (List.map encI y2.L)), .p (pi y2.At)]], [.agg [.p (.sl 1 (List.map encI y3.Counts))]], [some (.var [.p (.sl 1 (List.map encI y4.L)), .p (pi y4.At)])], True, fun _ => ok_mark_Dice_Distribution y2 (9 : Int) false (y3, y4) h_3, []⟩]) (⟨124, mkS [(1, .x (.one (.p (.val (.int .u8 n))))), (5, .x (.one (.ptr 105 0)))], mkH [(105, .var [.p (.sl 1 (List.map encI y3.Counts))])]⟩) ?_
    replace H0 := bind_some H0
    obtain ⟨y5, h_4, H0⟩ := H0
    refine lok_rt (Env.of E0 [⟨some 25, 16, [.agg [.p (.sl 1 (List.map encI y3.Counts))]], [], [.one (.p (pi y5))], [], True, fun _ => ok_ref32_Count y3 y5 h_4, []⟩]) (⟨124, mkS [(1, .x (.one (.p (.val (.int .u8 n))))), (5, .x (.one (.ptr 105 0))), (6, .x (.one (.ptr 106 0)))], mkH [(105, .var [.p (.sl 1 (List.map encI y3.Counts))]), (106, .var [.p (pi y5)])]⟩) ?_
    refine lok_rt E0 (⟨124, mkS [(5, .x (.one (.ptr 105 0))), (6, .x (.one (.ptr 106 0))), (7, .x (.one (.ptr 107 0)))], mkH [(105, .var [.p (.sl 1 (List.map encI y3.Counts))]), (106, .var [.p (pi y5)]), (107, .var [.p (pi (IntKind.i64.wrap (Int.tmod n (13 : Int))))])]⟩) ?_
    replace H0 := bind_some H0
    obtain ⟨⟨y6, y7⟩, h_5, H0⟩ := H0
    try dsimp only at H0
    refine lok_rt (Env.of E0 [⟨some 31, 18, [.one (.p (pi (IntKind.i64.wrap (Int.tmod n (13 : Int))))), .one (.p (pi (12 : Int)))], [], [.agg [.p (pi y6.Num), .p (pi y6.Den)], .one (.p (pi y7))], [], True, fun _ => ok_ref01_New (IntKind.i64.wrap (Int.tmod n (13 : Int))) (12 : Int) (y6, y7) h_5, []⟩]) (⟨124, mkS [(5, .x (.one (.ptr 105 0))), (6, .x (.one (.ptr 106 0))), (7, .x (.one (.ptr 107 0))), (8, .x (.one (.ptr 108 0))), (9, .x (.one (.p (pi y7))))], mkH [(105, .var [.p (.sl 1 (List.map encI y3.Counts))]), (106, .var [.p (pi y5)]), (107, .var [.p (pi (IntKind.i64.wrap (Int.tmod n (13 : Int))))]), (108, .var [.p (pi y6.Num), .p (pi y6.Den)])]⟩) ?_
    replace H0 := bind_some H0
    obtain ⟨⟨y8, y9⟩, h_6, H0⟩ := H0
    try dsimp only at H0
    refine lok_rt (Env.of E0 [⟨some 37, 19, [.agg [.p (.sl 1 (List.map encI y3.Counts))], .agg [.p (pi y6.Num), .p (pi y6.Den)]], [], [.one (.p (pi y8)), .one (.p (pi y9))], [], True, fun _ => ok_boundary_Share y3 y6 (y8, y9) h_6, []⟩]) (⟨124, mkS [(5, .x (.one (.ptr 105 0))), (6, .x (.one (.ptr 106 0))), (7, .x (.one (.ptr 107 0))), (8, .x (.one (.ptr 108 0))), (9, .x (.one (.p (pi y7)))), (10, .x (.one (.p (pi y8)))), (11, .x (.one (.p (pi y9))))], mkH [(105, .var [.p (.sl 1 (List.map encI y3.Counts))]), (106, .var [.p (pi y5)]), (107, .var [.p (pi (IntKind.i64.wrap (Int.tmod n (13 : Int))))]), (108, .var [.p (pi y6.Num), .p (pi y6.Den)])]⟩) ?_
    replace H0 := bind_some H0
    obtain ⟨⟨y10, y11⟩, h_7, H0⟩ := H0
    try dsimp only at H0
    refine lok_rt (Env.of E0 [⟨some 43, 20, [.agg [.p (.sl 1 (List.map encI y3.Counts))], .agg [.p (pi y6.Num), .p (pi y6.Den)]], [], [.one (.p (pi y10)), .one (.p (pi y11))], [], True, fun _ => ok_boundary_Nearest y3 y6 (y10, y11) h_7, []⟩]) (⟨124, mkS [(5, .x (.one (.ptr 105 0))), (6, .x (.one (.ptr 106 0))), (7, .x (.one (.ptr 107 0))), (9, .x (.one (.p (pi y7)))), (10, .x (.one (.p (pi y8)))), (11, .x (.one (.p (pi y9)))), (12, .x (.one (.p (pi y10)))), (13, .x (.one (.p (pi y11))))], mkH [(105, .var [.p (.sl 1 (List.map encI y3.Counts))]), (106, .var [.p (pi y5)]), (107, .var [.p (pi (IntKind.i64.wrap (Int.tmod n (13 : Int))))])]⟩) ?_
    refine lok_seq ?_
    refine lok_rt E0 (⟨124, mkS [(5, .x (.one (.ptr 105 0))), (6, .x (.one (.ptr 106 0))), (7, .x (.one (.ptr 107 0))), (10, .x (.one (.p (pi y8)))), (11, .x (.one (.p (pi y9)))), (12, .x (.one (.p (pi y10)))), (13, .x (.one (.p (pi y11)))), (47, .x (.one (.p (.val (.bool (y7 != (0 : Int)))))))], mkH [(105, .var [.p (.sl 1 (List.map encI y3.Counts))]), (106, .var [.p (pi y5)]), (107, .var [.p (pi (IntKind.i64.wrap (Int.tmod n (13 : Int))))])]⟩) ?_
    refine lok_c (y7 != (0 : Int)) ?_ ?_
    · intro b_19
      replace H0 := cpos H0 b_19
      refine lok_rt E0 (⟨124, mkS [(4, .x (.one (.p (.val (.bool false)))))], mkH []⟩) ?_
      refine lok_ret ?_
      obtain rfl := Option.some.inj H0
      try simp only [thenL, blockL]
      exact fin_au _ (.inr rfl) [] (⟨124, mkS [(4, .x (.one (.p (.val (.bool false)))))], mkH []⟩) rfl rfl imp_au
    · intro b_19
      replace H0 := cneg H0 b_19
      refine lok_skip ?_
      try simp only [thenL, blockL, ↓reduceIte, reduceCtorEq]
      refine lok_seq ?_
      refine lok_rt E0 (⟨124, mkS [(5, .x (.one (.ptr 105 0))), (6, .x (.one (.ptr 106 0))), (7, .x (.one (.ptr 107 0))), (10, .x (.one (.p (pi y8)))), (11, .x (.one (.p (pi y9)))), (12, .x (.one (.p (pi y10)))), (13, .x (.one (.p (pi y11)))), (49, .x (.one (.p (.val (.bool (y5 == (0 : Int)))))))], mkH [(105, .var [.p (.sl 1 (List.map encI y3.Counts))]), (106, .var [.p (pi y5)]), (107, .var [.p (pi (IntKind.i64.wrap (Int.tmod n (13 : Int))))])]⟩) ?_
      refine lok_c (y5 == (0 : Int)) ?_ ?_
      · intro b_18
        replace H0 := cpos H0 b_18
        replace H0 := req_some H0
        obtain ⟨q_8, H0⟩ := H0
        refine lok_rt (Env.of E0 [⟨some 57, 9, [], [], [.one (.p (.val (.bool ((law35_sane).getD default))))], [], (law35_sane).isSome = true, fun h => ok_law35_sane _ (isSome_get h), []⟩]) (⟨124, mkS [(4, .x (.one (.p (.val (.bool (((y9 == (10 : Int)) && (y11 == (10 : Int))) && ((law35_sane).getD default)))))))], mkH []⟩) ?_
        refine lok_ret ?_
        obtain rfl := Option.some.inj H0
        try simp only [thenL, blockL]
        exact fin_au _ (.inr rfl) [] (⟨124, mkS [(4, .x (.one (.p (.val (.bool (((y9 == (10 : Int)) && (y11 == (10 : Int))) && ((law35_sane).getD default)))))))], mkH []⟩) rfl rfl imp_au
      · intro b_18
        replace H0 := cneg H0 b_18
        refine lok_skip ?_
        try simp only [thenL, blockL, ↓reduceIte, reduceCtorEq]
        refine lok_rt E0 (⟨124, mkS [(5, .x (.one (.ptr 105 0))), (6, .x (.one (.ptr 106 0))), (7, .x (.one (.ptr 107 0))), (10, .x (.one (.p (pi y8)))), (11, .x (.one (.p (pi y9)))), (12, .x (.one (.p (pi y10)))), (13, .x (.one (.p (pi y11)))), (14, .x (.one (.ptr 114 0)))], mkH [(105, .var [.p (.sl 1 (List.map encI y3.Counts))]), (106, .var [.p (pi y5)]), (107, .var [.p (pi (IntKind.i64.wrap (Int.tmod n (13 : Int))))]), (114, .var [.fn 21 [106, 105]])]⟩) ?_
        refine lok_seq ?_
        rcases bcases (!((y9 != (0 : Int)) || (y11 != (0 : Int)))) with g_9_0 | g_9_0
        · replace H0 := cpos H0 g_9_0
          replace H0 := bind_some H0
          obtain ⟨y12, h_9, H0⟩ := H0
          rcases bcases ((!(((y9 != (0 : Int)) || (y11 != (0 : Int))) || (decide ((IntKind.i64.wrap (y12 * (12 : Int))) < (IntKind.i64.wrap ((IntKind.i64.wrap (Int.tmod n (13 : Int))) * y5)))))) && (decide (y8 < (y3.Counts.length : Int)))) with g_10_1 | g_10_1
          · replace H0 := cpos H0 g_10_1
            replace H0 := bind_some H0
            obtain ⟨y13, h_10, H0⟩ := H0
            refine lok_etg (Env.of E0 [⟨some 69, 21, [.one (.p (pi y8)), .one (.ptr 0 0), .one (.ptr 1 0)], [.var [.p (pi y5)], .var [.p (.sl 1 (List.map encI y3.Counts))]], [.one (.p (pi y12))], [some (.var [.p (pi y5)]), some (.var [.p (.sl 1 (List.map encI y3.Counts))])], True, fun _ => ok_law35_BoundaryShares_f1 y8 y5 y3 y12 h_9, []⟩,
      ⟨some 86, 21, [.one (.p (pi (IntKind.i64.wrap (y8 + (1 : Int))))), .one (.ptr 0 0), .one (.ptr 1 0)], [.var [.p (pi y5)], .var [.p (.sl 1 (List.map encI y3.Counts))]], [.one (.p (pi y13))], [some (.var [.p (pi y5)]), some (.var [.p (.sl 1 (List.map encI y3.Counts))])], True, fun _ => ok_law35_BoundaryShares_f1 (IntKind.i64.wrap (y8 + (1 : Int))) y5 y3 y13 h_10, []⟩]) 124 [⟨[(11, .x (.one (.p (pi y9))))], [], [(60, .x (.one (.p (pi y9))))], [], none⟩,
      ⟨[(60, .x (.one (.p (pi y9))))], [], [(61, .x (.one (.p (.val (.bool (y9 != (0 : Int)))))))], [], none⟩,
      ⟨[(61, .x (.one (.p (.val (.bool (y9 != (0 : Int)))))))], [], [(62, .x (.one (.p (.val (.bool (y9 != (0 : Int)))))))], [], none⟩,
      ⟨[(13, .x (.one (.p (pi y11)))), (62, .x (.one (.p (.val (.bool (y9 != (0 : Int)))))))], [], [(63, .wh (!(y9 != (0 : Int))) (.one (.p (pi y11))))], [], none⟩,
      ⟨[(62, .x (.one (.p (.val (.bool (y9 != (0 : Int))))))), (63, .wh (!(y9 != (0 : Int))) (.one (.p (pi y11))))], [], [(64, .wh (!(y9 != (0 : Int))) (.one (.p (.val (.bool (y11 != (0 : Int)))))))], [], none⟩,
      ⟨[(62, .x (.one (.p (.val (.bool (y9 != (0 : Int))))))), (64, .wh (!(y9 != (0 : Int))) (.one (.p (.val (.bool (y11 != (0 : Int)))))))], [], [(65, .x (.one (.p (.val (.bool ((y9 != (0 : Int)) || (y11 != (0 : Int))))))))], [], none⟩,
      ⟨[(65, .x (.one (.p (.val (.bool ((y9 != (0 : Int)) || (y11 != (0 : Int))))))))], [], [(66, .x (.one (.p (.val (.bool ((y9 != (0 : Int)) || (y11 != (0 : Int))))))))], [], none⟩,
      ⟨[(14, .x (.one (.ptr 114 0))), (66, .x (.one (.p (.val (.bool ((y9 != (0 : Int)) || (y11 != (0 : Int))))))))], [(114, some (.var [.fn 21 [106, 105]]))], [(67, .wh true (.one (.fn 21 [106, 105])))], [], none⟩,
      ⟨[(10, .x (.one (.p (pi y8)))), (66, .x (.one (.p (.val (.bool ((y9 != (0 : Int)) || (y11 != (0 : Int))))))))], [], [(68, .wh true (.one (.p (pi y8))))], [], none⟩,
      ⟨[(66, .x (.one (.p (.val (.bool ((y9 != (0 : Int)) || (y11 != (0 : Int)))))))), (67, .wh true (.one (.fn 21 [106, 105]))), (68, .wh true (.one (.p (pi y8))))], [(105, some (.var [.p (.sl 1 (List.map encI y3.Counts))])), (106, some (.var [.p (pi y5)]))], [(69, .x (.one (.p (pi y12))))], [], none⟩,
      ⟨[(66, .x (.one (.p (.val (.bool ((y9 != (0 : Int)) || (y11 != (0 : Int)))))))), (69, .x (.one (.p (pi y12))))], [], [(70, .wh true (.one (.p (pi (IntKind.i64.wrap (y12 * (12 : Int)))))))], [], none⟩,
      ⟨[(7, .x (.one (.ptr 107 0))), (66, .x (.one (.p (.val (.bool ((y9 != (0 : Int)) || (y11 != (0 : Int))))))))], [(107, some (.var [.p (pi (IntKind.i64.wrap (Int.tmod n (13 : Int))))]))], [(71, .wh true (.one (.p (pi (IntKind.i64.wrap (Int.tmod n (13 : Int)))))))], [], none⟩,
      ⟨[(6, .x (.one (.ptr 106 0))), (66, .x (.one (.p (.val (.bool ((y9 != (0 : Int)) || (y11 != (0 : Int))))))))], [(106, some (.var [.p (pi y5)]))], [(72, .wh true (.one (.p (pi y5))))], [], none⟩,
      ⟨[(66, .x (.one (.p (.val (.bool ((y9 != (0 : Int)) || (y11 != (0 : Int)))))))), (71, .wh true (.one (.p (pi (IntKind.i64.wrap (Int.tmod n (13 : Int))))))), (72, .wh true (.one (.p (pi y5))))], [], [(73, .wh true (.one (.p (pi (IntKind.i64.wrap ((IntKind.i64.wrap (Int.tmod n (13 : Int))) * y5))))))], [], none⟩,
      ⟨[(66, .x (.one (.p (.val (.bool ((y9 != (0 : Int)) || (y11 != (0 : Int)))))))), (70, .wh true (.one (.p (pi (IntKind.i64.wrap (y12 * (12 : Int))))))), (73, .wh true (.one (.p (pi (IntKind.i64.wrap ((IntKind.i64.wrap (Int.tmod n (13 : Int))) * y5))))))], [], [(74, .wh true (.one (.p (.val (.bool (decide ((IntKind.i64.wrap (y12 * (12 : Int))) < (IntKind.i64.wrap ((IntKind.i64.wrap (Int.tmod n (13 : Int))) * y5)))))))))], [], none⟩,
      ⟨[(66, .x (.one (.p (.val (.bool ((y9 != (0 : Int)) || (y11 != (0 : Int)))))))), (74, .wh true (.one (.p (.val (.bool (decide ((IntKind.i64.wrap (y12 * (12 : Int))) < (IntKind.i64.wrap ((IntKind.i64.wrap (Int.tmod n (13 : Int))) * y5)))))))))], [], [(75, .x (.one (.p (.val (.bool (((y9 != (0 : Int)) || (y11 != (0 : Int))) || (decide ((IntKind.i64.wrap (y12 * (12 : Int))) < (IntKind.i64.wrap ((IntKind.i64.wrap (Int.tmod n (13 : Int))) * y5))))))))))], [], none⟩,
      ⟨[(75, .x (.one (.p (.val (.bool (((y9 != (0 : Int)) || (y11 != (0 : Int))) || (decide ((IntKind.i64.wrap (y12 * (12 : Int))) < (IntKind.i64.wrap ((IntKind.i64.wrap (Int.tmod n (13 : Int))) * y5))))))))))], [], [(76, .x (.one (.p (.val (.bool (((y9 != (0 : Int)) || (y11 != (0 : Int))) || (decide ((IntKind.i64.wrap (y12 * (12 : Int))) < (IntKind.i64.wrap ((IntKind.i64.wrap (Int.tmod n (13 : Int))) * y5))))))))))], [], none⟩,
      ⟨[(10, .x (.one (.p (pi y8)))), (76, .x (.one (.p (.val (.bool (((y9 != (0 : Int)) || (y11 != (0 : Int))) || (decide ((IntKind.i64.wrap (y12 * (12 : Int))) < (IntKind.i64.wrap ((IntKind.i64.wrap (Int.tmod n (13 : Int))) * y5))))))))))], [], [(77, .wh (!(((y9 != (0 : Int)) || (y11 != (0 : Int))) || (decide ((IntKind.i64.wrap (y12 * (12 : Int))) < (IntKind.i64.wrap ((IntKind.i64.wrap (Int.tmod n (13 : Int))) * y5)))))) (.one (.p (pi y8))))], [], none⟩,
      ⟨[(5, .x (.one (.ptr 105 0))), (76, .x (.one (.p (.val (.bool (((y9 != (0 : Int)) || (y11 != (0 : Int))) || (decide ((IntKind.i64.wrap (y12 * (12 : Int))) < (IntKind.i64.wrap ((IntKind.i64.wrap (Int.tmod n (13 : Int))) * y5))))))))))], [], [(78, .wh (!(((y9 != (0 : Int)) || (y11 != (0 : Int))) || (decide ((IntKind.i64.wrap (y12 * (12 : Int))) < (IntKind.i64.wrap ((IntKind.i64.wrap (Int.tmod n (13 : Int))) * y5)))))) (.one (.ptr 105 0)))], [], none⟩,
      ⟨[(76, .x (.one (.p (.val (.bool (((y9 != (0 : Int)) || (y11 != (0 : Int))) || (decide ((IntKind.i64.wrap (y12 * (12 : Int))) < (IntKind.i64.wrap ((IntKind.i64.wrap (Int.tmod n (13 : Int))) * y5)))))))))), (78, .wh (!(((y9 != (0 : Int)) || (y11 != (0 : Int))) || (decide ((IntKind.i64.wrap (y12 * (12 : Int))) < (IntKind.i64.wrap ((IntKind.i64.wrap (Int.tmod n (13 : Int))) * y5)))))) (.one (.ptr 105 0)))], [(105, some (.var [.p (.sl 1 (List.map encI y3.Counts))]))], [(79, .wh (!(((y9 != (0 : Int)) || (y11 != (0 : Int))) || (decide ((IntKind.i64.wrap (y12 * (12 : Int))) < (IntKind.i64.wrap ((IntKind.i64.wrap (Int.tmod n (13 : Int))) * y5)))))) (.one (.p (.sl 1 (List.map encI y3.Counts)))))], [], none⟩,
      ⟨[(76, .x (.one (.p (.val (.bool (((y9 != (0 : Int)) || (y11 != (0 : Int))) || (decide ((IntKind.i64.wrap (y12 * (12 : Int))) < (IntKind.i64.wrap ((IntKind.i64.wrap (Int.tmod n (13 : Int))) * y5)))))))))), (79, .wh (!(((y9 != (0 : Int)) || (y11 != (0 : Int))) || (decide ((IntKind.i64.wrap (y12 * (12 : Int))) < (IntKind.i64.wrap ((IntKind.i64.wrap (Int.tmod n (13 : Int))) * y5)))))) (.one (.p (.sl 1 (List.map encI y3.Counts)))))], [], [(80, .wh (!(((y9 != (0 : Int)) || (y11 != (0 : Int))) || (decide ((IntKind.i64.wrap (y12 * (12 : Int))) < (IntKind.i64.wrap ((IntKind.i64.wrap (Int.tmod n (13 : Int))) * y5)))))) (.one (.p (pi (y3.Counts.length : Int)))))], [], none⟩,
      ⟨[(76, .x (.one (.p (.val (.bool (((y9 != (0 : Int)) || (y11 != (0 : Int))) || (decide ((IntKind.i64.wrap (y12 * (12 : Int))) < (IntKind.i64.wrap ((IntKind.i64.wrap (Int.tmod n (13 : Int))) * y5)))))))))), (77, .wh (!(((y9 != (0 : Int)) || (y11 != (0 : Int))) || (decide ((IntKind.i64.wrap (y12 * (12 : Int))) < (IntKind.i64.wrap ((IntKind.i64.wrap (Int.tmod n (13 : Int))) * y5)))))) (.one (.p (pi y8)))), (80, .wh (!(((y9 != (0 : Int)) || (y11 != (0 : Int))) || (decide ((IntKind.i64.wrap (y12 * (12 : Int))) < (IntKind.i64.wrap ((IntKind.i64.wrap (Int.tmod n (13 : Int))) * y5)))))) (.one (.p (pi (y3.Counts.length : Int)))))], [], [(81, .wh (!(((y9 != (0 : Int)) || (y11 != (0 : Int))) || (decide ((IntKind.i64.wrap (y12 * (12 : Int))) < (IntKind.i64.wrap ((IntKind.i64.wrap (Int.tmod n (13 : Int))) * y5)))))) (.one (.p (.val (.bool (decide (y8 < (y3.Counts.length : Int))))))))], [], none⟩,
      ⟨[(76, .x (.one (.p (.val (.bool (((y9 != (0 : Int)) || (y11 != (0 : Int))) || (decide ((IntKind.i64.wrap (y12 * (12 : Int))) < (IntKind.i64.wrap ((IntKind.i64.wrap (Int.tmod n (13 : Int))) * y5)))))))))), (81, .wh (!(((y9 != (0 : Int)) || (y11 != (0 : Int))) || (decide ((IntKind.i64.wrap (y12 * (12 : Int))) < (IntKind.i64.wrap ((IntKind.i64.wrap (Int.tmod n (13 : Int))) * y5)))))) (.one (.p (.val (.bool (decide (y8 < (y3.Counts.length : Int))))))))], [], [(82, .wh (!(((y9 != (0 : Int)) || (y11 != (0 : Int))) || (decide ((IntKind.i64.wrap (y12 * (12 : Int))) < (IntKind.i64.wrap ((IntKind.i64.wrap (Int.tmod n (13 : Int))) * y5)))))) (.one (.p (.val (.bool (decide (y8 < (y3.Counts.length : Int))))))))], [], none⟩,
      ⟨[(14, .x (.one (.ptr 114 0))), (82, .wh (!(((y9 != (0 : Int)) || (y11 != (0 : Int))) || (decide ((IntKind.i64.wrap (y12 * (12 : Int))) < (IntKind.i64.wrap ((IntKind.i64.wrap (Int.tmod n (13 : Int))) * y5)))))) (.one (.p (.val (.bool (decide (y8 < (y3.Counts.length : Int))))))))], [(114, some (.var [.fn 21 [106, 105]]))], [(83, .wh true (.one (.fn 21 [106, 105])))], [], none⟩,
      ⟨[(10, .x (.one (.p (pi y8)))), (82, .wh (!(((y9 != (0 : Int)) || (y11 != (0 : Int))) || (decide ((IntKind.i64.wrap (y12 * (12 : Int))) < (IntKind.i64.wrap ((IntKind.i64.wrap (Int.tmod n (13 : Int))) * y5)))))) (.one (.p (.val (.bool (decide (y8 < (y3.Counts.length : Int))))))))], [], [(84, .wh true (.one (.p (pi y8))))], [], none⟩,
      ⟨[(82, .wh (!(((y9 != (0 : Int)) || (y11 != (0 : Int))) || (decide ((IntKind.i64.wrap (y12 * (12 : Int))) < (IntKind.i64.wrap ((IntKind.i64.wrap (Int.tmod n (13 : Int))) * y5)))))) (.one (.p (.val (.bool (decide (y8 < (y3.Counts.length : Int)))))))), (84, .wh true (.one (.p (pi y8))))], [], [(85, .wh true (.one (.p (pi (IntKind.i64.wrap (y8 + (1 : Int)))))))], [], none⟩,
      ⟨[(82, .wh (!(((y9 != (0 : Int)) || (y11 != (0 : Int))) || (decide ((IntKind.i64.wrap (y12 * (12 : Int))) < (IntKind.i64.wrap ((IntKind.i64.wrap (Int.tmod n (13 : Int))) * y5)))))) (.one (.p (.val (.bool (decide (y8 < (y3.Counts.length : Int)))))))), (83, .wh true (.one (.fn 21 [106, 105]))), (85, .wh true (.one (.p (pi (IntKind.i64.wrap (y8 + (1 : Int)))))))], [(105, some (.var [.p (.sl 1 (List.map encI y3.Counts))])), (106, some (.var [.p (pi y5)]))], [(86, .x (.one (.p (pi y13))))], [], none⟩,
      ⟨[(82, .wh (!(((y9 != (0 : Int)) || (y11 != (0 : Int))) || (decide ((IntKind.i64.wrap (y12 * (12 : Int))) < (IntKind.i64.wrap ((IntKind.i64.wrap (Int.tmod n (13 : Int))) * y5)))))) (.one (.p (.val (.bool (decide (y8 < (y3.Counts.length : Int)))))))), (86, .x (.one (.p (pi y13))))], [], [(87, .wh true (.one (.p (pi (IntKind.i64.wrap (y13 * (12 : Int)))))))], [], none⟩,
      ⟨[(7, .x (.one (.ptr 107 0))), (82, .wh (!(((y9 != (0 : Int)) || (y11 != (0 : Int))) || (decide ((IntKind.i64.wrap (y12 * (12 : Int))) < (IntKind.i64.wrap ((IntKind.i64.wrap (Int.tmod n (13 : Int))) * y5)))))) (.one (.p (.val (.bool (decide (y8 < (y3.Counts.length : Int))))))))], [(107, some (.var [.p (pi (IntKind.i64.wrap (Int.tmod n (13 : Int))))]))], [(88, .wh true (.one (.p (pi (IntKind.i64.wrap (Int.tmod n (13 : Int)))))))], [], none⟩,
      ⟨[(6, .x (.one (.ptr 106 0))), (82, .wh (!(((y9 != (0 : Int)) || (y11 != (0 : Int))) || (decide ((IntKind.i64.wrap (y12 * (12 : Int))) < (IntKind.i64.wrap ((IntKind.i64.wrap (Int.tmod n (13 : Int))) * y5)))))) (.one (.p (.val (.bool (decide (y8 < (y3.Counts.length : Int))))))))], [(106, some (.var [.p (pi y5)]))], [(89, .wh true (.one (.p (pi y5))))], [], none⟩,
      ⟨[(82, .wh (!(((y9 != (0 : Int)) || (y11 != (0 : Int))) || (decide ((IntKind.i64.wrap (y12 * (12 : Int))) < (IntKind.i64.wrap ((IntKind.i64.wrap (Int.tmod n (13 : Int))) * y5)))))) (.one (.p (.val (.bool (decide (y8 < (y3.Counts.length : Int)))))))), (88, .wh true (.one (.p (pi (IntKind.i64.wrap (Int.tmod n (13 : Int))))))), (89, .wh true (.one (.p (pi y5))))], [], [(90, .wh true (.one (.p (pi (IntKind.i64.wrap ((IntKind.i64.wrap (Int.tmod n (13 : Int))) * y5))))))], [], none⟩] (And.intro g_9_0 g_10_1) (⟨124, mkS [(5, .x (.one (.ptr 105 0))), (6, .x (.one (.ptr 106 0))), (7, .x (.one (.ptr 107 0))), (12, .x (.one (.p (pi y10)))), (14, .x (.one (.ptr 114 0))), (93, .x (.one (.p (.val (.bool ((((y9 != (0 : Int)) || (y11 != (0 : Int))) || (decide ((IntKind.i64.wrap (y12 * (12 : Int))) < (IntKind.i64.wrap ((IntKind.i64.wrap (Int.tmod n (13 : Int))) * y5))))) || ((decide (y8 < (y3.Counts.length : Int))) && (decide ((IntKind.i64.wrap ((IntKind.i64.wrap (Int.tmod n (13 : Int))) * y5)) ≤ (IntKind.i64.wrap (y13 * (12 : Int))))))))))))], mkH [(105, .var [.p (.sl 1 (List.map encI y3.Counts))]), (106, .var [.p (pi y5)]), (107, .var [.p (pi (IntKind.i64.wrap (Int.tmod n (13 : Int))))]), (114, .var [.fn 21 [106, 105]])]⟩) (by kernel_rfl) (by kernel_rfl) (by kernel_rfl) rfl rfl rfl ?_
            refine lok_c ((((y9 != (0 : Int)) || (y11 != (0 : Int))) || (decide ((IntKind.i64.wrap (y12 * (12 : Int))) < (IntKind.i64.wrap ((IntKind.i64.wrap (Int.tmod n (13 : Int))) * y5))))) || ((decide (y8 < (y3.Counts.length : Int))) && (decide ((IntKind.i64.wrap ((IntKind.i64.wrap (Int.tmod n (13 : Int))) * y5)) ≤ (IntKind.i64.wrap (y13 * (12 : Int))))))) ?_ ?_
            · intro b_18
              replace H0 := cpos H0 b_18
              refine lok_rt E0 (⟨124, mkS [(4, .x (.one (.p (.val (.bool false)))))], mkH []⟩) ?_
              refine lok_ret ?_
              obtain rfl := Option.some.inj H0
              try simp only [thenL, blockL]
              exact fin_au _ (.inr rfl) [] (⟨124, mkS [(4, .x (.one (.p (.val (.bool false)))))], mkH []⟩) rfl rfl imp_au
            · intro b_18
              replace H0 := cneg H0 b_18
              refine lok_skip ?_
              try simp only [thenL, blockL, ↓reduceIte, reduceCtorEq]
              refine lok_rt E0 (⟨124, mkS [(5, .x (.one (.ptr 105 0))), (12, .x (.one (.p (pi y10)))), (15, .x (.one (.fn 23 [114, 107, 106])))], mkH [(105, .var [.p (.sl 1 (List.map encI y3.Counts))]), (106, .var [.p (pi y5)]), (107, .var [.p (pi (IntKind.i64.wrap (Int.tmod n (13 : Int))))]), (114, .var [.fn 21 [106, 105]])]⟩) ?_
              refine lok_join (fun x_ : Unit => law35_BoundaryShares_j1 = some r_) (fun x_ => ⟨124, mkS [], mkH []⟩) ?hylaw35_BoundaryShares_j1 ?hxlaw35_BoundaryShares_j1
              case hylaw35_BoundaryShares_j1 =>
                rintro _ H0
                try dsimp only at H0 ⊢
                unfold law35_BoundaryShares_j1 at H0
                replace H0 := bind_some H0
                obtain ⟨y14, h_11, H0⟩ := H0
                refine lok_rt (Env.of E0 [⟨some 123, 9, [], [], [.one (.p (.val (.bool y14)))], [], True, fun _ => ok_law35_sane y14 h_11, []⟩]) (⟨124, mkS [(4, .x (.one (.p (.val (.bool y14)))))], mkH []⟩) ?_
                refine lok_ret ?_
                obtain rfl := Option.some.inj H0
                try simp only [thenL, blockL]
                exact fin_au _ (.inr rfl) [] (⟨124, mkS [(4, .x (.one (.p (.val (.bool y14)))))], mkH []⟩) rfl rfl imp_au
              case hxlaw35_BoundaryShares_j1 =>
                refine lok_rt E0 (⟨124, mkS [(5, .x (.one (.ptr 105 0))), (12, .x (.one (.p (pi y10)))), (15, .x (.one (.fn 23 [114, 107, 106]))), (16, .x (.one (.p (pi (0 : Int)))))], mkH [(105, .var [.p (.sl 1 (List.map encI y3.Counts))]), (106, .var [.p (pi y5)]), (107, .var [.p (pi (IntKind.i64.wrap (Int.tmod n (13 : Int))))]), (114, .var [.fn 21 [106, 105]])]⟩) ?_
                refine lok_block ?_
                replace H0 := bind_some H0
                obtain ⟨v_12, hv_12, H0⟩ := H0
                refine lok_iter (fun x_ => ⟨124, mkS [(5, .x (.one (.ptr 105 0))), (12, .x (.one (.p (pi y10)))), (15, .x (.one (.fn 23 [114, 107, 106]))), (16, .x (.one (.p (pi x_))))], mkH [(105, .var [.p (.sl 1 (List.map encI y3.Counts))]), (106, .var [.p (pi y5)]), (107, .var [.p (pi (IntKind.i64.wrap (Int.tmod n (13 : Int))))]), (114, .var [.fn 21 [106, 105]])]⟩) hv_12 imp_au ?_
                · rintro y15 o_1 H1 k_1
                  unfold law35_BoundaryShares_l2 at H1
                  try dsimp only at H1 ⊢
                  refine lok_seq ?_
                  refine lok_rt E0 (⟨124, mkS [(5, .x (.one (.ptr 105 0))), (12, .x (.one (.p (pi y10)))), (15, .x (.one (.fn 23 [114, 107, 106]))), (16, .x (.one (.p (pi y15)))), (99, .x (.one (.p (.val (.bool (decide (y15 ≤ (y3.Counts.length : Int))))))))], mkH [(105, .var [.p (.sl 1 (List.map encI y3.Counts))]), (106, .var [.p (pi y5)]), (107, .var [.p (pi (IntKind.i64.wrap (Int.tmod n (13 : Int))))]), (114, .var [.fn 21 [106, 105]])]⟩) ?_
                  refine lok_c (decide (y15 ≤ (y3.Counts.length : Int))) ?_ ?_
                  · intro b_17
                    replace H1 := cpos H1 b_17
                    refine lok_skip ?_
                    try simp only [thenL, blockL, ↓reduceIte, reduceCtorEq]
                    refine lok_seq ?_
                    refine lok_block ?_
                    replace H1 := bind_some H1
                    obtain ⟨y16, h_13, H1⟩ := H1
                    replace H1 := bind_some H1
                    obtain ⟨y17, h_14, H1⟩ := H1
                    rcases bcases (!(decide (y16 < y17))) with g_15_0 | g_15_0
                    · replace H1 := cpos H1 g_15_0
                      replace H1 := bind_some H1
                      obtain ⟨y18, h_15, H1⟩ := H1
                      replace H1 := bind_some H1
                      obtain ⟨y19, h_16, H1⟩ := H1
                      refine lok_rtg (Env.of E0 [⟨some 104, 23, [.one (.p (pi y15)), .one (.ptr 0 0), .one (.ptr 1 0), .one (.ptr 2 0)], [.var [.fn 21 [2, 3]], .var [.p (pi (IntKind.i64.wrap (Int.tmod n (13 : Int))))], .var [.p (pi y5)], .var [.p (.sl 1 (List.map encI y3.Counts))]], [.one (.p (pi y16))], [some (.var [.fn 21 [2, 3]]), some (.var [.p (pi (IntKind.i64.wrap (Int.tmod n (13 : Int))))]), some (.var [.p (pi y5)]), some (.var [.p (.sl 1 (List.map encI y3.Counts))])], True, fun _ => ok_law35_BoundaryShares_f2 y15 (IntKind.i64.wrap (Int.tmod n (13 : Int))) y5 y3 y16 h_13, []⟩,
      ⟨some 107, 23, [.one (.p (pi y10)), .one (.ptr 0 0), .one (.ptr 1 0), .one (.ptr 2 0)], [.var [.fn 21 [2, 3]], .var [.p (pi (IntKind.i64.wrap (Int.tmod n (13 : Int))))], .var [.p (pi y5)], .var [.p (.sl 1 (List.map encI y3.Counts))]], [.one (.p (pi y17))], [some (.var [.fn 21 [2, 3]]), some (.var [.p (pi (IntKind.i64.wrap (Int.tmod n (13 : Int))))]), some (.var [.p (pi y5)]), some (.var [.p (.sl 1 (List.map encI y3.Counts))])], True, fun _ => ok_law35_BoundaryShares_f2 y10 (IntKind.i64.wrap (Int.tmod n (13 : Int))) y5 y3 y17 h_14, []⟩,
      ⟨some 112, 23, [.one (.p (pi y15)), .one (.ptr 0 0), .one (.ptr 1 0), .one (.ptr 2 0)], [.var [.fn 21 [2, 3]], .var [.p (pi (IntKind.i64.wrap (Int.tmod n (13 : Int))))], .var [.p (pi y5)], .var [.p (.sl 1 (List.map encI y3.Counts))]], [.one (.p (pi y18))], [some (.var [.fn 21 [2, 3]]), some (.var [.p (pi (IntKind.i64.wrap (Int.tmod n (13 : Int))))]), some (.var [.p (pi y5)]), some (.var [.p (.sl 1 (List.map encI y3.Counts))])], True, fun _ => ok_law35_BoundaryShares_f2 y15 (IntKind.i64.wrap (Int.tmod n (13 : Int))) y5 y3 y18 h_15, []⟩,
      ⟨some 115, 23, [.one (.p (pi y10)), .one (.ptr 0 0), .one (.ptr 1 0), .one (.ptr 2 0)], [.var [.fn 21 [2, 3]], .var [.p (pi (IntKind.i64.wrap (Int.tmod n (13 : Int))))], .var [.p (pi y5)], .var [.p (.sl 1 (List.map encI y3.Counts))]], [.one (.p (pi y19))], [some (.var [.fn 21 [2, 3]]), some (.var [.p (pi (IntKind.i64.wrap (Int.tmod n (13 : Int))))]), some (.var [.p (pi y5)]), some (.var [.p (.sl 1 (List.map encI y3.Counts))])], True, fun _ => ok_law35_BoundaryShares_f2 y10 (IntKind.i64.wrap (Int.tmod n (13 : Int))) y5 y3 y19 h_16, []⟩]) g_15_0 (⟨124, mkS [(5, .x (.one (.ptr 105 0))), (12, .x (.one (.p (pi y10)))), (15, .x (.one (.fn 23 [114, 107, 106]))), (16, .x (.one (.p (pi y15)))), (112, .x (.one (.p (pi y18)))), (115, .x (.one (.p (pi y19)))), (122, .x (.one (.p (.val (.bool ((decide (y16 < y17)) || ((y18 == y19) && (decide (y15 < y10)))))))))], mkH [(105, .var [.p (.sl 1 (List.map encI y3.Counts))]), (106, .var [.p (pi y5)]), (107, .var [.p (pi (IntKind.i64.wrap (Int.tmod n (13 : Int))))]), (114, .var [.fn 21 [106, 105]])]⟩) ?_
                      refine lok_c ((decide (y16 < y17)) || ((y18 == y19) && (decide (y15 < y10)))) ?_ ?_
                      · intro b_17
                        replace H1 := cpos H1 b_17
                        refine lok_rt E0 (⟨124, mkS [(4, .x (.one (.p (.val (.bool false)))))], mkH []⟩) ?_
                        refine lok_ret ?_
                        try simp only [thenL, blockL, ↓reduceIte, reduceCtorEq]
                        have e_1 := k_1 _ (Option.some.inj H1).symm
                        subst e_1
                        try dsimp only at H0
                        obtain rfl := Option.some.inj H0
                        try simp only [thenL, blockL]
                        exact fin_au _ (.inr rfl) [] (⟨124, mkS [(4, .x (.one (.p (.val (.bool false)))))], mkH []⟩) rfl rfl imp_au
                      · intro b_17
                        replace H1 := cneg H1 b_17
                        refine lok_skip ?_
                        try simp only [thenL, blockL, ↓reduceIte, reduceCtorEq]
                        refine lok_rl E0 (⟨124, mkS [(5, .x (.one (.ptr 105 0))), (12, .x (.one (.p (pi y10)))), (15, .x (.one (.fn 23 [114, 107, 106]))), (16, .x (.one (.p (pi (IntKind.i64.wrap (y15 + (1 : Int))))))), (112, .x (.one (.p (pi y18)))), (115, .x (.one (.p (pi y19))))], mkH [(105, .var [.p (.sl 1 (List.map encI y3.Counts))]), (106, .var [.p (pi y5)]), (107, .var [.p (pi (IntKind.i64.wrap (Int.tmod n (13 : Int))))]), (114, .var [.fn 21 [106, 105]])]⟩) ?_
                        try simp only [thenL, blockL, ↓reduceIte, reduceCtorEq]
                        exact ⟨(IntKind.i64.wrap (y15 + (1 : Int))), (Option.some.inj H1).symm, imp_au⟩
                    · replace H1 := cneg H1 g_15_0
                      replace H1 := req_some H1
                      obtain ⟨q_16, H1⟩ := H1
                      refine lok_rtg (Env.of E0 [⟨some 104, 23, [.one (.p (pi y15)), .one (.ptr 0 0), .one (.ptr 1 0), .one (.ptr 2 0)], [.var [.fn 21 [2, 3]], .var [.p (pi (IntKind.i64.wrap (Int.tmod n (13 : Int))))], .var [.p (pi y5)], .var [.p (.sl 1 (List.map encI y3.Counts))]], [.one (.p (pi y16))], [some (.var [.fn 21 [2, 3]]), some (.var [.p (pi (IntKind.i64.wrap (Int.tmod n (13 : Int))))]), some (.var [.p (pi y5)]), some (.var [.p (.sl 1 (List.map encI y3.Counts))])], True, fun _ => ok_law35_BoundaryShares_f2 y15 (IntKind.i64.wrap (Int.tmod n (13 : Int))) y5 y3 y16 h_13, []⟩,
      ⟨some 107, 23, [.one (.p (pi y10)), .one (.ptr 0 0), .one (.ptr 1 0), .one (.ptr 2 0)], [.var [.fn 21 [2, 3]], .var [.p (pi (IntKind.i64.wrap (Int.tmod n (13 : Int))))], .var [.p (pi y5)], .var [.p (.sl 1 (List.map encI y3.Counts))]], [.one (.p (pi y17))], [some (.var [.fn 21 [2, 3]]), some (.var [.p (pi (IntKind.i64.wrap (Int.tmod n (13 : Int))))]), some (.var [.p (pi y5)]), some (.var [.p (.sl 1 (List.map encI y3.Counts))])], True, fun _ => ok_law35_BoundaryShares_f2 y10 (IntKind.i64.wrap (Int.tmod n (13 : Int))) y5 y3 y17 h_14, []⟩]) g_15_0 (⟨124, mkS [(5, .x (.one (.ptr 105 0))), (12, .x (.one (.p (pi y10)))), (15, .x (.one (.fn 23 [114, 107, 106]))), (16, .x (.one (.p (pi y15)))), (122, .x (.one (.p (.val (.bool ((decide (y16 < y17)) || (((0 : Int) == (0 : Int)) && (decide (y15 < y10)))))))))], mkH [(105, .var [.p (.sl 1 (List.map encI y3.Counts))]), (106, .var [.p (pi y5)]), (107, .var [.p (pi (IntKind.i64.wrap (Int.tmod n (13 : Int))))]), (114, .var [.fn 21 [106, 105]])]⟩) ?_
                      refine lok_c ((decide (y16 < y17)) || (((0 : Int) == (0 : Int)) && (decide (y15 < y10)))) ?_ ?_
                      · intro b_15
                        replace H1 := cpos H1 b_15
                        refine lok_rt E0 (⟨124, mkS [(4, .x (.one (.p (.val (.bool false)))))], mkH []⟩) ?_
                        refine lok_ret ?_
                        try simp only [thenL, blockL, ↓reduceIte, reduceCtorEq]
                        have e_1 := k_1 _ (Option.some.inj H1).symm
                        subst e_1
                        try dsimp only at H0
                        obtain rfl := Option.some.inj H0
                        try simp only [thenL, blockL]
                        exact fin_au _ (.inr rfl) [] (⟨124, mkS [(4, .x (.one (.p (.val (.bool false)))))], mkH []⟩) rfl rfl imp_au
                      · intro b_15
                        replace H1 := cneg H1 b_15
                        refine lok_skip ?_
                        try simp only [thenL, blockL, ↓reduceIte, reduceCtorEq]
                        refine lok_rl E0 (⟨124, mkS [(5, .x (.one (.ptr 105 0))), (12, .x (.one (.p (pi y10)))), (15, .x (.one (.fn 23 [114, 107, 106]))), (16, .x (.one (.p (pi (IntKind.i64.wrap (y15 + (1 : Int)))))))], mkH [(105, .var [.p (.sl 1 (List.map encI y3.Counts))]), (106, .var [.p (pi y5)]), (107, .var [.p (pi (IntKind.i64.wrap (Int.tmod n (13 : Int))))]), (114, .var [.fn 21 [106, 105]])]⟩) ?_
                        try simp only [thenL, blockL, ↓reduceIte, reduceCtorEq]
                        exact ⟨(IntKind.i64.wrap (y15 + (1 : Int))), (Option.some.inj H1).symm, imp_au⟩
                  · intro b_17
                    replace H1 := cneg H1 b_17
                    refine lok_exit ?_
                    try simp only [thenL, blockL, ↓reduceIte, reduceCtorEq]
                    have e_1 := k_1 _ (Option.some.inj H1).symm
                    subst e_1
                    try dsimp only at H0
                    try simp only [thenL, blockL, ↓reduceIte, reduceCtorEq]
                    exact ⟨(), H0, imp_au⟩
          · replace H0 := cneg H0 g_10_1
            replace H0 := req_some H0
            obtain ⟨q_18, H0⟩ := H0
            refine lok_etg (Env.of E0 [⟨some 69, 21, [.one (.p (pi y8)), .one (.ptr 0 0), .one (.ptr 1 0)], [.var [.p (pi y5)], .var [.p (.sl 1 (List.map encI y3.Counts))]], [.one (.p (pi y12))], [some (.var [.p (pi y5)]), some (.var [.p (.sl 1 (List.map encI y3.Counts))])], True, fun _ => ok_law35_BoundaryShares_f1 y8 y5 y3 y12 h_9, []⟩]) 124 [⟨[(11, .x (.one (.p (pi y9))))], [], [(60, .x (.one (.p (pi y9))))], [], none⟩,
      ⟨[(60, .x (.one (.p (pi y9))))], [], [(61, .x (.one (.p (.val (.bool (y9 != (0 : Int)))))))], [], none⟩,
      ⟨[(61, .x (.one (.p (.val (.bool (y9 != (0 : Int)))))))], [], [(62, .x (.one (.p (.val (.bool (y9 != (0 : Int)))))))], [], none⟩,
      ⟨[(13, .x (.one (.p (pi y11)))), (62, .x (.one (.p (.val (.bool (y9 != (0 : Int)))))))], [], [(63, .wh (!(y9 != (0 : Int))) (.one (.p (pi y11))))], [], none⟩,
      ⟨[(62, .x (.one (.p (.val (.bool (y9 != (0 : Int))))))), (63, .wh (!(y9 != (0 : Int))) (.one (.p (pi y11))))], [], [(64, .wh (!(y9 != (0 : Int))) (.one (.p (.val (.bool (y11 != (0 : Int)))))))], [], none⟩,
      ⟨[(62, .x (.one (.p (.val (.bool (y9 != (0 : Int))))))), (64, .wh (!(y9 != (0 : Int))) (.one (.p (.val (.bool (y11 != (0 : Int)))))))], [], [(65, .x (.one (.p (.val (.bool ((y9 != (0 : Int)) || (y11 != (0 : Int))))))))], [], none⟩,
      ⟨[(65, .x (.one (.p (.val (.bool ((y9 != (0 : Int)) || (y11 != (0 : Int))))))))], [], [(66, .x (.one (.p (.val (.bool ((y9 != (0 : Int)) || (y11 != (0 : Int))))))))], [], none⟩,
      ⟨[(14, .x (.one (.ptr 114 0))), (66, .x (.one (.p (.val (.bool ((y9 != (0 : Int)) || (y11 != (0 : Int))))))))], [(114, some (.var [.fn 21 [106, 105]]))], [(67, .wh true (.one (.fn 21 [106, 105])))], [], none⟩,
      ⟨[(10, .x (.one (.p (pi y8)))), (66, .x (.one (.p (.val (.bool ((y9 != (0 : Int)) || (y11 != (0 : Int))))))))], [], [(68, .wh true (.one (.p (pi y8))))], [], none⟩,
      ⟨[(66, .x (.one (.p (.val (.bool ((y9 != (0 : Int)) || (y11 != (0 : Int)))))))), (67, .wh true (.one (.fn 21 [106, 105]))), (68, .wh true (.one (.p (pi y8))))], [(105, some (.var [.p (.sl 1 (List.map encI y3.Counts))])), (106, some (.var [.p (pi y5)]))], [(69, .x (.one (.p (pi y12))))], [], none⟩,
      ⟨[(66, .x (.one (.p (.val (.bool ((y9 != (0 : Int)) || (y11 != (0 : Int)))))))), (69, .x (.one (.p (pi y12))))], [], [(70, .wh true (.one (.p (pi (IntKind.i64.wrap (y12 * (12 : Int)))))))], [], none⟩,
      ⟨[(7, .x (.one (.ptr 107 0))), (66, .x (.one (.p (.val (.bool ((y9 != (0 : Int)) || (y11 != (0 : Int))))))))], [(107, some (.var [.p (pi (IntKind.i64.wrap (Int.tmod n (13 : Int))))]))], [(71, .wh true (.one (.p (pi (IntKind.i64.wrap (Int.tmod n (13 : Int)))))))], [], none⟩,
      ⟨[(6, .x (.one (.ptr 106 0))), (66, .x (.one (.p (.val (.bool ((y9 != (0 : Int)) || (y11 != (0 : Int))))))))], [(106, some (.var [.p (pi y5)]))], [(72, .wh true (.one (.p (pi y5))))], [], none⟩,
      ⟨[(66, .x (.one (.p (.val (.bool ((y9 != (0 : Int)) || (y11 != (0 : Int)))))))), (71, .wh true (.one (.p (pi (IntKind.i64.wrap (Int.tmod n (13 : Int))))))), (72, .wh true (.one (.p (pi y5))))], [], [(73, .wh true (.one (.p (pi (IntKind.i64.wrap ((IntKind.i64.wrap (Int.tmod n (13 : Int))) * y5))))))], [], none⟩,
      ⟨[(66, .x (.one (.p (.val (.bool ((y9 != (0 : Int)) || (y11 != (0 : Int)))))))), (70, .wh true (.one (.p (pi (IntKind.i64.wrap (y12 * (12 : Int))))))), (73, .wh true (.one (.p (pi (IntKind.i64.wrap ((IntKind.i64.wrap (Int.tmod n (13 : Int))) * y5))))))], [], [(74, .wh true (.one (.p (.val (.bool (decide ((IntKind.i64.wrap (y12 * (12 : Int))) < (IntKind.i64.wrap ((IntKind.i64.wrap (Int.tmod n (13 : Int))) * y5)))))))))], [], none⟩,
      ⟨[(66, .x (.one (.p (.val (.bool ((y9 != (0 : Int)) || (y11 != (0 : Int)))))))), (74, .wh true (.one (.p (.val (.bool (decide ((IntKind.i64.wrap (y12 * (12 : Int))) < (IntKind.i64.wrap ((IntKind.i64.wrap (Int.tmod n (13 : Int))) * y5)))))))))], [], [(75, .x (.one (.p (.val (.bool (((y9 != (0 : Int)) || (y11 != (0 : Int))) || (decide ((IntKind.i64.wrap (y12 * (12 : Int))) < (IntKind.i64.wrap ((IntKind.i64.wrap (Int.tmod n (13 : Int))) * y5))))))))))], [], none⟩,
      ⟨[(75, .x (.one (.p (.val (.bool (((y9 != (0 : Int)) || (y11 != (0 : Int))) || (decide ((IntKind.i64.wrap (y12 * (12 : Int))) < (IntKind.i64.wrap ((IntKind.i64.wrap (Int.tmod n (13 : Int))) * y5))))))))))], [], [(76, .x (.one (.p (.val (.bool (((y9 != (0 : Int)) || (y11 != (0 : Int))) || (decide ((IntKind.i64.wrap (y12 * (12 : Int))) < (IntKind.i64.wrap ((IntKind.i64.wrap (Int.tmod n (13 : Int))) * y5))))))))))], [], none⟩,
      ⟨[(10, .x (.one (.p (pi y8)))), (76, .x (.one (.p (.val (.bool (((y9 != (0 : Int)) || (y11 != (0 : Int))) || (decide ((IntKind.i64.wrap (y12 * (12 : Int))) < (IntKind.i64.wrap ((IntKind.i64.wrap (Int.tmod n (13 : Int))) * y5))))))))))], [], [(77, .wh (!(((y9 != (0 : Int)) || (y11 != (0 : Int))) || (decide ((IntKind.i64.wrap (y12 * (12 : Int))) < (IntKind.i64.wrap ((IntKind.i64.wrap (Int.tmod n (13 : Int))) * y5)))))) (.one (.p (pi y8))))], [], none⟩,
      ⟨[(5, .x (.one (.ptr 105 0))), (76, .x (.one (.p (.val (.bool (((y9 != (0 : Int)) || (y11 != (0 : Int))) || (decide ((IntKind.i64.wrap (y12 * (12 : Int))) < (IntKind.i64.wrap ((IntKind.i64.wrap (Int.tmod n (13 : Int))) * y5))))))))))], [], [(78, .wh (!(((y9 != (0 : Int)) || (y11 != (0 : Int))) || (decide ((IntKind.i64.wrap (y12 * (12 : Int))) < (IntKind.i64.wrap ((IntKind.i64.wrap (Int.tmod n (13 : Int))) * y5)))))) (.one (.ptr 105 0)))], [], none⟩,
      ⟨[(76, .x (.one (.p (.val (.bool (((y9 != (0 : Int)) || (y11 != (0 : Int))) || (decide ((IntKind.i64.wrap (y12 * (12 : Int))) < (IntKind.i64.wrap ((IntKind.i64.wrap (Int.tmod n (13 : Int))) * y5)))))))))), (78, .wh (!(((y9 != (0 : Int)) || (y11 != (0 : Int))) || (decide ((IntKind.i64.wrap (y12 * (12 : Int))) < (IntKind.i64.wrap ((IntKind.i64.wrap (Int.tmod n (13 : Int))) * y5)))))) (.one (.ptr 105 0)))], [(105, some (.var [.p (.sl 1 (List.map encI y3.Counts))]))], [(79, .wh (!(((y9 != (0 : Int)) || (y11 != (0 : Int))) || (decide ((IntKind.i64.wrap (y12 * (12 : Int))) < (IntKind.i64.wrap ((IntKind.i64.wrap (Int.tmod n (13 : Int))) * y5)))))) (.one (.p (.sl 1 (List.map encI y3.Counts)))))], [], none⟩,
      ⟨[(76, .x (.one (.p (.val (.bool (((y9 != (0 : Int)) || (y11 != (0 : Int))) || (decide ((IntKind.i64.wrap (y12 * (12 : Int))) < (IntKind.i64.wrap ((IntKind.i64.wrap (Int.tmod n (13 : Int))) * y5)))))))))), (79, .wh (!(((y9 != (0 : Int)) || (y11 != (0 : Int))) || (decide ((IntKind.i64.wrap (y12 * (12 : Int))) < (IntKind.i64.wrap ((IntKind.i64.wrap (Int.tmod n (13 : Int))) * y5)))))) (.one (.p (.sl 1 (List.map encI y3.Counts)))))], [], [(80, .wh (!(((y9 != (0 : Int)) || (y11 != (0 : Int))) || (decide ((IntKind.i64.wrap (y12 * (12 : Int))) < (IntKind.i64.wrap ((IntKind.i64.wrap (Int.tmod n (13 : Int))) * y5)))))) (.one (.p (pi (y3.Counts.length : Int)))))], [], none⟩,
      ⟨[(76, .x (.one (.p (.val (.bool (((y9 != (0 : Int)) || (y11 != (0 : Int))) || (decide ((IntKind.i64.wrap (y12 * (12 : Int))) < (IntKind.i64.wrap ((IntKind.i64.wrap (Int.tmod n (13 : Int))) * y5)))))))))), (77, .wh (!(((y9 != (0 : Int)) || (y11 != (0 : Int))) || (decide ((IntKind.i64.wrap (y12 * (12 : Int))) < (IntKind.i64.wrap ((IntKind.i64.wrap (Int.tmod n (13 : Int))) * y5)))))) (.one (.p (pi y8)))), (80, .wh (!(((y9 != (0 : Int)) || (y11 != (0 : Int))) || (decide ((IntKind.i64.wrap (y12 * (12 : Int))) < (IntKind.i64.wrap ((IntKind.i64.wrap (Int.tmod n (13 : Int))) * y5)))))) (.one (.p (pi (y3.Counts.length : Int)))))], [], [(81, .wh (!(((y9 != (0 : Int)) || (y11 != (0 : Int))) || (decide ((IntKind.i64.wrap (y12 * (12 : Int))) < (IntKind.i64.wrap ((IntKind.i64.wrap (Int.tmod n (13 : Int))) * y5)))))) (.one (.p (.val (.bool (decide (y8 < (y3.Counts.length : Int))))))))], [], none⟩,
      ⟨[(76, .x (.one (.p (.val (.bool (((y9 != (0 : Int)) || (y11 != (0 : Int))) || (decide ((IntKind.i64.wrap (y12 * (12 : Int))) < (IntKind.i64.wrap ((IntKind.i64.wrap (Int.tmod n (13 : Int))) * y5)))))))))), (81, .wh (!(((y9 != (0 : Int)) || (y11 != (0 : Int))) || (decide ((IntKind.i64.wrap (y12 * (12 : Int))) < (IntKind.i64.wrap ((IntKind.i64.wrap (Int.tmod n (13 : Int))) * y5)))))) (.one (.p (.val (.bool (decide (y8 < (y3.Counts.length : Int))))))))], [], [(82, .wh (!(((y9 != (0 : Int)) || (y11 != (0 : Int))) || (decide ((IntKind.i64.wrap (y12 * (12 : Int))) < (IntKind.i64.wrap ((IntKind.i64.wrap (Int.tmod n (13 : Int))) * y5)))))) (.one (.p (.val (.bool (decide (y8 < (y3.Counts.length : Int))))))))], [], none⟩,
      ⟨[(14, .x (.one (.ptr 114 0))), (82, .wh (!(((y9 != (0 : Int)) || (y11 != (0 : Int))) || (decide ((IntKind.i64.wrap (y12 * (12 : Int))) < (IntKind.i64.wrap ((IntKind.i64.wrap (Int.tmod n (13 : Int))) * y5)))))) (.one (.p (.val (.bool (decide (y8 < (y3.Counts.length : Int))))))))], [(114, some (.var [.fn 21 [106, 105]]))], [(83, .wh false (.one (.fn 21 [106, 105])))], [], none⟩,
      ⟨[(10, .x (.one (.p (pi y8)))), (82, .wh (!(((y9 != (0 : Int)) || (y11 != (0 : Int))) || (decide ((IntKind.i64.wrap (y12 * (12 : Int))) < (IntKind.i64.wrap ((IntKind.i64.wrap (Int.tmod n (13 : Int))) * y5)))))) (.one (.p (.val (.bool (decide (y8 < (y3.Counts.length : Int))))))))], [], [(84, .wh false (.one (.p (pi y8))))], [], none⟩,
      ⟨[(82, .wh (!(((y9 != (0 : Int)) || (y11 != (0 : Int))) || (decide ((IntKind.i64.wrap (y12 * (12 : Int))) < (IntKind.i64.wrap ((IntKind.i64.wrap (Int.tmod n (13 : Int))) * y5)))))) (.one (.p (.val (.bool (decide (y8 < (y3.Counts.length : Int)))))))), (84, .wh false (.one (.p (pi y8))))], [], [(85, .wh false (.one (.p (pi (IntKind.i64.wrap (y8 + (1 : Int)))))))], [], none⟩,
      ⟨[(82, .wh (!(((y9 != (0 : Int)) || (y11 != (0 : Int))) || (decide ((IntKind.i64.wrap (y12 * (12 : Int))) < (IntKind.i64.wrap ((IntKind.i64.wrap (Int.tmod n (13 : Int))) * y5)))))) (.one (.p (.val (.bool (decide (y8 < (y3.Counts.length : Int)))))))), (83, .wh false (.one (.fn 21 [106, 105]))), (85, .wh false (.one (.p (pi (IntKind.i64.wrap (y8 + (1 : Int)))))))], [(105, some (.var [.p (.sl 1 (List.map encI y3.Counts))])), (106, some (.var [.p (pi y5)]))], [(86, .wh false (.one (.p (pi (0 : Int)))))], [], none⟩,
      ⟨[(82, .wh (!(((y9 != (0 : Int)) || (y11 != (0 : Int))) || (decide ((IntKind.i64.wrap (y12 * (12 : Int))) < (IntKind.i64.wrap ((IntKind.i64.wrap (Int.tmod n (13 : Int))) * y5)))))) (.one (.p (.val (.bool (decide (y8 < (y3.Counts.length : Int)))))))), (86, .wh false (.one (.p (pi (0 : Int)))))], [], [(87, .wh false (.one (.p (pi (IntKind.i64.wrap ((0 : Int) * (12 : Int)))))))], [], none⟩,
      ⟨[(7, .x (.one (.ptr 107 0))), (82, .wh (!(((y9 != (0 : Int)) || (y11 != (0 : Int))) || (decide ((IntKind.i64.wrap (y12 * (12 : Int))) < (IntKind.i64.wrap ((IntKind.i64.wrap (Int.tmod n (13 : Int))) * y5)))))) (.one (.p (.val (.bool (decide (y8 < (y3.Counts.length : Int))))))))], [(107, some (.var [.p (pi (IntKind.i64.wrap (Int.tmod n (13 : Int))))]))], [(88, .wh false (.one (.p (pi (IntKind.i64.wrap (Int.tmod n (13 : Int)))))))], [], none⟩,
      ⟨[(6, .x (.one (.ptr 106 0))), (82, .wh (!(((y9 != (0 : Int)) || (y11 != (0 : Int))) || (decide ((IntKind.i64.wrap (y12 * (12 : Int))) < (IntKind.i64.wrap ((IntKind.i64.wrap (Int.tmod n (13 : Int))) * y5)))))) (.one (.p (.val (.bool (decide (y8 < (y3.Counts.length : Int))))))))], [(106, some (.var [.p (pi y5)]))], [(89, .wh false (.one (.p (pi y5))))], [], none⟩,
      ⟨[(82, .wh (!(((y9 != (0 : Int)) || (y11 != (0 : Int))) || (decide ((IntKind.i64.wrap (y12 * (12 : Int))) < (IntKind.i64.wrap ((IntKind.i64.wrap (Int.tmod n (13 : Int))) * y5)))))) (.one (.p (.val (.bool (decide (y8 < (y3.Counts.length : Int)))))))), (88, .wh false (.one (.p (pi (IntKind.i64.wrap (Int.tmod n (13 : Int))))))), (89, .wh false (.one (.p (pi y5))))], [], [(90, .wh false (.one (.p (pi (IntKind.i64.wrap ((IntKind.i64.wrap (Int.tmod n (13 : Int))) * y5))))))], [], none⟩] (And.intro g_9_0 g_10_1) (⟨124, mkS [(5, .x (.one (.ptr 105 0))), (6, .x (.one (.ptr 106 0))), (7, .x (.one (.ptr 107 0))), (12, .x (.one (.p (pi y10)))), (14, .x (.one (.ptr 114 0))), (93, .x (.one (.p (.val (.bool ((((y9 != (0 : Int)) || (y11 != (0 : Int))) || (decide ((IntKind.i64.wrap (y12 * (12 : Int))) < (IntKind.i64.wrap ((IntKind.i64.wrap (Int.tmod n (13 : Int))) * y5))))) || ((decide (y8 < (y3.Counts.length : Int))) && (decide ((IntKind.i64.wrap ((IntKind.i64.wrap (Int.tmod n (13 : Int))) * y5)) ≤ (IntKind.i64.wrap ((0 : Int) * (12 : Int))))))))))))], mkH [(105, .var [.p (.sl 1 (List.map encI y3.Counts))]), (106, .var [.p (pi y5)]), (107, .var [.p (pi (IntKind.i64.wrap (Int.tmod n (13 : Int))))]), (114, .var [.fn 21 [106, 105]])]⟩) (by kernel_rfl) (by kernel_rfl) (by kernel_rfl) rfl rfl rfl ?_
            refine lok_c ((((y9 != (0 : Int)) || (y11 != (0 : Int))) || (decide ((IntKind.i64.wrap (y12 * (12 : Int))) < (IntKind.i64.wrap ((IntKind.i64.wrap (Int.tmod n (13 : Int))) * y5))))) || ((decide (y8 < (y3.Counts.length : Int))) && (decide ((IntKind.i64.wrap ((IntKind.i64.wrap (Int.tmod n (13 : Int))) * y5)) ≤ (IntKind.i64.wrap ((0 : Int) * (12 : Int))))))) ?_ ?_
            · intro b_17
              replace H0 := cpos H0 b_17
              refine lok_rt E0 (⟨124, mkS [(4, .x (.one (.p (.val (.bool false)))))], mkH []⟩) ?_
              refine lok_ret ?_
              obtain rfl := Option.some.inj H0
              try simp only [thenL, blockL]
              exact fin_au _ (.inr rfl) [] (⟨124, mkS [(4, .x (.one (.p (.val (.bool false)))))], mkH []⟩) rfl rfl imp_au
            · intro b_17
              replace H0 := cneg H0 b_17
              refine lok_skip ?_
              try simp only [thenL, blockL, ↓reduceIte, reduceCtorEq]
              refine lok_rt E0 (⟨124, mkS [(5, .x (.one (.ptr 105 0))), (12, .x (.one (.p (pi y10)))), (15, .x (.one (.fn 23 [114, 107, 106])))], mkH [(105, .var [.p (.sl 1 (List.map encI y3.Counts))]), (106, .var [.p (pi y5)]), (107, .var [.p (pi (IntKind.i64.wrap (Int.tmod n (13 : Int))))]), (114, .var [.fn 21 [106, 105]])]⟩) ?_
              refine lok_join (fun x_ : Unit => law35_BoundaryShares_j3 = some r_) (fun x_ => ⟨124, mkS [], mkH []⟩) ?hylaw35_BoundaryShares_j3 ?hxlaw35_BoundaryShares_j3
              case hylaw35_BoundaryShares_j3 =>
                rintro _ H0
                try dsimp only at H0 ⊢
                unfold law35_BoundaryShares_j3 at H0
                replace H0 := bind_some H0
                obtain ⟨y13, h_10, H0⟩ := H0
                refine lok_rt (Env.of E0 [⟨some 123, 9, [], [], [.one (.p (.val (.bool y13)))], [], True, fun _ => ok_law35_sane y13 h_10, []⟩]) (⟨124, mkS [(4, .x (.one (.p (.val (.bool y13)))))], mkH []⟩) ?_
                refine lok_ret ?_
                obtain rfl := Option.some.inj H0
                try simp only [thenL, blockL]
                exact fin_au _ (.inr rfl) [] (⟨124, mkS [(4, .x (.one (.p (.val (.bool y13)))))], mkH []⟩) rfl rfl imp_au
              case hxlaw35_BoundaryShares_j3 =>
                refine lok_rt E0 (⟨124, mkS [(5, .x (.one (.ptr 105 0))), (12, .x (.one (.p (pi y10)))), (15, .x (.one (.fn 23 [114, 107, 106]))), (16, .x (.one (.p (pi (0 : Int)))))], mkH [(105, .var [.p (.sl 1 (List.map encI y3.Counts))]), (106, .var [.p (pi y5)]), (107, .var [.p (pi (IntKind.i64.wrap (Int.tmod n (13 : Int))))]), (114, .var [.fn 21 [106, 105]])]⟩) ?_
                refine lok_block ?_
                replace H0 := bind_some H0
                obtain ⟨v_11, hv_11, H0⟩ := H0
                refine lok_iter (fun x_ => ⟨124, mkS [(5, .x (.one (.ptr 105 0))), (12, .x (.one (.p (pi y10)))), (15, .x (.one (.fn 23 [114, 107, 106]))), (16, .x (.one (.p (pi x_))))], mkH [(105, .var [.p (.sl 1 (List.map encI y3.Counts))]), (106, .var [.p (pi y5)]), (107, .var [.p (pi (IntKind.i64.wrap (Int.tmod n (13 : Int))))]), (114, .var [.fn 21 [106, 105]])]⟩) hv_11 imp_au ?_
                · rintro y14 o_1 H1 k_1
                  unfold law35_BoundaryShares_l4 at H1
                  try dsimp only at H1 ⊢
                  refine lok_seq ?_
                  refine lok_rt E0 (⟨124, mkS [(5, .x (.one (.ptr 105 0))), (12, .x (.one (.p (pi y10)))), (15, .x (.one (.fn 23 [114, 107, 106]))), (16, .x (.one (.p (pi y14)))), (99, .x (.one (.p (.val (.bool (decide (y14 ≤ (y3.Counts.length : Int))))))))], mkH [(105, .var [.p (.sl 1 (List.map encI y3.Counts))]), (106, .var [.p (pi y5)]), (107, .var [.p (pi (IntKind.i64.wrap (Int.tmod n (13 : Int))))]), (114, .var [.fn 21 [106, 105]])]⟩) ?_
                  refine lok_c (decide (y14 ≤ (y3.Counts.length : Int))) ?_ ?_
                  · intro b_16
                    replace H1 := cpos H1 b_16
                    refine lok_skip ?_
                    try simp only [thenL, blockL, ↓reduceIte, reduceCtorEq]
                    refine lok_seq ?_
                    refine lok_block ?_
                    replace H1 := bind_some H1
                    obtain ⟨y15, h_12, H1⟩ := H1
                    replace H1 := bind_some H1
                    obtain ⟨y16, h_13, H1⟩ := H1
                    rcases bcases (!(decide (y15 < y16))) with g_14_0 | g_14_0
                    · replace H1 := cpos H1 g_14_0
                      replace H1 := bind_some H1
                      obtain ⟨y17, h_14, H1⟩ := H1
                      replace H1 := bind_some H1
                      obtain ⟨y18, h_15, H1⟩ := H1
                      refine lok_rtg (Env.of E0 [⟨some 104, 23, [.one (.p (pi y14)), .one (.ptr 0 0), .one (.ptr 1 0), .one (.ptr 2 0)], [.var [.fn 21 [2, 3]], .var [.p (pi (IntKind.i64.wrap (Int.tmod n (13 : Int))))], .var [.p (pi y5)], .var [.p (.sl 1 (List.map encI y3.Counts))]], [.one (.p (pi y15))], [some (.var [.fn 21 [2, 3]]), some (.var [.p (pi (IntKind.i64.wrap (Int.tmod n (13 : Int))))]), some (.var [.p (pi y5)]), some (.var [.p (.sl 1 (List.map encI y3.Counts))])], True, fun _ => ok_law35_BoundaryShares_f2 y14 (IntKind.i64.wrap (Int.tmod n (13 : Int))) y5 y3 y15 h_12, []⟩,
      ⟨some 107, 23, [.one (.p (pi y10)), .one (.ptr 0 0), .one (.ptr 1 0), .one (.ptr 2 0)], [.var [.fn 21 [2, 3]], .var [.p (pi (IntKind.i64.wrap (Int.tmod n (13 : Int))))], .var [.p (pi y5)], .var [.p (.sl 1 (List.map encI y3.Counts))]], [.one (.p (pi y16))], [some (.var [.fn 21 [2, 3]]), some (.var [.p (pi (IntKind.i64.wrap (Int.tmod n (13 : Int))))]), some (.var [.p (pi y5)]), some (.var [.p (.sl 1 (List.map encI y3.Counts))])], True, fun _ => ok_law35_BoundaryShares_f2 y10 (IntKind.i64.wrap (Int.tmod n (13 : Int))) y5 y3 y16 h_13, []⟩,
      ⟨some 112, 23, [.one (.p (pi y14)), .one (.ptr 0 0), .one (.ptr 1 0), .one (.ptr 2 0)], [.var [.fn 21 [2, 3]], .var [.p (pi (IntKind.i64.wrap (Int.tmod n (13 : Int))))], .var [.p (pi y5)], .var [.p (.sl 1 (List.map encI y3.Counts))]], [.one (.p (pi y17))], [some (.var [.fn 21 [2, 3]]), some (.var [.p (pi (IntKind.i64.wrap (Int.tmod n (13 : Int))))]), some (.var [.p (pi y5)]), some (.var [.p (.sl 1 (List.map encI y3.Counts))])], True, fun _ => ok_law35_BoundaryShares_f2 y14 (IntKind.i64.wrap (Int.tmod n (13 : Int))) y5 y3 y17 h_14, []⟩,
      ⟨some 115, 23, [.one (.p (pi y10)), .one (.ptr 0 0), .one (.ptr 1 0), .one (.ptr 2 0)], [.var [.fn 21 [2, 3]], .var [.p (pi (IntKind.i64.wrap (Int.tmod n (13 : Int))))], .var [.p (pi y5)], .var [.p (.sl 1 (List.map encI y3.Counts))]], [.one (.p (pi y18))], [some (.var [.fn 21 [2, 3]]), some (.var [.p (pi (IntKind.i64.wrap (Int.tmod n (13 : Int))))]), some (.var [.p (pi y5)]), some (.var [.p (.sl 1 (List.map encI y3.Counts))])], True, fun _ => ok_law35_BoundaryShares_f2 y10 (IntKind.i64.wrap (Int.tmod n (13 : Int))) y5 y3 y18 h_15, []⟩]) g_14_0 (⟨124, mkS [(5, .x (.one (.ptr 105 0))), (12, .x (.one (.p (pi y10)))), (15, .x (.one (.fn 23 [114, 107, 106]))), (16, .x (.one (.p (pi y14)))), (112, .x (.one (.p (pi y17)))), (115, .x (.one (.p (pi y18)))), (122, .x (.one (.p (.val (.bool ((decide (y15 < y16)) || ((y17 == y18) && (decide (y14 < y10)))))))))], mkH [(105, .var [.p (.sl 1 (List.map encI y3.Counts))]), (106, .var [.p (pi y5)]), (107, .var [.p (pi (IntKind.i64.wrap (Int.tmod n (13 : Int))))]), (114, .var [.fn 21 [106, 105]])]⟩) ?_
                      refine lok_c ((decide (y15 < y16)) || ((y17 == y18) && (decide (y14 < y10)))) ?_ ?_
                      · intro b_16
                        replace H1 := cpos H1 b_16
                        refine lok_rt E0 (⟨124, mkS [(4, .x (.one (.p (.val (.bool false)))))], mkH []⟩) ?_
                        refine lok_ret ?_
                        try simp only [thenL, blockL, ↓reduceIte, reduceCtorEq]
                        have e_1 := k_1 _ (Option.some.inj H1).symm
                        subst e_1
                        try dsimp only at H0
                        obtain rfl := Option.some.inj H0
                        try simp only [thenL, blockL]
                        exact fin_au _ (.inr rfl) [] (⟨124, mkS [(4, .x (.one (.p (.val (.bool false)))))], mkH []⟩) rfl rfl imp_au
                      · intro b_16
                        replace H1 := cneg H1 b_16
                        refine lok_skip ?_
                        try simp only [thenL, blockL, ↓reduceIte, reduceCtorEq]
                        refine lok_rl E0 (⟨124, mkS [(5, .x (.one (.ptr 105 0))), (12, .x (.one (.p (pi y10)))), (15, .x (.one (.fn 23 [114, 107, 106]))), (16, .x (.one (.p (pi (IntKind.i64.wrap (y14 + (1 : Int))))))), (112, .x (.one (.p (pi y17)))), (115, .x (.one (.p (pi y18))))], mkH [(105, .var [.p (.sl 1 (List.map encI y3.Counts))]), (106, .var [.p (pi y5)]), (107, .var [.p (pi (IntKind.i64.wrap (Int.tmod n (13 : Int))))]), (114, .var [.fn 21 [106, 105]])]⟩) ?_
                        try simp only [thenL, blockL, ↓reduceIte, reduceCtorEq]
                        exact ⟨(IntKind.i64.wrap (y14 + (1 : Int))), (Option.some.inj H1).symm, imp_au⟩
                    · replace H1 := cneg H1 g_14_0
                      replace H1 := req_some H1
                      obtain ⟨q_15, H1⟩ := H1
                      refine lok_rtg (Env.of E0 [⟨some 104, 23, [.one (.p (pi y14)), .one (.ptr 0 0), .one (.ptr 1 0), .one (.ptr 2 0)], [.var [.fn 21 [2, 3]], .var [.p (pi (IntKind.i64.wrap (Int.tmod n (13 : Int))))], .var [.p (pi y5)], .var [.p (.sl 1 (List.map encI y3.Counts))]], [.one (.p (pi y15))], [some (.var [.fn 21 [2, 3]]), some (.var [.p (pi (IntKind.i64.wrap (Int.tmod n (13 : Int))))]), some (.var [.p (pi y5)]), some (.var [.p (.sl 1 (List.map encI y3.Counts))])], True, fun _ => ok_law35_BoundaryShares_f2 y14 (IntKind.i64.wrap (Int.tmod n (13 : Int))) y5 y3 y15 h_12, []⟩,
      ⟨some 107, 23, [.one (.p (pi y10)), .one (.ptr 0 0), .one (.ptr 1 0), .one (.ptr 2 0)], [.var [.fn 21 [2, 3]], .var [.p (pi (IntKind.i64.wrap (Int.tmod n (13 : Int))))], .var [.p (pi y5)], .var [.p (.sl 1 (List.map encI y3.Counts))]], [.one (.p (pi y16))], [some (.var [.fn 21 [2, 3]]), some (.var [.p (pi (IntKind.i64.wrap (Int.tmod n (13 : Int))))]), some (.var [.p (pi y5)]), some (.var [.p (.sl 1 (List.map encI y3.Counts))])], True, fun _ => ok_law35_BoundaryShares_f2 y10 (IntKind.i64.wrap (Int.tmod n (13 : Int))) y5 y3 y16 h_13, []⟩]) g_14_0 (⟨124, mkS [(5, .x (.one (.ptr 105 0))), (12, .x (.one (.p (pi y10)))), (15, .x (.one (.fn 23 [114, 107, 106]))), (16, .x (.one (.p (pi y14)))), (122, .x (.one (.p (.val (.bool ((decide (y15 < y16)) || (((0 : Int) == (0 : Int)) && (decide (y14 < y10)))))))))], mkH [(105, .var [.p (.sl 1 (List.map encI y3.Counts))]), (106, .var [.p (pi y5)]), (107, .var [.p (pi (IntKind.i64.wrap (Int.tmod n (13 : Int))))]), (114, .var [.fn 21 [106, 105]])]⟩) ?_
                      refine lok_c ((decide (y15 < y16)) || (((0 : Int) == (0 : Int)) && (decide (y14 < y10)))) ?_ ?_
                      · intro b_14
                        replace H1 := cpos H1 b_14
                        refine lok_rt E0 (⟨124, mkS [(4, .x (.one (.p (.val (.bool false)))))], mkH []⟩) ?_
                        refine lok_ret ?_
                        try simp only [thenL, blockL, ↓reduceIte, reduceCtorEq]
                        have e_1 := k_1 _ (Option.some.inj H1).symm
                        subst e_1
                        try dsimp only at H0
                        obtain rfl := Option.some.inj H0
                        try simp only [thenL, blockL]
                        exact fin_au _ (.inr rfl) [] (⟨124, mkS [(4, .x (.one (.p (.val (.bool false)))))], mkH []⟩) rfl rfl imp_au
                      · intro b_14
                        replace H1 := cneg H1 b_14
                        refine lok_skip ?_
                        try simp only [thenL, blockL, ↓reduceIte, reduceCtorEq]
                        refine lok_rl E0 (⟨124, mkS [(5, .x (.one (.ptr 105 0))), (12, .x (.one (.p (pi y10)))), (15, .x (.one (.fn 23 [114, 107, 106]))), (16, .x (.one (.p (pi (IntKind.i64.wrap (y14 + (1 : Int)))))))], mkH [(105, .var [.p (.sl 1 (List.map encI y3.Counts))]), (106, .var [.p (pi y5)]), (107, .var [.p (pi (IntKind.i64.wrap (Int.tmod n (13 : Int))))]), (114, .var [.fn 21 [106, 105]])]⟩) ?_
                        try simp only [thenL, blockL, ↓reduceIte, reduceCtorEq]
                        exact ⟨(IntKind.i64.wrap (y14 + (1 : Int))), (Option.some.inj H1).symm, imp_au⟩
                  · intro b_16
                    replace H1 := cneg H1 b_16
                    refine lok_exit ?_
                    try simp only [thenL, blockL, ↓reduceIte, reduceCtorEq]
                    have e_1 := k_1 _ (Option.some.inj H1).symm
                    subst e_1
                    try dsimp only at H0
                    try simp only [thenL, blockL, ↓reduceIte, reduceCtorEq]
                    exact ⟨(), H0, imp_au⟩
        · replace H0 := cneg H0 g_9_0
          replace H0 := req_some H0
          obtain ⟨q2_10, H0⟩ := H0
          rcases bcases ((!(((y9 != (0 : Int)) || (y11 != (0 : Int))) || (decide ((IntKind.i64.wrap ((0 : Int) * (12 : Int))) < (IntKind.i64.wrap ((IntKind.i64.wrap (Int.tmod n (13 : Int))) * y5)))))) && (decide (y8 < (y3.Counts.length : Int)))) with g_9_1 | g_9_1
          · replace H0 := cpos H0 g_9_1
            replace H0 := bind_some H0
            obtain ⟨y12, h_9, H0⟩ := H0
            refine lok_etg (Env.of E0 [⟨some 86, 21, [.one (.p (pi (IntKind.i64.wrap (y8 + (1 : Int))))), .one (.ptr 0 0), .one (.ptr 1 0)], [.var [.p (pi y5)], .var [.p (.sl 1 (List.map encI y3.Counts))]], [.one (.p (pi y12))], [some (.var [.p (pi y5)]), some (.var [.p (.sl 1 (List.map encI y3.Counts))])], True, fun _ => ok_law35_BoundaryShares_f1 (IntKind.i64.wrap (y8 + (1 : Int))) y5 y3 y12 h_9, []⟩]) 124 [⟨[(11, .x (.one (.p (pi y9))))], [], [(60, .x (.one (.p (pi y9))))], [], none⟩,
      ⟨[(60, .x (.one (.p (pi y9))))], [], [(61, .x (.one (.p (.val (.bool (y9 != (0 : Int)))))))], [], none⟩,
      ⟨[(61, .x (.one (.p (.val (.bool (y9 != (0 : Int)))))))], [], [(62, .x (.one (.p (.val (.bool (y9 != (0 : Int)))))))], [], none⟩,
      ⟨[(13, .x (.one (.p (pi y11)))), (62, .x (.one (.p (.val (.bool (y9 != (0 : Int)))))))], [], [(63, .wh (!(y9 != (0 : Int))) (.one (.p (pi y11))))], [], none⟩,
      ⟨[(62, .x (.one (.p (.val (.bool (y9 != (0 : Int))))))), (63, .wh (!(y9 != (0 : Int))) (.one (.p (pi y11))))], [], [(64, .wh (!(y9 != (0 : Int))) (.one (.p (.val (.bool (y11 != (0 : Int)))))))], [], none⟩,
      ⟨[(62, .x (.one (.p (.val (.bool (y9 != (0 : Int))))))), (64, .wh (!(y9 != (0 : Int))) (.one (.p (.val (.bool (y11 != (0 : Int)))))))], [], [(65, .x (.one (.p (.val (.bool ((y9 != (0 : Int)) || (y11 != (0 : Int))))))))], [], none⟩,
      ⟨[(65, .x (.one (.p (.val (.bool ((y9 != (0 : Int)) || (y11 != (0 : Int))))))))], [], [(66, .x (.one (.p (.val (.bool ((y9 != (0 : Int)) || (y11 != (0 : Int))))))))], [], none⟩,
      ⟨[(14, .x (.one (.ptr 114 0))), (66, .x (.one (.p (.val (.bool ((y9 != (0 : Int)) || (y11 != (0 : Int))))))))], [(114, some (.var [.fn 21 [106, 105]]))], [(67, .wh false (.one (.fn 21 [106, 105])))], [], none⟩,
      ⟨[(10, .x (.one (.p (pi y8)))), (66, .x (.one (.p (.val (.bool ((y9 != (0 : Int)) || (y11 != (0 : Int))))))))], [], [(68, .wh false (.one (.p (pi y8))))], [], none⟩,
      ⟨[(66, .x (.one (.p (.val (.bool ((y9 != (0 : Int)) || (y11 != (0 : Int)))))))), (67, .wh false (.one (.fn 21 [106, 105]))), (68, .wh false (.one (.p (pi y8))))], [(105, some (.var [.p (.sl 1 (List.map encI y3.Counts))])), (106, some (.var [.p (pi y5)]))], [(69, .wh false (.one (.p (pi (0 : Int)))))], [], none⟩,
      ⟨[(66, .x (.one (.p (.val (.bool ((y9 != (0 : Int)) || (y11 != (0 : Int)))))))), (69, .wh false (.one (.p (pi (0 : Int)))))], [], [(70, .wh false (.one (.p (pi (IntKind.i64.wrap ((0 : Int) * (12 : Int)))))))], [], none⟩,
      ⟨[(7, .x (.one (.ptr 107 0))), (66, .x (.one (.p (.val (.bool ((y9 != (0 : Int)) || (y11 != (0 : Int))))))))], [(107, some (.var [.p (pi (IntKind.i64.wrap (Int.tmod n (13 : Int))))]))], [(71, .wh false (.one (.p (pi (IntKind.i64.wrap (Int.tmod n (13 : Int)))))))], [], none⟩,
      ⟨[(6, .x (.one (.ptr 106 0))), (66, .x (.one (.p (.val (.bool ((y9 != (0 : Int)) || (y11 != (0 : Int))))))))], [(106, some (.var [.p (pi y5)]))], [(72, .wh false (.one (.p (pi y5))))], [], none⟩,
      ⟨[(66, .x (.one (.p (.val (.bool ((y9 != (0 : Int)) || (y11 != (0 : Int)))))))), (71, .wh false (.one (.p (pi (IntKind.i64.wrap (Int.tmod n (13 : Int))))))), (72, .wh false (.one (.p (pi y5))))], [], [(73, .wh false (.one (.p (pi (IntKind.i64.wrap ((IntKind.i64.wrap (Int.tmod n (13 : Int))) * y5))))))], [], none⟩,
      ⟨[(66, .x (.one (.p (.val (.bool ((y9 != (0 : Int)) || (y11 != (0 : Int)))))))), (70, .wh false (.one (.p (pi (IntKind.i64.wrap ((0 : Int) * (12 : Int))))))), (73, .wh false (.one (.p (pi (IntKind.i64.wrap ((IntKind.i64.wrap (Int.tmod n (13 : Int))) * y5))))))], [], [(74, .wh false (.one (.p (.val (.bool (decide ((IntKind.i64.wrap ((0 : Int) * (12 : Int))) < (IntKind.i64.wrap ((IntKind.i64.wrap (Int.tmod n (13 : Int))) * y5)))))))))], [], none⟩,
      ⟨[(66, .x (.one (.p (.val (.bool ((y9 != (0 : Int)) || (y11 != (0 : Int)))))))), (74, .wh false (.one (.p (.val (.bool (decide ((IntKind.i64.wrap ((0 : Int) * (12 : Int))) < (IntKind.i64.wrap ((IntKind.i64.wrap (Int.tmod n (13 : Int))) * y5)))))))))], [], [(75, .x (.one (.p (.val (.bool (((y9 != (0 : Int)) || (y11 != (0 : Int))) || (decide ((IntKind.i64.wrap ((0 : Int) * (12 : Int))) < (IntKind.i64.wrap ((IntKind.i64.wrap (Int.tmod n (13 : Int))) * y5))))))))))], [], none⟩,
      ⟨[(75, .x (.one (.p (.val (.bool (((y9 != (0 : Int)) || (y11 != (0 : Int))) || (decide ((IntKind.i64.wrap ((0 : Int) * (12 : Int))) < (IntKind.i64.wrap ((IntKind.i64.wrap (Int.tmod n (13 : Int))) * y5))))))))))], [], [(76, .x (.one (.p (.val (.bool (((y9 != (0 : Int)) || (y11 != (0 : Int))) || (decide ((IntKind.i64.wrap ((0 : Int) * (12 : Int))) < (IntKind.i64.wrap ((IntKind.i64.wrap (Int.tmod n (13 : Int))) * y5))))))))))], [], none⟩,
      ⟨[(10, .x (.one (.p (pi y8)))), (76, .x (.one (.p (.val (.bool (((y9 != (0 : Int)) || (y11 != (0 : Int))) || (decide ((IntKind.i64.wrap ((0 : Int) * (12 : Int))) < (IntKind.i64.wrap ((IntKind.i64.wrap (Int.tmod n (13 : Int))) * y5))))))))))], [], [(77, .wh (!(((y9 != (0 : Int)) || (y11 != (0 : Int))) || (decide ((IntKind.i64.wrap ((0 : Int) * (12 : Int))) < (IntKind.i64.wrap ((IntKind.i64.wrap (Int.tmod n (13 : Int))) * y5)))))) (.one (.p (pi y8))))], [], none⟩,
      ⟨[(5, .x (.one (.ptr 105 0))), (76, .x (.one (.p (.val (.bool (((y9 != (0 : Int)) || (y11 != (0 : Int))) || (decide ((IntKind.i64.wrap ((0 : Int) * (12 : Int))) < (IntKind.i64.wrap ((IntKind.i64.wrap (Int.tmod n (13 : Int))) * y5))))))))))], [], [(78, .wh (!(((y9 != (0 : Int)) || (y11 != (0 : Int))) || (decide ((IntKind.i64.wrap ((0 : Int) * (12 : Int))) < (IntKind.i64.wrap ((IntKind.i64.wrap (Int.tmod n (13 : Int))) * y5)))))) (.one (.ptr 105 0)))], [], none⟩,
      ⟨[(76, .x (.one (.p (.val (.bool (((y9 != (0 : Int)) || (y11 != (0 : Int))) || (decide ((IntKind.i64.wrap ((0 : Int) * (12 : Int))) < (IntKind.i64.wrap ((IntKind.i64.wrap (Int.tmod n (13 : Int))) * y5)))))))))), (78, .wh (!(((y9 != (0 : Int)) || (y11 != (0 : Int))) || (decide ((IntKind.i64.wrap ((0 : Int) * (12 : Int))) < (IntKind.i64.wrap ((IntKind.i64.wrap (Int.tmod n (13 : Int))) * y5)))))) (.one (.ptr 105 0)))], [(105, some (.var [.p (.sl 1 (List.map encI y3.Counts))]))], [(79, .wh (!(((y9 != (0 : Int)) || (y11 != (0 : Int))) || (decide ((IntKind.i64.wrap ((0 : Int) * (12 : Int))) < (IntKind.i64.wrap ((IntKind.i64.wrap (Int.tmod n (13 : Int))) * y5)))))) (.one (.p (.sl 1 (List.map encI y3.Counts)))))], [], none⟩,
      ⟨[(76, .x (.one (.p (.val (.bool (((y9 != (0 : Int)) || (y11 != (0 : Int))) || (decide ((IntKind.i64.wrap ((0 : Int) * (12 : Int))) < (IntKind.i64.wrap ((IntKind.i64.wrap (Int.tmod n (13 : Int))) * y5)))))))))), (79, .wh (!(((y9 != (0 : Int)) || (y11 != (0 : Int))) || (decide ((IntKind.i64.wrap ((0 : Int) * (12 : Int))) < (IntKind.i64.wrap ((IntKind.i64.wrap (Int.tmod n (13 : Int))) * y5)))))) (.one (.p (.sl 1 (List.map encI y3.Counts)))))], [], [(80, .wh (!(((y9 != (0 : Int)) || (y11 != (0 : Int))) || (decide ((IntKind.i64.wrap ((0 : Int) * (12 : Int))) < (IntKind.i64.wrap ((IntKind.i64.wrap (Int.tmod n (13 : Int))) * y5)))))) (.one (.p (pi (y3.Counts.length : Int)))))], [], none⟩,
      ⟨[(76, .x (.one (.p (.val (.bool (((y9 != (0 : Int)) || (y11 != (0 : Int))) || (decide ((IntKind.i64.wrap ((0 : Int) * (12 : Int))) < (IntKind.i64.wrap ((IntKind.i64.wrap (Int.tmod n (13 : Int))) * y5)))))))))), (77, .wh (!(((y9 != (0 : Int)) || (y11 != (0 : Int))) || (decide ((IntKind.i64.wrap ((0 : Int) * (12 : Int))) < (IntKind.i64.wrap ((IntKind.i64.wrap (Int.tmod n (13 : Int))) * y5)))))) (.one (.p (pi y8)))), (80, .wh (!(((y9 != (0 : Int)) || (y11 != (0 : Int))) || (decide ((IntKind.i64.wrap ((0 : Int) * (12 : Int))) < (IntKind.i64.wrap ((IntKind.i64.wrap (Int.tmod n (13 : Int))) * y5)))))) (.one (.p (pi (y3.Counts.length : Int)))))], [], [(81, .wh (!(((y9 != (0 : Int)) || (y11 != (0 : Int))) || (decide ((IntKind.i64.wrap ((0 : Int) * (12 : Int))) < (IntKind.i64.wrap ((IntKind.i64.wrap (Int.tmod n (13 : Int))) * y5)))))) (.one (.p (.val (.bool (decide (y8 < (y3.Counts.length : Int))))))))], [], none⟩,
      ⟨[(76, .x (.one (.p (.val (.bool (((y9 != (0 : Int)) || (y11 != (0 : Int))) || (decide ((IntKind.i64.wrap ((0 : Int) * (12 : Int))) < (IntKind.i64.wrap ((IntKind.i64.wrap (Int.tmod n (13 : Int))) * y5)))))))))), (81, .wh (!(((y9 != (0 : Int)) || (y11 != (0 : Int))) || (decide ((IntKind.i64.wrap ((0 : Int) * (12 : Int))) < (IntKind.i64.wrap ((IntKind.i64.wrap (Int.tmod n (13 : Int))) * y5)))))) (.one (.p (.val (.bool (decide (y8 < (y3.Counts.length : Int))))))))], [], [(82, .wh (!(((y9 != (0 : Int)) || (y11 != (0 : Int))) || (decide ((IntKind.i64.wrap ((0 : Int) * (12 : Int))) < (IntKind.i64.wrap ((IntKind.i64.wrap (Int.tmod n (13 : Int))) * y5)))))) (.one (.p (.val (.bool (decide (y8 < (y3.Counts.length : Int))))))))], [], none⟩,
      ⟨[(14, .x (.one (.ptr 114 0))), (82, .wh (!(((y9 != (0 : Int)) || (y11 != (0 : Int))) || (decide ((IntKind.i64.wrap ((0 : Int) * (12 : Int))) < (IntKind.i64.wrap ((IntKind.i64.wrap (Int.tmod n (13 : Int))) * y5)))))) (.one (.p (.val (.bool (decide (y8 < (y3.Counts.length : Int))))))))], [(114, some (.var [.fn 21 [106, 105]]))], [(83, .wh true (.one (.fn 21 [106, 105])))], [], none⟩,
      ⟨[(10, .x (.one (.p (pi y8)))), (82, .wh (!(((y9 != (0 : Int)) || (y11 != (0 : Int))) || (decide ((IntKind.i64.wrap ((0 : Int) * (12 : Int))) < (IntKind.i64.wrap ((IntKind.i64.wrap (Int.tmod n (13 : Int))) * y5)))))) (.one (.p (.val (.bool (decide (y8 < (y3.Counts.length : Int))))))))], [], [(84, .wh true (.one (.p (pi y8))))], [], none⟩,
      ⟨[(82, .wh (!(((y9 != (0 : Int)) || (y11 != (0 : Int))) || (decide ((IntKind.i64.wrap ((0 : Int) * (12 : Int))) < (IntKind.i64.wrap ((IntKind.i64.wrap (Int.tmod n (13 : Int))) * y5)))))) (.one (.p (.val (.bool (decide (y8 < (y3.Counts.length : Int)))))))), (84, .wh true (.one (.p (pi y8))))], [], [(85, .wh true (.one (.p (pi (IntKind.i64.wrap (y8 + (1 : Int)))))))], [], none⟩,
      ⟨[(82, .wh (!(((y9 != (0 : Int)) || (y11 != (0 : Int))) || (decide ((IntKind.i64.wrap ((0 : Int) * (12 : Int))) < (IntKind.i64.wrap ((IntKind.i64.wrap (Int.tmod n (13 : Int))) * y5)))))) (.one (.p (.val (.bool (decide (y8 < (y3.Counts.length : Int)))))))), (83, .wh true (.one (.fn 21 [106, 105]))), (85, .wh true (.one (.p (pi (IntKind.i64.wrap (y8 + (1 : Int)))))))], [(105, some (.var [.p (.sl 1 (List.map encI y3.Counts))])), (106, some (.var [.p (pi y5)]))], [(86, .x (.one (.p (pi y12))))], [], none⟩,
      ⟨[(82, .wh (!(((y9 != (0 : Int)) || (y11 != (0 : Int))) || (decide ((IntKind.i64.wrap ((0 : Int) * (12 : Int))) < (IntKind.i64.wrap ((IntKind.i64.wrap (Int.tmod n (13 : Int))) * y5)))))) (.one (.p (.val (.bool (decide (y8 < (y3.Counts.length : Int)))))))), (86, .x (.one (.p (pi y12))))], [], [(87, .wh true (.one (.p (pi (IntKind.i64.wrap (y12 * (12 : Int)))))))], [], none⟩,
      ⟨[(7, .x (.one (.ptr 107 0))), (82, .wh (!(((y9 != (0 : Int)) || (y11 != (0 : Int))) || (decide ((IntKind.i64.wrap ((0 : Int) * (12 : Int))) < (IntKind.i64.wrap ((IntKind.i64.wrap (Int.tmod n (13 : Int))) * y5)))))) (.one (.p (.val (.bool (decide (y8 < (y3.Counts.length : Int))))))))], [(107, some (.var [.p (pi (IntKind.i64.wrap (Int.tmod n (13 : Int))))]))], [(88, .wh true (.one (.p (pi (IntKind.i64.wrap (Int.tmod n (13 : Int)))))))], [], none⟩,
      ⟨[(6, .x (.one (.ptr 106 0))), (82, .wh (!(((y9 != (0 : Int)) || (y11 != (0 : Int))) || (decide ((IntKind.i64.wrap ((0 : Int) * (12 : Int))) < (IntKind.i64.wrap ((IntKind.i64.wrap (Int.tmod n (13 : Int))) * y5)))))) (.one (.p (.val (.bool (decide (y8 < (y3.Counts.length : Int))))))))], [(106, some (.var [.p (pi y5)]))], [(89, .wh true (.one (.p (pi y5))))], [], none⟩,
      ⟨[(82, .wh (!(((y9 != (0 : Int)) || (y11 != (0 : Int))) || (decide ((IntKind.i64.wrap ((0 : Int) * (12 : Int))) < (IntKind.i64.wrap ((IntKind.i64.wrap (Int.tmod n (13 : Int))) * y5)))))) (.one (.p (.val (.bool (decide (y8 < (y3.Counts.length : Int)))))))), (88, .wh true (.one (.p (pi (IntKind.i64.wrap (Int.tmod n (13 : Int))))))), (89, .wh true (.one (.p (pi y5))))], [], [(90, .wh true (.one (.p (pi (IntKind.i64.wrap ((IntKind.i64.wrap (Int.tmod n (13 : Int))) * y5))))))], [], none⟩] (And.intro g_9_0 g_9_1) (⟨124, mkS [(5, .x (.one (.ptr 105 0))), (6, .x (.one (.ptr 106 0))), (7, .x (.one (.ptr 107 0))), (12, .x (.one (.p (pi y10)))), (14, .x (.one (.ptr 114 0))), (93, .x (.one (.p (.val (.bool ((((y9 != (0 : Int)) || (y11 != (0 : Int))) || (decide ((IntKind.i64.wrap ((0 : Int) * (12 : Int))) < (IntKind.i64.wrap ((IntKind.i64.wrap (Int.tmod n (13 : Int))) * y5))))) || ((decide (y8 < (y3.Counts.length : Int))) && (decide ((IntKind.i64.wrap ((IntKind.i64.wrap (Int.tmod n (13 : Int))) * y5)) ≤ (IntKind.i64.wrap (y12 * (12 : Int))))))))))))], mkH [(105, .var [.p (.sl 1 (List.map encI y3.Counts))]), (106, .var [.p (pi y5)]), (107, .var [.p (pi (IntKind.i64.wrap (Int.tmod n (13 : Int))))]), (114, .var [.fn 21 [106, 105]])]⟩) (by kernel_rfl) (by kernel_rfl) (by kernel_rfl) rfl rfl rfl ?_
            refine lok_c ((((y9 != (0 : Int)) || (y11 != (0 : Int))) || (decide ((IntKind.i64.wrap ((0 : Int) * (12 : Int))) < (IntKind.i64.wrap ((IntKind.i64.wrap (Int.tmod n (13 : Int))) * y5))))) || ((decide (y8 < (y3.Counts.length : Int))) && (decide ((IntKind.i64.wrap ((IntKind.i64.wrap (Int.tmod n (13 : Int))) * y5)) ≤ (IntKind.i64.wrap (y12 * (12 : Int))))))) ?_ ?_
            · intro b_17
              replace H0 := cpos H0 b_17
              refine lok_rt E0 (⟨124, mkS [(4, .x (.one (.p (.val (.bool false)))))], mkH []⟩) ?_
              refine lok_ret ?_
              obtain rfl := Option.some.inj H0
              try simp only [thenL, blockL]
              exact fin_au _ (.inr rfl) [] (⟨124, mkS [(4, .x (.one (.p (.val (.bool false)))))], mkH []⟩) rfl rfl imp_au
            · intro b_17
              replace H0 := cneg H0 b_17
              refine lok_skip ?_
              try simp only [thenL, blockL, ↓reduceIte, reduceCtorEq]
              refine lok_rt E0 (⟨124, mkS [(5, .x (.one (.ptr 105 0))), (12, .x (.one (.p (pi y10)))), (15, .x (.one (.fn 23 [114, 107, 106])))], mkH [(105, .var [.p (.sl 1 (List.map encI y3.Counts))]), (106, .var [.p (pi y5)]), (107, .var [.p (pi (IntKind.i64.wrap (Int.tmod n (13 : Int))))]), (114, .var [.fn 21 [106, 105]])]⟩) ?_
              refine lok_join (fun x_ : Unit => law35_BoundaryShares_j5 = some r_) (fun x_ => ⟨124, mkS [], mkH []⟩) ?hylaw35_BoundaryShares_j5 ?hxlaw35_BoundaryShares_j5
              case hylaw35_BoundaryShares_j5 =>
                rintro _ H0
                try dsimp only at H0 ⊢
                unfold law35_BoundaryShares_j5 at H0
                replace H0 := bind_some H0
                obtain ⟨y13, h_10, H0⟩ := H0
                refine lok_rt (Env.of E0 [⟨some 123, 9, [], [], [.one (.p (.val (.bool y13)))], [], True, fun _ => ok_law35_sane y13 h_10, []⟩]) (⟨124, mkS [(4, .x (.one (.p (.val (.bool y13)))))], mkH []⟩) ?_
                refine lok_ret ?_
                obtain rfl := Option.some.inj H0
                try simp only [thenL, blockL]
                exact fin_au _ (.inr rfl) [] (⟨124, mkS [(4, .x (.one (.p (.val (.bool y13)))))], mkH []⟩) rfl rfl imp_au
              case hxlaw35_BoundaryShares_j5 =>
                refine lok_rt E0 (⟨124, mkS [(5, .x (.one (.ptr 105 0))), (12, .x (.one (.p (pi y10)))), (15, .x (.one (.fn 23 [114, 107, 106]))), (16, .x (.one (.p (pi (0 : Int)))))], mkH [(105, .var [.p (.sl 1 (List.map encI y3.Counts))]), (106, .var [.p (pi y5)]), (107, .var [.p (pi (IntKind.i64.wrap (Int.tmod n (13 : Int))))]), (114, .var [.fn 21 [106, 105]])]⟩) ?_
                refine lok_block ?_
                replace H0 := bind_some H0
                obtain ⟨v_11, hv_11, H0⟩ := H0
                refine lok_iter (fun x_ => ⟨124, mkS [(5, .x (.one (.ptr 105 0))), (12, .x (.one (.p (pi y10)))), (15, .x (.one (.fn 23 [114, 107, 106]))), (16, .x (.one (.p (pi x_))))], mkH [(105, .var [.p (.sl 1 (List.map encI y3.Counts))]), (106, .var [.p (pi y5)]), (107, .var [.p (pi (IntKind.i64.wrap (Int.tmod n (13 : Int))))]), (114, .var [.fn 21 [106, 105]])]⟩) hv_11 imp_au ?_
                · rintro y14 o_1 H1 k_1
                  unfold law35_BoundaryShares_l6 at H1
                  try dsimp only at H1 ⊢
                  refine lok_seq ?_
                  refine lok_rt E0 (⟨124, mkS [(5, .x (.one (.ptr 105 0))), (12, .x (.one (.p (pi y10)))), (15, .x (.one (.fn 23 [114, 107, 106]))), (16, .x (.one (.p (pi y14)))), (99, .x (.one (.p (.val (.bool (decide (y14 ≤ (y3.Counts.length : Int))))))))], mkH [(105, .var [.p (.sl 1 (List.map encI y3.Counts))]), (106, .var [.p (pi y5)]), (107, .var [.p (pi (IntKind.i64.wrap (Int.tmod n (13 : Int))))]), (114, .var [.fn 21 [106, 105]])]⟩) ?_
                  refine lok_c (decide (y14 ≤ (y3.Counts.length : Int))) ?_ ?_
                  · intro b_16
                    replace H1 := cpos H1 b_16
                    refine lok_skip ?_
                    try simp only [thenL, blockL, ↓reduceIte, reduceCtorEq]
                    refine lok_seq ?_
                    refine lok_block ?_
                    replace H1 := bind_some H1
                    obtain ⟨y15, h_12, H1⟩ := H1
                    replace H1 := bind_some H1
                    obtain ⟨y16, h_13, H1⟩ := H1
                    rcases bcases (!(decide (y15 < y16))) with g_14_0 | g_14_0
                    · replace H1 := cpos H1 g_14_0
                      replace H1 := bind_some H1
                      obtain ⟨y17, h_14, H1⟩ := H1
                      replace H1 := bind_some H1
                      obtain ⟨y18, h_15, H1⟩ := H1
                      refine lok_rtg (Env.of E0 [⟨some 104, 23, [.one (.p (pi y14)), .one (.ptr 0 0), .one (.ptr 1 0), .one (.ptr 2 0)], [.var [.fn 21 [2, 3]], .var [.p (pi (IntKind.i64.wrap (Int.tmod n (13 : Int))))], .var [.p (pi y5)], .var [.p (.sl 1 (List.map encI y3.Counts))]], [.one (.p (pi y15))], [some (.var [.fn 21 [2, 3]]), some (.var [.p (pi (IntKind.i64.wrap (Int.tmod n (13 : Int))))]), some (.var [.p (pi y5)]), some (.var [.p (.sl 1 (List.map encI y3.Counts))])], True, fun _ => ok_law35_BoundaryShares_f2 y14 (IntKind.i64.wrap (Int.tmod n (13 : Int))) y5 y3 y15 h_12, []⟩,
      ⟨some 107, 23, [.one (.p (pi y10)), .one (.ptr 0 0), .one (.ptr 1 0), .one (.ptr 2 0)], [.var [.fn 21 [2, 3]], .var [.p (pi (IntKind.i64.wrap (Int.tmod n (13 : Int))))], .var [.p (pi y5)], .var [.p (.sl 1 (List.map encI y3.Counts))]], [.one (.p (pi y16))], [some (.var [.fn 21 [2, 3]]), some (.var [.p (pi (IntKind.i64.wrap (Int.tmod n (13 : Int))))]), some (.var [.p (pi y5)]), some (.var [.p (.sl 1 (List.map encI y3.Counts))])], True, fun _ => ok_law35_BoundaryShares_f2 y10 (IntKind.i64.wrap (Int.tmod n (13 : Int))) y5 y3 y16 h_13, []⟩,
      ⟨some 112, 23, [.one (.p (pi y14)), .one (.ptr 0 0), .one (.ptr 1 0), .one (.ptr 2 0)], [.var [.fn 21 [2, 3]], .var [.p (pi (IntKind.i64.wrap (Int.tmod n (13 : Int))))], .var [.p (pi y5)], .var [.p (.sl 1 (List.map encI y3.Counts))]], [.one (.p (pi y17))], [some (.var [.fn 21 [2, 3]]), some (.var [.p (pi (IntKind.i64.wrap (Int.tmod n (13 : Int))))]), some (.var [.p (pi y5)]), some (.var [.p (.sl 1 (List.map encI y3.Counts))])], True, fun _ => ok_law35_BoundaryShares_f2 y14 (IntKind.i64.wrap (Int.tmod n (13 : Int))) y5 y3 y17 h_14, []⟩,
      ⟨some 115, 23, [.one (.p (pi y10)), .one (.ptr 0 0), .one (.ptr 1 0), .one (.ptr 2 0)], [.var [.fn 21 [2, 3]], .var [.p (pi (IntKind.i64.wrap (Int.tmod n (13 : Int))))], .var [.p (pi y5)], .var [.p (.sl 1 (List.map encI y3.Counts))]], [.one (.p (pi y18))], [some (.var [.fn 21 [2, 3]]), some (.var [.p (pi (IntKind.i64.wrap (Int.tmod n (13 : Int))))]), some (.var [.p (pi y5)]), some (.var [.p (.sl 1 (List.map encI y3.Counts))])], True, fun _ => ok_law35_BoundaryShares_f2 y10 (IntKind.i64.wrap (Int.tmod n (13 : Int))) y5 y3 y18 h_15, []⟩]) g_14_0 (⟨124, mkS [(5, .x (.one (.ptr 105 0))), (12, .x (.one (.p (pi y10)))), (15, .x (.one (.fn 23 [114, 107, 106]))), (16, .x (.one (.p (pi y14)))), (112, .x (.one (.p (pi y17)))), (115, .x (.one (.p (pi y18)))), (122, .x (.one (.p (.val (.bool ((decide (y15 < y16)) || ((y17 == y18) && (decide (y14 < y10)))))))))], mkH [(105, .var [.p (.sl 1 (List.map encI y3.Counts))]), (106, .var [.p (pi y5)]), (107, .var [.p (pi (IntKind.i64.wrap (Int.tmod n (13 : Int))))]), (114, .var [.fn 21 [106, 105]])]⟩) ?_
                      refine lok_c ((decide (y15 < y16)) || ((y17 == y18) && (decide (y14 < y10)))) ?_ ?_
                      · intro b_16
                        replace H1 := cpos H1 b_16
                        refine lok_rt E0 (⟨124, mkS [(4, .x (.one (.p (.val (.bool false)))))], mkH []⟩) ?_
                        refine lok_ret ?_
                        try simp only [thenL, blockL, ↓reduceIte, reduceCtorEq]
                        have e_1 := k_1 _ (Option.some.inj H1).symm
                        subst e_1
                        try dsimp only at H0
                        obtain rfl := Option.some.inj H0
                        try simp only [thenL, blockL]
                        exact fin_au _ (.inr rfl) [] (⟨124, mkS [(4, .x (.one (.p (.val (.bool false)))))], mkH []⟩) rfl rfl imp_au
                      · intro b_16
                        replace H1 := cneg H1 b_16
                        refine lok_skip ?_
                        try simp only [thenL, blockL, ↓reduceIte, reduceCtorEq]
                        refine lok_rl E0 (⟨124, mkS [(5, .x (.one (.ptr 105 0))), (12, .x (.one (.p (pi y10)))), (15, .x (.one (.fn 23 [114, 107, 106]))), (16, .x (.one (.p (pi (IntKind.i64.wrap (y14 + (1 : Int))))))), (112, .x (.one (.p (pi y17)))), (115, .x (.one (.p (pi y18))))], mkH [(105, .var [.p (.sl 1 (List.map encI y3.Counts))]), (106, .var [.p (pi y5)]), (107, .var [.p (pi (IntKind.i64.wrap (Int.tmod n (13 : Int))))]), (114, .var [.fn 21 [106, 105]])]⟩) ?_
                        try simp only [thenL, blockL, ↓reduceIte, reduceCtorEq]
                        exact ⟨(IntKind.i64.wrap (y14 + (1 : Int))), (Option.some.inj H1).symm, imp_au⟩
                    · replace H1 := cneg H1 g_14_0
                      replace H1 := req_some H1
                      obtain ⟨q_15, H1⟩ := H1
                      refine lok_rtg (Env.of E0 [⟨some 104, 23, [.one (.p (pi y14)), .one (.ptr 0 0), .one (.ptr 1 0), .one (.ptr 2 0)], [.var [.fn 21 [2, 3]], .var [.p (pi (IntKind.i64.wrap (Int.tmod n (13 : Int))))], .var [.p (pi y5)], .var [.p (.sl 1 (List.map encI y3.Counts))]], [.one (.p (pi y15))], [some (.var [.fn 21 [2, 3]]), some (.var [.p (pi (IntKind.i64.wrap (Int.tmod n (13 : Int))))]), some (.var [.p (pi y5)]), some (.var [.p (.sl 1 (List.map encI y3.Counts))])], True, fun _ => ok_law35_BoundaryShares_f2 y14 (IntKind.i64.wrap (Int.tmod n (13 : Int))) y5 y3 y15 h_12, []⟩,
      ⟨some 107, 23, [.one (.p (pi y10)), .one (.ptr 0 0), .one (.ptr 1 0), .one (.ptr 2 0)], [.var [.fn 21 [2, 3]], .var [.p (pi (IntKind.i64.wrap (Int.tmod n (13 : Int))))], .var [.p (pi y5)], .var [.p (.sl 1 (List.map encI y3.Counts))]], [.one (.p (pi y16))], [some (.var [.fn 21 [2, 3]]), some (.var [.p (pi (IntKind.i64.wrap (Int.tmod n (13 : Int))))]), some (.var [.p (pi y5)]), some (.var [.p (.sl 1 (List.map encI y3.Counts))])], True, fun _ => ok_law35_BoundaryShares_f2 y10 (IntKind.i64.wrap (Int.tmod n (13 : Int))) y5 y3 y16 h_13, []⟩]) g_14_0 (⟨124, mkS [(5, .x (.one (.ptr 105 0))), (12, .x (.one (.p (pi y10)))), (15, .x (.one (.fn 23 [114, 107, 106]))), (16, .x (.one (.p (pi y14)))), (122, .x (.one (.p (.val (.bool ((decide (y15 < y16)) || (((0 : Int) == (0 : Int)) && (decide (y14 < y10)))))))))], mkH [(105, .var [.p (.sl 1 (List.map encI y3.Counts))]), (106, .var [.p (pi y5)]), (107, .var [.p (pi (IntKind.i64.wrap (Int.tmod n (13 : Int))))]), (114, .var [.fn 21 [106, 105]])]⟩) ?_
                      refine lok_c ((decide (y15 < y16)) || (((0 : Int) == (0 : Int)) && (decide (y14 < y10)))) ?_ ?_
                      · intro b_14
                        replace H1 := cpos H1 b_14
                        refine lok_rt E0 (⟨124, mkS [(4, .x (.one (.p (.val (.bool false)))))], mkH []⟩) ?_
                        refine lok_ret ?_
                        try simp only [thenL, blockL, ↓reduceIte, reduceCtorEq]
                        have e_1 := k_1 _ (Option.some.inj H1).symm
                        subst e_1
                        try dsimp only at H0
                        obtain rfl := Option.some.inj H0
                        try simp only [thenL, blockL]
                        exact fin_au _ (.inr rfl) [] (⟨124, mkS [(4, .x (.one (.p (.val (.bool false)))))], mkH []⟩) rfl rfl imp_au
                      · intro b_14
                        replace H1 := cneg H1 b_14
                        refine lok_skip ?_
                        try simp only [thenL, blockL, ↓reduceIte, reduceCtorEq]
                        refine lok_rl E0 (⟨124, mkS [(5, .x (.one (.ptr 105 0))), (12, .x (.one (.p (pi y10)))), (15, .x (.one (.fn 23 [114, 107, 106]))), (16, .x (.one (.p (pi (IntKind.i64.wrap (y14 + (1 : Int)))))))], mkH [(105, .var [.p (.sl 1 (List.map encI y3.Counts))]), (106, .var [.p (pi y5)]), (107, .var [.p (pi (IntKind.i64.wrap (Int.tmod n (13 : Int))))]), (114, .var [.fn 21 [106, 105]])]⟩) ?_
                        try simp only [thenL, blockL, ↓reduceIte, reduceCtorEq]
                        exact ⟨(IntKind.i64.wrap (y14 + (1 : Int))), (Option.some.inj H1).symm, imp_au⟩
                  · intro b_16
                    replace H1 := cneg H1 b_16
                    refine lok_exit ?_
                    try simp only [thenL, blockL, ↓reduceIte, reduceCtorEq]
                    have e_1 := k_1 _ (Option.some.inj H1).symm
                    subst e_1
                    try dsimp only at H0
                    try simp only [thenL, blockL, ↓reduceIte, reduceCtorEq]
                    exact ⟨(), H0, imp_au⟩
          · replace H0 := cneg H0 g_9_1
            replace H0 := req_some H0
            obtain ⟨q_17, H0⟩ := H0
            refine lok_etg E0 124 [⟨[(11, .x (.one (.p (pi y9))))], [], [(60, .x (.one (.p (pi y9))))], [], none⟩,
      ⟨[(60, .x (.one (.p (pi y9))))], [], [(61, .x (.one (.p (.val (.bool (y9 != (0 : Int)))))))], [], none⟩,
      ⟨[(61, .x (.one (.p (.val (.bool (y9 != (0 : Int)))))))], [], [(62, .x (.one (.p (.val (.bool (y9 != (0 : Int)))))))], [], none⟩,
      ⟨[(13, .x (.one (.p (pi y11)))), (62, .x (.one (.p (.val (.bool (y9 != (0 : Int)))))))], [], [(63, .wh (!(y9 != (0 : Int))) (.one (.p (pi y11))))], [], none⟩,
      ⟨[(62, .x (.one (.p (.val (.bool (y9 != (0 : Int))))))), (63, .wh (!(y9 != (0 : Int))) (.one (.p (pi y11))))], [], [(64, .wh (!(y9 != (0 : Int))) (.one (.p (.val (.bool (y11 != (0 : Int)))))))], [], none⟩,
      ⟨[(62, .x (.one (.p (.val (.bool (y9 != (0 : Int))))))), (64, .wh (!(y9 != (0 : Int))) (.one (.p (.val (.bool (y11 != (0 : Int)))))))], [], [(65, .x (.one (.p (.val (.bool ((y9 != (0 : Int)) || (y11 != (0 : Int))))))))], [], none⟩,
      ⟨[(65, .x (.one (.p (.val (.bool ((y9 != (0 : Int)) || (y11 != (0 : Int))))))))], [], [(66, .x (.one (.p (.val (.bool ((y9 != (0 : Int)) || (y11 != (0 : Int))))))))], [], none⟩,
      ⟨[(14, .x (.one (.ptr 114 0))), (66, .x (.one (.p (.val (.bool ((y9 != (0 : Int)) || (y11 != (0 : Int))))))))], [(114, some (.var [.fn 21 [106, 105]]))], [(67, .wh false (.one (.fn 21 [106, 105])))], [], none⟩,
      ⟨[(10, .x (.one (.p (pi y8)))), (66, .x (.one (.p (.val (.bool ((y9 != (0 : Int)) || (y11 != (0 : Int))))))))], [], [(68, .wh false (.one (.p (pi y8))))], [], none⟩,
      ⟨[(66, .x (.one (.p (.val (.bool ((y9 != (0 : Int)) || (y11 != (0 : Int)))))))), (67, .wh false (.one (.fn 21 [106, 105]))), (68, .wh false (.one (.p (pi y8))))], [(105, some (.var [.p (.sl 1 (List.map encI y3.Counts))])), (106, some (.var [.p (pi y5)]))], [(69, .wh false (.one (.p (pi (0 : Int)))))], [], none⟩,
      ⟨[(66, .x (.one (.p (.val (.bool ((y9 != (0 : Int)) || (y11 != (0 : Int)))))))), (69, .wh false (.one (.p (pi (0 : Int)))))], [], [(70, .wh false (.one (.p (pi (IntKind.i64.wrap ((0 : Int) * (12 : Int)))))))], [], none⟩,
      ⟨[(7, .x (.one (.ptr 107 0))), (66, .x (.one (.p (.val (.bool ((y9 != (0 : Int)) || (y11 != (0 : Int))))))))], [(107, some (.var [.p (pi (IntKind.i64.wrap (Int.tmod n (13 : Int))))]))], [(71, .wh false (.one (.p (pi (IntKind.i64.wrap (Int.tmod n (13 : Int)))))))], [], none⟩,
      ⟨[(6, .x (.one (.ptr 106 0))), (66, .x (.one (.p (.val (.bool ((y9 != (0 : Int)) || (y11 != (0 : Int))))))))], [(106, some (.var [.p (pi y5)]))], [(72, .wh false (.one (.p (pi y5))))], [], none⟩,
      ⟨[(66, .x (.one (.p (.val (.bool ((y9 != (0 : Int)) || (y11 != (0 : Int)))))))), (71, .wh false (.one (.p (pi (IntKind.i64.wrap (Int.tmod n (13 : Int))))))), (72, .wh false (.one (.p (pi y5))))], [], [(73, .wh false (.one (.p (pi (IntKind.i64.wrap ((IntKind.i64.wrap (Int.tmod n (13 : Int))) * y5))))))], [], none⟩,
      ⟨[(66, .x (.one (.p (.val (.bool ((y9 != (0 : Int)) || (y11 != (0 : Int)))))))), (70, .wh false (.one (.p (pi (IntKind.i64.wrap ((0 : Int) * (12 : Int))))))), (73, .wh false (.one (.p (pi (IntKind.i64.wrap ((IntKind.i64.wrap (Int.tmod n (13 : Int))) * y5))))))], [], [(74, .wh false (.one (.p (.val (.bool (decide ((IntKind.i64.wrap ((0 : Int) * (12 : Int))) < (IntKind.i64.wrap ((IntKind.i64.wrap (Int.tmod n (13 : Int))) * y5)))))))))], [], none⟩,
      ⟨[(66, .x (.one (.p (.val (.bool ((y9 != (0 : Int)) || (y11 != (0 : Int)))))))), (74, .wh false (.one (.p (.val (.bool (decide ((IntKind.i64.wrap ((0 : Int) * (12 : Int))) < (IntKind.i64.wrap ((IntKind.i64.wrap (Int.tmod n (13 : Int))) * y5)))))))))], [], [(75, .x (.one (.p (.val (.bool (((y9 != (0 : Int)) || (y11 != (0 : Int))) || (decide ((IntKind.i64.wrap ((0 : Int) * (12 : Int))) < (IntKind.i64.wrap ((IntKind.i64.wrap (Int.tmod n (13 : Int))) * y5))))))))))], [], none⟩,
      ⟨[(75, .x (.one (.p (.val (.bool (((y9 != (0 : Int)) || (y11 != (0 : Int))) || (decide ((IntKind.i64.wrap ((0 : Int) * (12 : Int))) < (IntKind.i64.wrap ((IntKind.i64.wrap (Int.tmod n (13 : Int))) * y5))))))))))], [], [(76, .x (.one (.p (.val (.bool (((y9 != (0 : Int)) || (y11 != (0 : Int))) || (decide ((IntKind.i64.wrap ((0 : Int) * (12 : Int))) < (IntKind.i64.wrap ((IntKind.i64.wrap (Int.tmod n (13 : Int))) * y5))))))))))], [], none⟩,
      ⟨[(10, .x (.one (.p (pi y8)))), (76, .x (.one (.p (.val (.bool (((y9 != (0 : Int)) || (y11 != (0 : Int))) || (decide ((IntKind.i64.wrap ((0 : Int) * (12 : Int))) < (IntKind.i64.wrap ((IntKind.i64.wrap (Int.tmod n (13 : Int))) * y5))))))))))], [], [(77, .wh (!(((y9 != (0 : Int)) || (y11 != (0 : Int))) || (decide ((IntKind.i64.wrap ((0 : Int) * (12 : Int))) < (IntKind.i64.wrap ((IntKind.i64.wrap (Int.tmod n (13 : Int))) * y5)))))) (.one (.p (pi y8))))], [], none⟩,
      ⟨[(5, .x (.one (.ptr 105 0))), (76, .x (.one (.p (.val (.bool (((y9 != (0 : Int)) || (y11 != (0 : Int))) || (decide ((IntKind.i64.wrap ((0 : Int) * (12 : Int))) < (IntKind.i64.wrap ((IntKind.i64.wrap (Int.tmod n (13 : Int))) * y5))))))))))], [], [(78, .wh (!(((y9 != (0 : Int)) || (y11 != (0 : Int))) || (decide ((IntKind.i64.wrap ((0 : Int) * (12 : Int))) < (IntKind.i64.wrap ((IntKind.i64.wrap (Int.tmod n (13 : Int))) * y5)))))) (.one (.ptr 105 0)))], [], none⟩,
      ⟨[(76, .x (.one (.p (.val (.bool (((y9 != (0 : Int)) || (y11 != (0 : Int))) || (decide ((IntKind.i64.wrap ((0 : Int) * (12 : Int))) < (IntKind.i64.wrap ((IntKind.i64.wrap (Int.tmod n (13 : Int))) * y5)))))))))), (78, .wh (!(((y9 != (0 : Int)) || (y11 != (0 : Int))) || (decide ((IntKind.i64.wrap ((0 : Int) * (12 : Int))) < (IntKind.i64.wrap ((IntKind.i64.wrap (Int.tmod n (13 : Int))) * y5)))))) (.one (.ptr 105 0)))], [(105, some (.var [.p (.sl 1 (List.map encI y3.Counts))]))], [(79, .wh (!(((y9 != (0 : Int)) || (y11 != (0 : Int))) || (decide ((IntKind.i64.wrap ((0 : Int) * (12 : Int))) < (IntKind.i64.wrap ((IntKind.i64.wrap (Int.tmod n (13 : Int))) * y5)))))) (.one (.p (.sl 1 (List.map encI y3.Counts)))))], [], none⟩,
      ⟨[(76, .x (.one (.p (.val (.bool (((y9 != (0 : Int)) || (y11 != (0 : Int))) || (decide ((IntKind.i64.wrap ((0 : Int) * (12 : Int))) < (IntKind.i64.wrap ((IntKind.i64.wrap (Int.tmod n (13 : Int))) * y5)))))))))), (79, .wh (!(((y9 != (0 : Int)) || (y11 != (0 : Int))) || (decide ((IntKind.i64.wrap ((0 : Int) * (12 : Int))) < (IntKind.i64.wrap ((IntKind.i64.wrap (Int.tmod n (13 : Int))) * y5)))))) (.one (.p (.sl 1 (List.map encI y3.Counts)))))], [], [(80, .wh (!(((y9 != (0 : Int)) || (y11 != (0 : Int))) || (decide ((IntKind.i64.wrap ((0 : Int) * (12 : Int))) < (IntKind.i64.wrap ((IntKind.i64.wrap (Int.tmod n (13 : Int))) * y5)))))) (.one (.p (pi (y3.Counts.length : Int)))))], [], none⟩,
      ⟨[(76, .x (.one (.p (.val (.bool (((y9 != (0 : Int)) || (y11 != (0 : Int))) || (decide ((IntKind.i64.wrap ((0 : Int) * (12 : Int))) < (IntKind.i64.wrap ((IntKind.i64.wrap (Int.tmod n (13 : Int))) * y5)))))))))), (77, .wh (!(((y9 != (0 : Int)) || (y11 != (0 : Int))) || (decide ((IntKind.i64.wrap ((0 : Int) * (12 : Int))) < (IntKind.i64.wrap ((IntKind.i64.wrap (Int.tmod n (13 : Int))) * y5)))))) (.one (.p (pi y8)))), (80, .wh (!(((y9 != (0 : Int)) || (y11 != (0 : Int))) || (decide ((IntKind.i64.wrap ((0 : Int) * (12 : Int))) < (IntKind.i64.wrap ((IntKind.i64.wrap (Int.tmod n (13 : Int))) * y5)))))) (.one (.p (pi (y3.Counts.length : Int)))))], [], [(81, .wh (!(((y9 != (0 : Int)) || (y11 != (0 : Int))) || (decide ((IntKind.i64.wrap ((0 : Int) * (12 : Int))) < (IntKind.i64.wrap ((IntKind.i64.wrap (Int.tmod n (13 : Int))) * y5)))))) (.one (.p (.val (.bool (decide (y8 < (y3.Counts.length : Int))))))))], [], none⟩,
      ⟨[(76, .x (.one (.p (.val (.bool (((y9 != (0 : Int)) || (y11 != (0 : Int))) || (decide ((IntKind.i64.wrap ((0 : Int) * (12 : Int))) < (IntKind.i64.wrap ((IntKind.i64.wrap (Int.tmod n (13 : Int))) * y5)))))))))), (81, .wh (!(((y9 != (0 : Int)) || (y11 != (0 : Int))) || (decide ((IntKind.i64.wrap ((0 : Int) * (12 : Int))) < (IntKind.i64.wrap ((IntKind.i64.wrap (Int.tmod n (13 : Int))) * y5)))))) (.one (.p (.val (.bool (decide (y8 < (y3.Counts.length : Int))))))))], [], [(82, .wh (!(((y9 != (0 : Int)) || (y11 != (0 : Int))) || (decide ((IntKind.i64.wrap ((0 : Int) * (12 : Int))) < (IntKind.i64.wrap ((IntKind.i64.wrap (Int.tmod n (13 : Int))) * y5)))))) (.one (.p (.val (.bool (decide (y8 < (y3.Counts.length : Int))))))))], [], none⟩,
      ⟨[(14, .x (.one (.ptr 114 0))), (82, .wh (!(((y9 != (0 : Int)) || (y11 != (0 : Int))) || (decide ((IntKind.i64.wrap ((0 : Int) * (12 : Int))) < (IntKind.i64.wrap ((IntKind.i64.wrap (Int.tmod n (13 : Int))) * y5)))))) (.one (.p (.val (.bool (decide (y8 < (y3.Counts.length : Int))))))))], [(114, some (.var [.fn 21 [106, 105]]))], [(83, .wh false (.one (.fn 21 [106, 105])))], [], none⟩,
      ⟨[(10, .x (.one (.p (pi y8)))), (82, .wh (!(((y9 != (0 : Int)) || (y11 != (0 : Int))) || (decide ((IntKind.i64.wrap ((0 : Int) * (12 : Int))) < (IntKind.i64.wrap ((IntKind.i64.wrap (Int.tmod n (13 : Int))) * y5)))))) (.one (.p (.val (.bool (decide (y8 < (y3.Counts.length : Int))))))))], [], [(84, .wh false (.one (.p (pi y8))))], [], none⟩,
      ⟨[(82, .wh (!(((y9 != (0 : Int)) || (y11 != (0 : Int))) || (decide ((IntKind.i64.wrap ((0 : Int) * (12 : Int))) < (IntKind.i64.wrap ((IntKind.i64.wrap (Int.tmod n (13 : Int))) * y5)))))) (.one (.p (.val (.bool (decide (y8 < (y3.Counts.length : Int)))))))), (84, .wh false (.one (.p (pi y8))))], [], [(85, .wh false (.one (.p (pi (IntKind.i64.wrap (y8 + (1 : Int)))))))], [], none⟩,
      ⟨[(82, .wh (!(((y9 != (0 : Int)) || (y11 != (0 : Int))) || (decide ((IntKind.i64.wrap ((0 : Int) * (12 : Int))) < (IntKind.i64.wrap ((IntKind.i64.wrap (Int.tmod n (13 : Int))) * y5)))))) (.one (.p (.val (.bool (decide (y8 < (y3.Counts.length : Int)))))))), (83, .wh false (.one (.fn 21 [106, 105]))), (85, .wh false (.one (.p (pi (IntKind.i64.wrap (y8 + (1 : Int)))))))], [(105, some (.var [.p (.sl 1 (List.map encI y3.Counts))])), (106, some (.var [.p (pi y5)]))], [(86, .wh false (.one (.p (pi (0 : Int)))))], [], none⟩,
      ⟨[(82, .wh (!(((y9 != (0 : Int)) || (y11 != (0 : Int))) || (decide ((IntKind.i64.wrap ((0 : Int) * (12 : Int))) < (IntKind.i64.wrap ((IntKind.i64.wrap (Int.tmod n (13 : Int))) * y5)))))) (.one (.p (.val (.bool (decide (y8 < (y3.Counts.length : Int)))))))), (86, .wh false (.one (.p (pi (0 : Int)))))], [], [(87, .wh false (.one (.p (pi (IntKind.i64.wrap ((0 : Int) * (12 : Int)))))))], [], none⟩,
      ⟨[(7, .x (.one (.ptr 107 0))), (82, .wh (!(((y9 != (0 : Int)) || (y11 != (0 : Int))) || (decide ((IntKind.i64.wrap ((0 : Int) * (12 : Int))) < (IntKind.i64.wrap ((IntKind.i64.wrap (Int.tmod n (13 : Int))) * y5)))))) (.one (.p (.val (.bool (decide (y8 < (y3.Counts.length : Int))))))))], [(107, some (.var [.p (pi (IntKind.i64.wrap (Int.tmod n (13 : Int))))]))], [(88, .wh false (.one (.p (pi (IntKind.i64.wrap (Int.tmod n (13 : Int)))))))], [], none⟩,
      ⟨[(6, .x (.one (.ptr 106 0))), (82, .wh (!(((y9 != (0 : Int)) || (y11 != (0 : Int))) || (decide ((IntKind.i64.wrap ((0 : Int) * (12 : Int))) < (IntKind.i64.wrap ((IntKind.i64.wrap (Int.tmod n (13 : Int))) * y5)))))) (.one (.p (.val (.bool (decide (y8 < (y3.Counts.length : Int))))))))], [(106, some (.var [.p (pi y5)]))], [(89, .wh false (.one (.p (pi y5))))], [], none⟩,
      ⟨[(82, .wh (!(((y9 != (0 : Int)) || (y11 != (0 : Int))) || (decide ((IntKind.i64.wrap ((0 : Int) * (12 : Int))) < (IntKind.i64.wrap ((IntKind.i64.wrap (Int.tmod n (13 : Int))) * y5)))))) (.one (.p (.val (.bool (decide (y8 < (y3.Counts.length : Int)))))))), (88, .wh false (.one (.p (pi (IntKind.i64.wrap (Int.tmod n (13 : Int))))))), (89, .wh false (.one (.p (pi y5))))], [], [(90, .wh false (.one (.p (pi (IntKind.i64.wrap ((IntKind.i64.wrap (Int.tmod n (13 : Int))) * y5))))))], [], none⟩] (And.intro g_9_0 g_9_1) (⟨124, mkS [(5, .x (.one (.ptr 105 0))), (6, .x (.one (.ptr 106 0))), (7, .x (.one (.ptr 107 0))), (12, .x (.one (.p (pi y10)))), (14, .x (.one (.ptr 114 0))), (93, .x (.one (.p (.val (.bool ((((y9 != (0 : Int)) || (y11 != (0 : Int))) || (decide ((IntKind.i64.wrap ((0 : Int) * (12 : Int))) < (IntKind.i64.wrap ((IntKind.i64.wrap (Int.tmod n (13 : Int))) * y5))))) || ((decide (y8 < (y3.Counts.length : Int))) && (decide ((IntKind.i64.wrap ((IntKind.i64.wrap (Int.tmod n (13 : Int))) * y5)) ≤ (IntKind.i64.wrap ((0 : Int) * (12 : Int))))))))))))], mkH [(105, .var [.p (.sl 1 (List.map encI y3.Counts))]), (106, .var [.p (pi y5)]), (107, .var [.p (pi (IntKind.i64.wrap (Int.tmod n (13 : Int))))]), (114, .var [.fn 21 [106, 105]])]⟩) (by kernel_rfl) (by kernel_rfl) (by kernel_rfl) rfl rfl rfl ?_
            refine lok_c ((((y9 != (0 : Int)) || (y11 != (0 : Int))) || (decide ((IntKind.i64.wrap ((0 : Int) * (12 : Int))) < (IntKind.i64.wrap ((IntKind.i64.wrap (Int.tmod n (13 : Int))) * y5))))) || ((decide (y8 < (y3.Counts.length : Int))) && (decide ((IntKind.i64.wrap ((IntKind.i64.wrap (Int.tmod n (13 : Int))) * y5)) ≤ (IntKind.i64.wrap ((0 : Int) * (12 : Int))))))) ?_ ?_
            · intro b_16
              replace H0 := cpos H0 b_16
              refine lok_rt E0 (⟨124, mkS [(4, .x (.one (.p (.val (.bool false)))))], mkH []⟩) ?_
              refine lok_ret ?_
              obtain rfl := Option.some.inj H0
              try simp only [thenL, blockL]
              exact fin_au _ (.inr rfl) [] (⟨124, mkS [(4, .x (.one (.p (.val (.bool false)))))], mkH []⟩) rfl rfl imp_au
            · intro b_16
              replace H0 := cneg H0 b_16
              refine lok_skip ?_
              try simp only [thenL, blockL, ↓reduceIte, reduceCtorEq]
              refine lok_rt E0 (⟨124, mkS [(5, .x (.one (.ptr 105 0))), (12, .x (.one (.p (pi y10)))), (15, .x (.one (.fn 23 [114, 107, 106])))], mkH [(105, .var [.p (.sl 1 (List.map encI y3.Counts))]), (106, .var [.p (pi y5)]), (107, .var [.p (pi (IntKind.i64.wrap (Int.tmod n (13 : Int))))]), (114, .var [.fn 21 [106, 105]])]⟩) ?_
              refine lok_join (fun x_ : Unit => law35_BoundaryShares_j7 = some r_) (fun x_ => ⟨124, mkS [], mkH []⟩) ?hylaw35_BoundaryShares_j7 ?hxlaw35_BoundaryShares_j7
              case hylaw35_BoundaryShares_j7 =>
                rintro _ H0
                try dsimp only at H0 ⊢
                unfold law35_BoundaryShares_j7 at H0
                replace H0 := bind_some H0
                obtain ⟨y12, h_9, H0⟩ := H0
                refine lok_rt (Env.of E0 [⟨some 123, 9, [], [], [.one (.p (.val (.bool y12)))], [], True, fun _ => ok_law35_sane y12 h_9, []⟩]) (⟨124, mkS [(4, .x (.one (.p (.val (.bool y12)))))], mkH []⟩) ?_
                refine lok_ret ?_
                obtain rfl := Option.some.inj H0
                try simp only [thenL, blockL]
                exact fin_au _ (.inr rfl) [] (⟨124, mkS [(4, .x (.one (.p (.val (.bool y12)))))], mkH []⟩) rfl rfl imp_au
              case hxlaw35_BoundaryShares_j7 =>
                refine lok_rt E0 (⟨124, mkS [(5, .x (.one (.ptr 105 0))), (12, .x (.one (.p (pi y10)))), (15, .x (.one (.fn 23 [114, 107, 106]))), (16, .x (.one (.p (pi (0 : Int)))))], mkH [(105, .var [.p (.sl 1 (List.map encI y3.Counts))]), (106, .var [.p (pi y5)]), (107, .var [.p (pi (IntKind.i64.wrap (Int.tmod n (13 : Int))))]), (114, .var [.fn 21 [106, 105]])]⟩) ?_
                refine lok_block ?_
                replace H0 := bind_some H0
                obtain ⟨v_10, hv_10, H0⟩ := H0
                refine lok_iter (fun x_ => ⟨124, mkS [(5, .x (.one (.ptr 105 0))), (12, .x (.one (.p (pi y10)))), (15, .x (.one (.fn 23 [114, 107, 106]))), (16, .x (.one (.p (pi x_))))], mkH [(105, .var [.p (.sl 1 (List.map encI y3.Counts))]), (106, .var [.p (pi y5)]), (107, .var [.p (pi (IntKind.i64.wrap (Int.tmod n (13 : Int))))]), (114, .var [.fn 21 [106, 105]])]⟩) hv_10 imp_au ?_
                · rintro y13 o_1 H1 k_1
                  unfold law35_BoundaryShares_l8 at H1
                  try dsimp only at H1 ⊢
                  refine lok_seq ?_
                  refine lok_rt E0 (⟨124, mkS [(5, .x (.one (.ptr 105 0))), (12, .x (.one (.p (pi y10)))), (15, .x (.one (.fn 23 [114, 107, 106]))), (16, .x (.one (.p (pi y13)))), (99, .x (.one (.p (.val (.bool (decide (y13 ≤ (y3.Counts.length : Int))))))))], mkH [(105, .var [.p (.sl 1 (List.map encI y3.Counts))]), (106, .var [.p (pi y5)]), (107, .var [.p (pi (IntKind.i64.wrap (Int.tmod n (13 : Int))))]), (114, .var [.fn 21 [106, 105]])]⟩) ?_
                  refine lok_c (decide (y13 ≤ (y3.Counts.length : Int))) ?_ ?_
                  · intro b_15
                    replace H1 := cpos H1 b_15
                    refine lok_skip ?_
                    try simp only [thenL, blockL, ↓reduceIte, reduceCtorEq]
                    refine lok_seq ?_
                    refine lok_block ?_
                    replace H1 := bind_some H1
                    obtain ⟨y14, h_11, H1⟩ := H1
                    replace H1 := bind_some H1
                    obtain ⟨y15, h_12, H1⟩ := H1
                    rcases bcases (!(decide (y14 < y15))) with g_13_0 | g_13_0
                    · replace H1 := cpos H1 g_13_0
                      replace H1 := bind_some H1
                      obtain ⟨y16, h_13, H1⟩ := H1
                      replace H1 := bind_some H1
                      obtain ⟨y17, h_14, H1⟩ := H1
                      refine lok_rtg (Env.of E0 [⟨some 104, 23, [.one (.p (pi y13)), .one (.ptr 0 0), .one (.ptr 1 0), .one (.ptr 2 0)], [.var [.fn 21 [2, 3]], .var [.p (pi (IntKind.i64.wrap (Int.tmod n (13 : Int))))], .var [.p (pi y5)], .var [.p (.sl 1 (List.map encI y3.Counts))]], [.one (.p (pi y14))], [some (.var [.fn 21 [2, 3]]), some (.var [.p (pi (IntKind.i64.wrap (Int.tmod n (13 : Int))))]), some (.var [.p (pi y5)]), some (.var [.p (.sl 1 (List.map encI y3.Counts))])], True, fun _ => ok_law35_BoundaryShares_f2 y13 (IntKind.i64.wrap (Int.tmod n (13 : Int))) y5 y3 y14 h_11, []⟩,
      ⟨some 107, 23, [.one (.p (pi y10)), .one (.ptr 0 0), .one (.ptr 1 0), .one (.ptr 2 0)], [.var [.fn 21 [2, 3]], .var [.p (pi (IntKind.i64.wrap (Int.tmod n (13 : Int))))], .var [.p (pi y5)], .var [.p (.sl 1 (List.map encI y3.Counts))]], [.one (.p (pi y15))], [some (.var [.fn 21 [2, 3]]), some (.var [.p (pi (IntKind.i64.wrap (Int.tmod n (13 : Int))))]), some (.var [.p (pi y5)]), some (.var [.p (.sl 1 (List.map encI y3.Counts))])], True, fun _ => ok_law35_BoundaryShares_f2 y10 (IntKind.i64.wrap (Int.tmod n (13 : Int))) y5 y3 y15 h_12, []⟩,
      ⟨some 112, 23, [.one (.p (pi y13)), .one (.ptr 0 0), .one (.ptr 1 0), .one (.ptr 2 0)], [.var [.fn 21 [2, 3]], .var [.p (pi (IntKind.i64.wrap (Int.tmod n (13 : Int))))], .var [.p (pi y5)], .var [.p (.sl 1 (List.map encI y3.Counts))]], [.one (.p (pi y16))], [some (.var [.fn 21 [2, 3]]), some (.var [.p (pi (IntKind.i64.wrap (Int.tmod n (13 : Int))))]), some (.var [.p (pi y5)]), some (.var [.p (.sl 1 (List.map encI y3.Counts))])], True, fun _ => ok_law35_BoundaryShares_f2 y13 (IntKind.i64.wrap (Int.tmod n (13 : Int))) y5 y3 y16 h_13, []⟩,
      ⟨some 115, 23, [.one (.p (pi y10)), .one (.ptr 0 0), .one (.ptr 1 0), .one (.ptr 2 0)], [.var [.fn 21 [2, 3]], .var [.p (pi (IntKind.i64.wrap (Int.tmod n (13 : Int))))], .var [.p (pi y5)], .var [.p (.sl 1 (List.map encI y3.Counts))]], [.one (.p (pi y17))], [some (.var [.fn 21 [2, 3]]), some (.var [.p (pi (IntKind.i64.wrap (Int.tmod n (13 : Int))))]), some (.var [.p (pi y5)]), some (.var [.p (.sl 1 (List.map encI y3.Counts))])], True, fun _ => ok_law35_BoundaryShares_f2 y10 (IntKind.i64.wrap (Int.tmod n (13 : Int))) y5 y3 y17 h_14, []⟩]) g_13_0 (⟨124, mkS [(5, .x (.one (.ptr 105 0))), (12, .x (.one (.p (pi y10)))), (15, .x (.one (.fn 23 [114, 107, 106]))), (16, .x (.one (.p (pi y13)))), (112, .x (.one (.p (pi y16)))), (115, .x (.one (.p (pi y17)))), (122, .x (.one (.p (.val (.bool ((decide (y14 < y15)) || ((y16 == y17) && (decide (y13 < y10)))))))))], mkH [(105, .var [.p (.sl 1 (List.map encI y3.Counts))]), (106, .var [.p (pi y5)]), (107, .var [.p (pi (IntKind.i64.wrap (Int.tmod n (13 : Int))))]), (114, .var [.fn 21 [106, 105]])]⟩) ?_
                      refine lok_c ((decide (y14 < y15)) || ((y16 == y17) && (decide (y13 < y10)))) ?_ ?_
                      · intro b_15
                        replace H1 := cpos H1 b_15
                        refine lok_rt E0 (⟨124, mkS [(4, .x (.one (.p (.val (.bool false)))))], mkH []⟩) ?_
                        refine lok_ret ?_
                        try simp only [thenL, blockL, ↓reduceIte, reduceCtorEq]
                        have e_1 := k_1 _ (Option.some.inj H1).symm
                        subst e_1
                        try dsimp only at H0
                        obtain rfl := Option.some.inj H0
                        try simp only [thenL, blockL]
                        exact fin_au _ (.inr rfl) [] (⟨124, mkS [(4, .x (.one (.p (.val (.bool false)))))], mkH []⟩) rfl rfl imp_au
                      · intro b_15
                        replace H1 := cneg H1 b_15
                        refine lok_skip ?_
                        try simp only [thenL, blockL, ↓reduceIte, reduceCtorEq]
                        refine lok_rl E0 (⟨124, mkS [(5, .x (.one (.ptr 105 0))), (12, .x (.one (.p (pi y10)))), (15, .x (.one (.fn 23 [114, 107, 106]))), (16, .x (.one (.p (pi (IntKind.i64.wrap (y13 + (1 : Int))))))), (112, .x (.one (.p (pi y16)))), (115, .x (.one (.p (pi y17))))], mkH [(105, .var [.p (.sl 1 (List.map encI y3.Counts))]), (106, .var [.p (pi y5)]), (107, .var [.p (pi (IntKind.i64.wrap (Int.tmod n (13 : Int))))]), (114, .var [.fn 21 [106, 105]])]⟩) ?_
                        try simp only [thenL, blockL, ↓reduceIte, reduceCtorEq]
                        exact ⟨(IntKind.i64.wrap (y13 + (1 : Int))), (Option.some.inj H1).symm, imp_au⟩
                    · replace H1 := cneg H1 g_13_0
                      replace H1 := req_some H1
                      obtain ⟨q_14, H1⟩ := H1
                      refine lok_rtg (Env.of E0 [⟨some 104, 23, [.one (.p (pi y13)), .one (.ptr 0 0), .one (.ptr 1 0), .one (.ptr 2 0)], [.var [.fn 21 [2, 3]], .var [.p (pi (IntKind.i64.wrap (Int.tmod n (13 : Int))))], .var [.p (pi y5)], .var [.p (.sl 1 (List.map encI y3.Counts))]], [.one (.p (pi y14))], [some (.var [.fn 21 [2, 3]]), some (.var [.p (pi (IntKind.i64.wrap (Int.tmod n (13 : Int))))]), some (.var [.p (pi y5)]), some (.var [.p (.sl 1 (List.map encI y3.Counts))])], True, fun _ => ok_law35_BoundaryShares_f2 y13 (IntKind.i64.wrap (Int.tmod n (13 : Int))) y5 y3 y14 h_11, []⟩,
      ⟨some 107, 23, [.one (.p (pi y10)), .one (.ptr 0 0), .one (.ptr 1 0), .one (.ptr 2 0)], [.var [.fn 21 [2, 3]], .var [.p (pi (IntKind.i64.wrap (Int.tmod n (13 : Int))))], .var [.p (pi y5)], .var [.p (.sl 1 (List.map encI y3.Counts))]], [.one (.p (pi y15))], [some (.var [.fn 21 [2, 3]]), some (.var [.p (pi (IntKind.i64.wrap (Int.tmod n (13 : Int))))]), some (.var [.p (pi y5)]), some (.var [.p (.sl 1 (List.map encI y3.Counts))])], True, fun _ => ok_law35_BoundaryShares_f2 y10 (IntKind.i64.wrap (Int.tmod n (13 : Int))) y5 y3 y15 h_12, []⟩]) g_13_0 (⟨124, mkS [(5, .x (.one (.ptr 105 0))), (12, .x (.one (.p (pi y10)))), (15, .x (.one (.fn 23 [114, 107, 106]))), (16, .x (.one (.p (pi y13)))), (122, .x (.one (.p (.val (.bool ((decide (y14 < y15)) || (((0 : Int) == (0 : Int)) && (decide (y13 < y10)))))))))], mkH [(105, .var [.p (.sl 1 (List.map encI y3.Counts))]), (106, .var [.p (pi y5)]), (107, .var [.p (pi (IntKind.i64.wrap (Int.tmod n (13 : Int))))]), (114, .var [.fn 21 [106, 105]])]⟩) ?_
                      refine lok_c ((decide (y14 < y15)) || (((0 : Int) == (0 : Int)) && (decide (y13 < y10)))) ?_ ?_
                      · intro b_13
                        replace H1 := cpos H1 b_13
                        refine lok_rt E0 (⟨124, mkS [(4, .x (.one (.p (.val (.bool false)))))], mkH []⟩) ?_
                        refine lok_ret ?_
                        try simp only [thenL, blockL, ↓reduceIte, reduceCtorEq]
                        have e_1 := k_1 _ (Option.some.inj H1).symm
                        subst e_1
                        try dsimp only at H0
                        obtain rfl := Option.some.inj H0
                        try simp only [thenL, blockL]
                        exact fin_au _ (.inr rfl) [] (⟨124, mkS [(4, .x (.one (.p (.val (.bool false)))))], mkH []⟩) rfl rfl imp_au
                      · intro b_13
                        replace H1 := cneg H1 b_13
                        refine lok_skip ?_
                        try simp only [thenL, blockL, ↓reduceIte, reduceCtorEq]
                        refine lok_rl E0 (⟨124, mkS [(5, .x (.one (.ptr 105 0))), (12, .x (.one (.p (pi y10)))), (15, .x (.one (.fn 23 [114, 107, 106]))), (16, .x (.one (.p (pi (IntKind.i64.wrap (y13 + (1 : Int)))))))], mkH [(105, .var [.p (.sl 1 (List.map encI y3.Counts))]), (106, .var [.p (pi y5)]), (107, .var [.p (pi (IntKind.i64.wrap (Int.tmod n (13 : Int))))]), (114, .var [.fn 21 [106, 105]])]⟩) ?_
                        try simp only [thenL, blockL, ↓reduceIte, reduceCtorEq]
                        exact ⟨(IntKind.i64.wrap (y13 + (1 : Int))), (Option.some.inj H1).symm, imp_au⟩
                  · intro b_15
                    replace H1 := cneg H1 b_15
                    refine lok_exit ?_
                    try simp only [thenL, blockL, ↓reduceIte, reduceCtorEq]
                    have e_1 := k_1 _ (Option.some.inj H1).symm
                    subst e_1
                    try dsimp only at H0
                    try simp only [thenL, blockL, ↓reduceIte, reduceCtorEq]
                    exact ⟨(), H0, imp_au⟩
theorem ok_boundary_Reference (d : api_Distribution) (reference : api_Distribution) (b : List Int) (r_ : (List Int) × Int) (H0 : boundary_Reference d reference b = some r_) : CallOK Try.prog 24 [.agg [.p (.sl 1 (List.map encI d.Counts))], .agg [.p (.sl 1 (List.map encI reference.Counts))], .one (.p (.sl 1 (List.map encI b)))] [] [.one (.p (.sl 1 (List.map encI r_.1))), .one (.p (pi r_.2))] [] := by
  refine callOK (n := 87) (rs := [.tmp 6, .tmp 7]) (nb := 0) (V := []) Try.func24 rfl (by kernel_rfl) rfl rfl rfl rfl (Nat.le_of_ble_eq_true rfl) (by decide) ?_
  unfold boundary_Reference at H0
  refine lok_rt E0 (⟨87, mkS [(2, .x (.one (.p (.sl 1 (List.map encI b))))), (3, .x (.one (.ptr 103 0))), (4, .x (.one (.ptr 104 0)))], mkH [(103, .var [.p (.sl 1 (List.map encI d.Counts))]), (104, .var [.p (.sl 1 (List.map encI reference.Counts))])]⟩) ?_
  refine lok_seq ?_
  replace H0 := bind_some H0
  obtain ⟨y, h_0, H0⟩ := H0
  replace H0 := req_some H0
  obtain ⟨q_23, H0⟩ := H0
  refine lok_rt (Env.of E0 [⟨some 16, 31, [.agg [.p (.sl 1 (List.map encI d.Counts))]], [], [.one (.p (.val (.bool y)))], [], True, fun _ => ok_distribution_Valid d y h_0, []⟩,
      ⟨some 20, 31, [.agg [.p (.sl 1 (List.map encI reference.Counts))]], [], [.one (.p (.val (.bool ((distribution_Valid reference).getD default))))], [], (distribution_Valid reference).isSome = true, fun h => ok_distribution_Valid reference _ (isSome_get h), []⟩]) (⟨87, mkS [(2, .x (.one (.p (.sl 1 (List.map encI b))))), (3, .x (.one (.ptr 103 0))), (4, .x (.one (.ptr 104 0))), (22, .x (.one (.p (.val (.bool ((!y) || (!((distribution_Valid reference).getD default))))))))], mkH [(103, .var [.p (.sl 1 (List.map encI d.Counts))]), (104, .var [.p (.sl 1 (List.map encI reference.Counts))])]⟩) ?_
  refine lok_c ((!y) || (!((distribution_Valid reference).getD default))) ?_ ?_
  · intro b_22
    replace H0 := cpos H0 b_22
    refine lok_rt E0 (⟨87, mkS [(6, .x (.one (.vw 106))), (7, .x (.one (.p (pi (1 : Int)))))], mkH [(106, .arr 1 (List.map encI ([] : List Int)))]⟩) ?_
    refine lok_ret ?_
    obtain rfl := Option.some.inj H0
    try simp only [thenL, blockL]
    exact fin_au _ (.inr rfl) [] (⟨87, mkS [(6, .x (.one (.p (.sl 1 (List.map encI ([] : List Int)))))), (7, .x (.one (.p (pi (1 : Int)))))], mkH []⟩) rfl rfl (Imp.trans (imp_frz 106 1 (List.map encI ([] : List Int))) imp_au)
  · intro b_22
    replace H0 := cneg H0 b_22
    refine lok_skip ?_
    try simp only [thenL, blockL, ↓reduceIte, reduceCtorEq]
    refine lok_seq ?_
    replace H0 := bind_some H0
    obtain ⟨y1, h_1, H0⟩ := H0
    replace H0 := req_some H0
    obtain ⟨q_21, H0⟩ := H0
    refine lok_rt (Env.of E0 [⟨some 24, 40, [.agg [.p (.sl 1 (List.map encI d.Counts))]], [], [.one (.p (pi y1))], [], True, fun _ => ok_distribution_Count d y1 h_1, []⟩,
      ⟨some 28, 40, [.agg [.p (.sl 1 (List.map encI reference.Counts))]], [], [.one (.p (pi ((distribution_Count reference).getD default)))], [], (distribution_Count reference).isSome = true, fun h => ok_distribution_Count reference _ (isSome_get h), []⟩]) (⟨87, mkS [(2, .x (.one (.p (.sl 1 (List.map encI b))))), (3, .x (.one (.ptr 103 0))), (4, .x (.one (.ptr 104 0))), (30, .x (.one (.p (.val (.bool ((y1 == (0 : Int)) || (((distribution_Count reference).getD default) == (0 : Int))))))))], mkH [(103, .var [.p (.sl 1 (List.map encI d.Counts))]), (104, .var [.p (.sl 1 (List.map encI reference.Counts))])]⟩) ?_
    refine lok_c ((y1 == (0 : Int)) || (((distribution_Count reference).getD default) == (0 : Int))) ?_ ?_
    · intro b_20
      replace H0 := cpos H0 b_20
      refine lok_rt E0 (⟨87, mkS [(6, .x (.one (.vw 106))), (7, .x (.one (.p (pi (10 : Int)))))], mkH [(106, .arr 1 (List.map encI ([] : List Int)))]⟩) ?_
      refine lok_ret ?_
      obtain rfl := Option.some.inj H0
      try simp only [thenL, blockL]
      exact fin_au _ (.inr rfl) [] (⟨87, mkS [(6, .x (.one (.p (.sl 1 (List.map encI ([] : List Int)))))), (7, .x (.one (.p (pi (10 : Int)))))], mkH []⟩) rfl rfl (Imp.trans (imp_frz 106 1 (List.map encI ([] : List Int))) imp_au)
    · intro b_20
      replace H0 := cneg H0 b_20
      refine lok_skip ?_
      try simp only [thenL, blockL, ↓reduceIte, reduceCtorEq]
      refine lok_seq ?_
      replace H0 := bind_some H0
      obtain ⟨y2, h_2, H0⟩ := H0
      replace H0 := bind_some H0
      obtain ⟨y3, h_3, H0⟩ := H0
      refine lok_rt (Env.of E0 [⟨some 33, 32, [.agg [.p (.sl 1 (List.map encI reference.Counts))]], [], [.one (.p (pi y2))], [], True, fun _ => ok_boundary_greatest reference y2 h_2, []⟩,
      ⟨some 34, 27, [.one (.p (.sl 1 (List.map encI b))), .one (.p (pi y2))], [], [.one (.p (pi y3))], [], True, fun _ => ok_boundary_Check b y2 y3 h_3, []⟩]) (⟨87, mkS [(2, .x (.one (.p (.sl 1 (List.map encI b))))), (3, .x (.one (.ptr 103 0))), (4, .x (.one (.ptr 104 0))), (8, .x (.one (.p (pi y3))))], mkH [(103, .var [.p (.sl 1 (List.map encI d.Counts))]), (104, .var [.p (.sl 1 (List.map encI reference.Counts))])]⟩) ?_
      refine lok_rt E0 (⟨87, mkS [(2, .x (.one (.p (.sl 1 (List.map encI b))))), (3, .x (.one (.ptr 103 0))), (4, .x (.one (.ptr 104 0))), (8, .x (.one (.p (pi y3)))), (36, .x (.one (.p (.val (.bool (y3 != (0 : Int)))))))], mkH [(103, .var [.p (.sl 1 (List.map encI d.Counts))]), (104, .var [.p (.sl 1 (List.map encI reference.Counts))])]⟩) ?_
      refine lok_c (y3 != (0 : Int)) ?_ ?_
      · intro b_19
        replace H0 := cpos H0 b_19
        refine lok_rt E0 (⟨87, mkS [(6, .x (.one (.vw 106))), (7, .x (.one (.p (pi y3))))], mkH [(106, .arr 1 (List.map encI ([] : List Int)))]⟩) ?_
        refine lok_ret ?_
        obtain rfl := Option.some.inj H0
        try simp only [thenL, blockL]
        exact fin_au _ (.inr rfl) [] (⟨87, mkS [(6, .x (.one (.p (.sl 1 (List.map encI ([] : List Int)))))), (7, .x (.one (.p (pi y3))))], mkH []⟩) rfl rfl (Imp.trans (imp_frz 106 1 (List.map encI ([] : List Int))) imp_au)
      · intro b_19
        replace H0 := cneg H0 b_19
        refine lok_skip ?_
        try simp only [thenL, blockL, ↓reduceIte, reduceCtorEq]
        replace H0 := bind_some H0
        obtain ⟨y4, h_4, H0⟩ := H0
        refine lok_rt (Env.of E0 [⟨some 39, 36, [.agg [.p (.sl 1 (List.map encI reference.Counts))]], [], [.one (.p (.sl 1 (List.map encI y4)))], [], True, fun _ => ok_boundary_reaching reference y4 h_4, []⟩]) (⟨87, mkS [(2, .x (.one (.p (.sl 1 (List.map encI b))))), (3, .x (.one (.ptr 103 0))), (9, .x (.one (.p (.sl 1 (List.map encI y4)))))], mkH [(103, .var [.p (.sl 1 (List.map encI d.Counts))])]⟩) ?_
        replace H0 := req_some H0
        obtain ⟨q_18, H0⟩ := H0
        refine lok_rt E0 (⟨87, mkS [(2, .x (.one (.p (.sl 1 (List.map encI b))))), (3, .x (.one (.ptr 103 0))), (9, .x (.one (.p (.sl 1 (List.map encI y4))))), (10, .x (.one (.vw 142)))], mkH [(103, .var [.p (.sl 1 (List.map encI d.Counts))]), (142, .arr 1 (List.map encI (rep (b.length : Int) (0 : Int))))]⟩) ?_
        refine lok_join (fun x_ : (List Int) => boundary_Reference_j1 x_ = some r_) (fun x_ => ⟨87, mkS [(10, .x (.one (.vw 142)))], mkH [(142, .arr 1 (List.map encI x_))]⟩) ?hyboundary_Reference_j1 ?hxboundary_Reference_j1
        case hyboundary_Reference_j1 =>
          rintro w H0
          try dsimp only at H0 ⊢
          unfold boundary_Reference_j1 at H0
          refine lok_rt E0 (⟨87, mkS [(6, .x (.one (.vw 142))), (7, .x (.one (.p (pi (0 : Int)))))], mkH [(142, .arr 1 (List.map encI w))]⟩) ?_
          refine lok_ret ?_
          obtain rfl := Option.some.inj H0
          try simp only [thenL, blockL]
          exact fin_au _ (.inr rfl) [] (⟨87, mkS [(6, .x (.one (.p (.sl 1 (List.map encI w))))), (7, .x (.one (.p (pi (0 : Int)))))], mkH []⟩) rfl rfl (Imp.trans (imp_frz 142 1 (List.map encI w)) imp_au)
        case hxboundary_Reference_j1 =>
          refine lok_rt E0 (⟨87, mkS [(3, .x (.one (.ptr 103 0))), (9, .x (.one (.p (.sl 1 (List.map encI y4))))), (10, .x (.one (.vw 142))), (43, .x (.one (.p (.sl 1 (List.map encI b))))), (44, .x (.one (.p (pi (b.length : Int))))), (45, .x (.one (.p (pi (0 : Int)))))], mkH [(103, .var [.p (.sl 1 (List.map encI d.Counts))]), (142, .arr 1 (List.map encI (rep (b.length : Int) (0 : Int))))]⟩) ?_
          refine lok_block ?_
          replace H0 := bind_some H0
          obtain ⟨v_5, hv_5, H0⟩ := H0
          refine lok_iter (fun x_ => ⟨87, mkS [(3, .x (.one (.ptr 103 0))), (9, .x (.one (.p (.sl 1 (List.map encI y4))))), (10, .x (.one (.vw 142))), (43, .x (.one (.p (.sl 1 (List.map encI b))))), (44, .x (.one (.p (pi (b.length : Int))))), (45, .x (.one (.p (pi x_.1))))], mkH [(103, .var [.p (.sl 1 (List.map encI d.Counts))]), (142, .arr 1 (List.map encI x_.2))]⟩) hv_5 imp_au ?_
          · rintro ⟨v, w1⟩ o_1 H1 k_1
            unfold boundary_Reference_l3 at H1
            try dsimp only at H1 ⊢
            refine lok_rt E0 (⟨87, mkS [(3, .x (.one (.ptr 103 0))), (9, .x (.one (.p (.sl 1 (List.map encI y4))))), (10, .x (.one (.vw 142))), (43, .x (.one (.p (.sl 1 (List.map encI b))))), (44, .x (.one (.p (pi (b.length : Int))))), (45, .x (.one (.p (pi v)))), (46, .x (.one (.p (.val (.bool (decide (v < (b.length : Int))))))))], mkH [(103, .var [.p (.sl 1 (List.map encI d.Counts))]), (142, .arr 1 (List.map encI w1))]⟩) ?_
            refine lok_seq ?_
            refine lok_c (decide (v < (b.length : Int))) ?_ ?_
            · intro b_17
              replace H1 := cpos H1 b_17
              refine lok_skip ?_
              try simp only [thenL, blockL, ↓reduceIte, reduceCtorEq]
              refine lok_join (fun x_ : (List Int) => boundary_Reference_j2 v x_ = some o_1) (fun x_ => ⟨87, mkS [(3, .x (.one (.ptr 103 0))), (9, .x (.one (.p (.sl 1 (List.map encI y4))))), (10, .x (.one (.vw 142))), (43, .x (.one (.p (.sl 1 (List.map encI b))))), (44, .x (.one (.p (pi (b.length : Int))))), (45, .x (.one (.p (pi v))))], mkH [(103, .var [.p (.sl 1 (List.map encI d.Counts))]), (142, .arr 1 (List.map encI x_))]⟩) ?hyboundary_Reference_j2 ?hxboundary_Reference_j2
              case hyboundary_Reference_j2 =>
                rintro w3 H1
                try dsimp only at H1 ⊢
                unfold boundary_Reference_j2 at H1
                refine lok_rl E0 (⟨87, mkS [(3, .x (.one (.ptr 103 0))), (9, .x (.one (.p (.sl 1 (List.map encI y4))))), (10, .x (.one (.vw 142))), (43, .x (.one (.p (.sl 1 (List.map encI b))))), (44, .x (.one (.p (pi (b.length : Int))))), (45, .x (.one (.p (pi (IntKind.i64.wrap (v + (1 : Int)))))))], mkH [(103, .var [.p (.sl 1 (List.map encI d.Counts))]), (142, .arr 1 (List.map encI w3))]⟩) ?_
                try simp only [thenL, blockL, ↓reduceIte, reduceCtorEq]
                exact ⟨((IntKind.i64.wrap (v + (1 : Int))), w3), (Option.some.inj H1).symm, imp_au⟩
              case hxboundary_Reference_j2 =>
                refine lok_block ?_
                replace H1 := req_some H1
                obtain ⟨q_16, H1⟩ := H1
                refine lok_rt E0 (⟨87, mkS [(3, .x (.one (.ptr 103 0))), (9, .x (.one (.p (.sl 1 (List.map encI y4))))), (10, .x (.one (.vw 142))), (11, .x (.one (.p (pi v)))), (12, .x (.one (.p (pi (ix b v))))), (43, .x (.one (.p (.sl 1 (List.map encI b))))), (44, .x (.one (.p (pi (b.length : Int))))), (45, .x (.one (.p (pi v))))], mkH [(103, .var [.p (.sl 1 (List.map encI d.Counts))]), (142, .arr 1 (List.map encI w1))]⟩) ?_
                replace H1 := req_some H1
                obtain ⟨⟨q_14, q_15⟩, H1⟩ := H1
                replace H1 := bind_some H1
                obtain ⟨⟨y5, y6⟩, h_6, H1⟩ := H1
                try dsimp only at H1
                refine lok_et (Env.of E0 [⟨some 58, 41, [.one (.p (pi (ix y4 (ix b v)))), .one (.p (pi (ix y4 (0 : Int))))], [], [.agg [.p (pi y5.Num), .p (pi y5.Den)], .one (.p (pi y6))], [], True, fun _ => ok_ratio_New (ix y4 (ix b v)) (ix y4 (0 : Int)) (y5, y6) h_6, []⟩]) 87 [⟨[(9, .x (.one (.p (.sl 1 (List.map encI y4)))))], [], [(51, .x (.one (.p (.sl 1 (List.map encI y4)))))], [], none⟩,
      ⟨[(12, .x (.one (.p (pi (ix b v)))))], [], [(52, .x (.one (.p (pi (ix b v)))))], [], none⟩,
      ⟨[(51, .x (.one (.p (.sl 1 (List.map encI y4))))), (52, .x (.one (.p (pi (ix b v)))))], [], [(53, .x (.one (.ep [pi (ix y4 (ix b v))])))], [], none⟩,
      ⟨[(53, .x (.one (.ep [pi (ix y4 (ix b v))])))], [], [(54, .x (.one (.p (pi (ix y4 (ix b v))))))], [], none⟩,
      ⟨[(9, .x (.one (.p (.sl 1 (List.map encI y4)))))], [], [(55, .x (.one (.p (.sl 1 (List.map encI y4)))))], [], none⟩,
      ⟨[(55, .x (.one (.p (.sl 1 (List.map encI y4)))))], [], [(56, .x (.one (.ep [pi (ix y4 (0 : Int))])))], [], none⟩,
      ⟨[(56, .x (.one (.ep [pi (ix y4 (0 : Int))])))], [], [(57, .x (.one (.p (pi (ix y4 (0 : Int))))))], [], none⟩,
      ⟨[(54, .x (.one (.p (pi (ix y4 (ix b v)))))), (57, .x (.one (.p (pi (ix y4 (0 : Int))))))], [], [(58, .tup [.agg [.p (pi y5.Num), .p (pi y5.Den)], .one (.p (pi y6))])], [], none⟩,
      ⟨[(58, .tup [.agg [.p (pi y5.Num), .p (pi y5.Den)], .one (.p (pi y6))])], [], [(50, .tup [.agg [.p (pi y5.Num), .p (pi y5.Den)], .one (.p (pi y6))])], [], none⟩,
      ⟨[(50, .tup [.agg [.p (pi y5.Num), .p (pi y5.Den)], .one (.p (pi y6))])], [], [(59, .x (.agg [.p (pi y5.Num), .p (pi y5.Den)]))], [], none⟩,
      ⟨[(50, .tup [.agg [.p (pi y5.Num), .p (pi y5.Den)], .one (.p (pi y6))])], [], [(60, .x (.one (.p (pi y6))))], [], none⟩,
      ⟨[], [(113, none)], [(13, .x (.one (.ptr 113 0)))], [(113, some (.var [.p (pi (0 : Int)), .p (pi (0 : Int))]))], some 113⟩,
      ⟨[(13, .x (.one (.ptr 113 0))), (59, .x (.agg [.p (pi y5.Num), .p (pi y5.Den)]))], [(113, some (.var [.p (pi (0 : Int)), .p (pi (0 : Int))]))], [], [(113, some (.var [.p (pi y5.Num), .p (pi y5.Den)]))], none⟩] (⟨87, mkS [(3, .x (.one (.ptr 103 0))), (9, .x (.one (.p (.sl 1 (List.map encI y4))))), (10, .x (.one (.vw 142))), (11, .x (.one (.p (pi v)))), (13, .x (.one (.ptr 113 0))), (14, .x (.one (.p (pi y6)))), (43, .x (.one (.p (.sl 1 (List.map encI b))))), (44, .x (.one (.p (pi (b.length : Int))))), (45, .x (.one (.p (pi v))))], mkH [(103, .var [.p (.sl 1 (List.map encI d.Counts))]), (113, .var [.p (pi y5.Num), .p (pi y5.Den)]), (142, .arr 1 (List.map encI w1))]⟩) (by kernel_rfl) (by kernel_rfl) (by kernel_rfl) rfl rfl rfl ?_
                refine lok_seq ?_
                refine lok_rt E0 (⟨87, mkS [(3, .x (.one (.ptr 103 0))), (9, .x (.one (.p (.sl 1 (List.map encI y4))))), (10, .x (.one (.vw 142))), (11, .x (.one (.p (pi v)))), (13, .x (.one (.ptr 113 0))), (14, .x (.one (.p (pi y6)))), (43, .x (.one (.p (.sl 1 (List.map encI b))))), (44, .x (.one (.p (pi (b.length : Int))))), (45, .x (.one (.p (pi v)))), (62, .x (.one (.p (.val (.bool (y6 != (0 : Int)))))))], mkH [(103, .var [.p (.sl 1 (List.map encI d.Counts))]), (113, .var [.p (pi y5.Num), .p (pi y5.Den)]), (142, .arr 1 (List.map encI w1))]⟩) ?_
                refine lok_c (y6 != (0 : Int)) ?_ ?_
                · intro b_13
                  replace H1 := cpos H1 b_13
                  refine lok_rt E0 (⟨87, mkS [(6, .x (.one (.vw 106))), (7, .x (.one (.p (pi y6))))], mkH [(106, .arr 1 (List.map encI ([] : List Int)))]⟩) ?_
                  refine lok_ret ?_
                  try simp only [thenL, blockL, ↓reduceIte, reduceCtorEq]
                  have e_1 := k_1 _ (Option.some.inj H1).symm
                  subst e_1
                  try dsimp only at H0
                  obtain rfl := Option.some.inj H0
                  try simp only [thenL, blockL]
                  exact fin_au _ (.inr rfl) [] (⟨87, mkS [(6, .x (.one (.p (.sl 1 (List.map encI ([] : List Int)))))), (7, .x (.one (.p (pi y6))))], mkH []⟩) rfl rfl (Imp.trans (imp_frz 106 1 (List.map encI ([] : List Int))) imp_au)
                · intro b_13
                  replace H1 := cneg H1 b_13
                  refine lok_skip ?_
                  try simp only [thenL, blockL, ↓reduceIte, reduceCtorEq]
                  replace H1 := bind_some H1
                  obtain ⟨y7, h_7, H1⟩ := H1
                  replace H1 := req_some H1
                  obtain ⟨q_12, H1⟩ := H1
                  refine lok_rt (Env.of E0 [⟨some 68, 38, [.agg [.p (.sl 1 (List.map encI d.Counts))], .agg [.p (pi y5.Num), .p (pi y5.Den)]], [], [.one (.p (pi y7))], [], True, fun _ => ok_boundary_nearest d y5 y7 h_7, []⟩]) (⟨87, mkS [(3, .x (.one (.ptr 103 0))), (9, .x (.one (.p (.sl 1 (List.map encI y4))))), (10, .x (.one (.vw 142))), (11, .x (.one (.p (pi v)))), (43, .x (.one (.p (.sl 1 (List.map encI b))))), (44, .x (.one (.p (pi (b.length : Int))))), (45, .x (.one (.p (pi v))))], mkH [(103, .var [.p (.sl 1 (List.map encI d.Counts))]), (142, .arr 1 (List.map encI (setI w1 v y7)))]⟩) ?_
                  refine lok_rt E0 (⟨87, mkS [(3, .x (.one (.ptr 103 0))), (9, .x (.one (.p (.sl 1 (List.map encI y4))))), (10, .x (.one (.vw 142))), (11, .x (.one (.p (pi v)))), (43, .x (.one (.p (.sl 1 (List.map encI b))))), (44, .x (.one (.p (pi (b.length : Int))))), (45, .x (.one (.p (pi v)))), (71, .x (.one (.p (.val (.bool (decide ((0 : Int) < v)))))))], mkH [(103, .var [.p (.sl 1 (List.map encI d.Counts))]), (142, .arr 1 (List.map encI (setI w1 v y7)))]⟩) ?_
                  refine lok_c (decide ((0 : Int) < v)) ?_ ?_
                  · intro b_11
                    replace H1 := cpos H1 b_11
                    replace H1 := req_some H1
                    obtain ⟨⟨q_9, q_10⟩, H1⟩ := H1
                    replace H1 := bindV_some H1
                    obtain ⟨w4, a_8, H1⟩ := H1
                    refine lok_dlg E0 12 a_8 (⟨87, mkS [(3, .x (.one (.ptr 103 0))), (9, .x (.one (.p (.sl 1 (List.map encI y4))))), (10, .x (.one (.vw 142))), (43, .x (.one (.p (.sl 1 (List.map encI b))))), (44, .x (.one (.p (pi (b.length : Int))))), (45, .x (.one (.p (pi v))))], mkH [(103, .var [.p (.sl 1 (List.map encI d.Counts))]), (142, .arr 1 (List.map encI w4))]⟩) (by kernel_rfl) (by kernel_rfl) ?_
                    try simp only [thenL, blockL, ↓reduceIte, reduceCtorEq]
                    exact ⟨w4, H1, imp_au⟩
                  · intro b_11
                    replace H1 := cneg H1 b_11
                    refine lok_skip ?_
                    try simp only [thenL, blockL, ↓reduceIte, reduceCtorEq]
                    exact ⟨(setI w1 v y7), H1, imp_au⟩
            · intro b_17
              replace H1 := cneg H1 b_17
              refine lok_exit ?_
              try simp only [thenL, blockL, ↓reduceIte, reduceCtorEq]
              have e_1 := k_1 _ (Option.some.inj H1).symm
              subst e_1
              try dsimp only at H0
              try simp only [thenL, blockL, ↓reduceIte, reduceCtorEq]
              exact ⟨w1, H0, imp_au⟩
theorem ok_law35_BoundaryReference (t : List Int) (times : Int) (r_ : Bool) (H0 : law35_BoundaryReference t times = some r_) : CallOK Try.prog 6 [.one (.p (.sl 1 (List.map encI t))), .one (.p (.val (.int .u8 times)))] [] [.one (.p (.val (.bool r_)))] [] := by
  refine callOK (n := 185) (rs := [.tmp 4]) (nb := 0) (V := []) Try.func6 rfl (by kernel_rfl) rfl rfl rfl rfl (Nat.le_of_ble_eq_true rfl) (by decide) ?_
  unfold law35_BoundaryReference at H0
  refine lok_rt E0 (⟨185, mkS [(0, .x (.one (.p (.sl 1 (List.map encI t))))), (1, .x (.one (.p (.val (.int .u8 times)))))], mkH []⟩) ?_
  refine lok_seq ?_
  replace H0 := bind_some H0
  obtain ⟨y, h_0, H0⟩ := H0
  refine lok_rt (Env.of E0 [⟨some 30, 8, [.one (.p (.sl 1 (List.map encI t)))], [], [.one (.p (.val (.bool y)))], [], True, fun _ => ok_mark_Light t y h_0, []⟩]) (⟨185, mkS [(0, .x (.one (.p (.sl 1 (List.map encI t))))), (1, .x (.one (.p (.val (.int .u8 times))))), (31, .x (.one (.p (.val (.bool (!y))))))], mkH []⟩) ?_
  refine lok_c (!y) ?_ ?_
  · intro b_35
    replace H0 := cpos H0 b_35
    replace H0 := bind_some H0
    obtain ⟨y1, h_1, H0⟩ := H0
    refine lok_rt (Env.of E0 [⟨some 32, 9, [], [], [.one (.p (.val (.bool y1)))], [], True, fun _ => ok_law35_sane y1 h_1, []⟩]) (⟨185, mkS [(4, .x (.one (.p (.val (.bool y1)))))], mkH []⟩) ?_
    refine lok_ret ?_
    obtain rfl := Option.some.inj H0
    try simp only [thenL, blockL]
    exact fin_au _ (.inr rfl) [] (⟨185, mkS [(4, .x (.one (.p (.val (.bool y1)))))], mkH []⟩) rfl rfl imp_au
  · intro b_35
    replace H0 := cneg H0 b_35
    refine lok_skip ?_
    try simp only [thenL, blockL, ↓reduceIte, reduceCtorEq]
    replace H0 := bind_some H0
    obtain ⟨y2, h_2, H0⟩ := H0
    refine lok_rt (Env.of E0 [⟨some 34, 10, [.one (.p (.sl 1 (List.map encI t)))], [], [.one (.ptr 0 0)], [some (.var [.p (.sl 1 (List.map encI y2.L)), .p (pi y2.At)])], True, fun _ => ok_mark_Roll t y2 h_2, []⟩]) (⟨185, mkS [(1, .x (.one (.p (.val (.int .u8 times))))), (5, .x (.one (.ptr 1034 0)))], mkH [(1034, .var [.p (.sl 1 (List.map encI y2.L)), .p (pi y2.At)])]⟩) ?_
    replace H0 := bind_some H0
    obtain ⟨⟨y3, y4⟩, h_3, H0⟩ := H0
    try dsimp only at H0
    replace H0 := bind_some H0
    obtain ⟨⟨y5, y6⟩, h_4, H0⟩ := H0
    try dsimp only at H0
    refine lok_rt (Env.of E0 [⟨some 36, 11, [.one (.ptr 0 0), .one (.p (pi (9 : Int))), .one (.p (.val (.bool false)))], [.var [.p (.sl 1 (List.map encI y2.L)), .p (pi y2.At)]], [.agg [.p (.sl 1 (List.map encI y3.Counts))]], [some (.var [.p (.sl 1 (List.map encI y4.L)), .p (pi y4.At)])], True, fun _ => ok_mark_Dice_Distribution y2 (9 : Int) false (y3, y4) h_3, []⟩,
      ⟨some 38, 11, [.one (.ptr 0 0), .one (.p (pi (9 : Int))), .one (.p (.val (.bool false)))], [.var [.p (.sl 1 (List.map encI y4.L)), .p (pi y4.At)]], [.agg [.p (.sl 1 (List.map encI y5.Counts))]], [some (.var [.p (.sl 1 (List.map encI y6.L)), .p (pi y6.At)])], True, fun _ => ok_mark_Dice_Distribution y4 (9 : Int) false (y5, y6) h_4, []⟩]) (⟨185, mkS [(1, .x (.one (.p (.val (.int .u8 times))))), (5, .x (.one (.ptr 1034 0))), (6, .x (.one (.ptr 106 0))), (7, .x (.one (.ptr 107 0)))], mkH [(106, .var [.p (.sl 1 (List.map encI y3.Counts))]), (107, .var [.p (.sl 1 (List.map encI y5.Counts))]), (1034, .var [.p (.sl 1 (List.map encI y6.L)), .p (pi y6.At)])]⟩) ?_
    refine lok_seq ?_
    replace H0 := bind_some H0
    obtain ⟨y7, h_5, H0⟩ := H0
    replace H0 := req_some H0
    obtain ⟨q_34, H0⟩ := H0
    refine lok_rt (Env.of E0 [⟨some 40, 16, [.agg [.p (.sl 1 (List.map encI y3.Counts))]], [], [.one (.p (pi y7))], [], True, fun _ => ok_ref32_Count y3 y7 h_5, []⟩,
      ⟨some 44, 16, [.agg [.p (.sl 1 (List.map encI y5.Counts))]], [], [.one (.p (pi ((ref32_Count y5).getD default)))], [], (ref32_Count y5).isSome = true, fun h => ok_ref32_Count y5 _ (isSome_get h), []⟩]) (⟨185, mkS [(1, .x (.one (.p (.val (.int .u8 times))))), (5, .x (.one (.ptr 1034 0))), (6, .x (.one (.ptr 106 0))), (7, .x (.one (.ptr 107 0))), (46, .x (.one (.p (.val (.bool ((y7 == (0 : Int)) || (((ref32_Count y5).getD default) == (0 : Int))))))))], mkH [(106, .var [.p (.sl 1 (List.map encI y3.Counts))]), (107, .var [.p (.sl 1 (List.map encI y5.Counts))]), (1034, .var [.p (.sl 1 (List.map encI y6.L)), .p (pi y6.At)])]⟩) ?_
    refine lok_c ((y7 == (0 : Int)) || (((ref32_Count y5).getD default) == (0 : Int))) ?_ ?_
    · intro b_33
      replace H0 := cpos H0 b_33
      replace H0 := bind_some H0
      obtain ⟨y8, h_6, H0⟩ := H0
      refine lok_rt (Env.of E0 [⟨some 47, 9, [], [], [.one (.p (.val (.bool y8)))], [], True, fun _ => ok_law35_sane y8 h_6, []⟩]) (⟨185, mkS [(4, .x (.one (.p (.val (.bool y8)))))], mkH []⟩) ?_
      refine lok_ret ?_
      obtain rfl := Option.some.inj H0
      try simp only [thenL, blockL]
      exact fin_au _ (.inr rfl) [] (⟨185, mkS [(4, .x (.one (.p (.val (.bool y8)))))], mkH []⟩) rfl rfl imp_au
    · intro b_33
      replace H0 := cneg H0 b_33
      refine lok_skip ?_
      try simp only [thenL, blockL, ↓reduceIte, reduceCtorEq]
      replace H0 := bind_some H0
      obtain ⟨⟨y9, y10⟩, h_7, H0⟩ := H0
      try dsimp only at H0
      refine lok_rt (Env.of E0 [⟨some 53, 12, [.one (.ptr 0 0), .one (.p (pi (IntKind.i64.wrap ((y5.Counts.length : Int) - (1 : Int)))))], [.var [.p (.sl 1 (List.map encI y6.L)), .p (pi y6.At)]], [.one (.p (.sl 1 (List.map encI y9)))], [some (.var [.p (.sl 1 (List.map encI y10.L)), .p (pi y10.At)])], True, fun _ => ok_mark_Dice_Bounds y6 (IntKind.i64.wrap ((y5.Counts.length : Int) - (1 : Int))) (y9, y10) h_7, []⟩]) (⟨185, mkS [(1, .x (.one (.p (.val (.int .u8 times))))), (6, .x (.one (.ptr 106 0))), (7, .x (.one (.ptr 107 0))), (8, .x (.one (.p (.sl 1 (List.map encI y9)))))], mkH [(106, .var [.p (.sl 1 (List.map encI y3.Counts))]), (107, .var [.p (.sl 1 (List.map encI y5.Counts))])]⟩) ?_
      replace H0 := bind_some H0
      obtain ⟨⟨y11, y12⟩, h_8, H0⟩ := H0
      try dsimp only at H0
      refine lok_rt (Env.of E0 [⟨some 58, 24, [.agg [.p (.sl 1 (List.map encI y5.Counts))], .agg [.p (.sl 1 (List.map encI y5.Counts))], .one (.p (.sl 1 (List.map encI y9)))], [], [.one (.p (.sl 1 (List.map encI y11))), .one (.p (pi y12))], [], True, fun _ => ok_boundary_Reference y5 y5 y9 (y11, y12) h_8, []⟩]) (⟨185, mkS [(1, .x (.one (.p (.val (.int .u8 times))))), (6, .x (.one (.ptr 106 0))), (7, .x (.one (.ptr 107 0))), (8, .x (.one (.p (.sl 1 (List.map encI y9))))), (9, .x (.one (.p (.sl 1 (List.map encI y11))))), (10, .x (.one (.p (pi y12))))], mkH [(106, .var [.p (.sl 1 (List.map encI y3.Counts))]), (107, .var [.p (.sl 1 (List.map encI y5.Counts))])]⟩) ?_
      replace H0 := bind_some H0
      obtain ⟨⟨y13, y14⟩, h_9, H0⟩ := H0
      try dsimp only at H0
      refine lok_rt (Env.of E0 [⟨some 64, 13, [.agg [.p (.sl 1 (List.map encI y5.Counts))], .one (.p (.sl 1 (List.map encI y11)))], [], [.one (.p (.sl 1 (List.map encI y13))), .one (.p (pi y14))], [], True, fun _ => ok_boundary_Tally y5 y11 (y13, y14) h_9, []⟩]) (⟨185, mkS [(1, .x (.one (.p (.val (.int .u8 times))))), (6, .x (.one (.ptr 106 0))), (7, .x (.one (.ptr 107 0))), (8, .x (.one (.p (.sl 1 (List.map encI y9))))), (10, .x (.one (.p (pi y12)))), (11, .x (.one (.p (.sl 1 (List.map encI y13))))), (12, .x (.one (.p (pi y14))))], mkH [(106, .var [.p (.sl 1 (List.map encI y3.Counts))]), (107, .var [.p (.sl 1 (List.map encI y5.Counts))])]⟩) ?_
      replace H0 := bind_some H0
      obtain ⟨⟨y15, y16⟩, h_10, H0⟩ := H0
      try dsimp only at H0
      refine lok_rt (Env.of E0 [⟨some 70, 13, [.agg [.p (.sl 1 (List.map encI y5.Counts))], .one (.p (.sl 1 (List.map encI y9)))], [], [.one (.p (.sl 1 (List.map encI y15))), .one (.p (pi y16))], [], True, fun _ => ok_boundary_Tally y5 y9 (y15, y16) h_10, []⟩]) (⟨185, mkS [(1, .x (.one (.p (.val (.int .u8 times))))), (6, .x (.one (.ptr 106 0))), (7, .x (.one (.ptr 107 0))), (8, .x (.one (.p (.sl 1 (List.map encI y9))))), (10, .x (.one (.p (pi y12)))), (11, .x (.one (.p (.sl 1 (List.map encI y13))))), (12, .x (.one (.p (pi y14)))), (13, .x (.one (.p (.sl 1 (List.map encI y15))))), (14, .x (.one (.p (pi y16))))], mkH [(106, .var [.p (.sl 1 (List.map encI y3.Counts))]), (107, .var [.p (.sl 1 (List.map encI y5.Counts))])]⟩) ?_
      replace H0 := bind_some H0
      obtain ⟨⟨y17, y18⟩, h_11, H0⟩ := H0
      try dsimp only at H0
      refine lok_rt (Env.of E0 [⟨some 77, 24, [.agg [.p (.sl 1 (List.map encI y3.Counts))], .agg [.p (.sl 1 (List.map encI y5.Counts))], .one (.p (.sl 1 (List.map encI y9)))], [], [.one (.p (.sl 1 (List.map encI y17))), .one (.p (pi y18))], [], True, fun _ => ok_boundary_Reference y3 y5 y9 (y17, y18) h_11, []⟩]) (⟨185, mkS [(1, .x (.one (.p (.val (.int .u8 times))))), (6, .x (.one (.ptr 106 0))), (7, .x (.one (.ptr 107 0))), (8, .x (.one (.p (.sl 1 (List.map encI y9))))), (10, .x (.one (.p (pi y12)))), (11, .x (.one (.p (.sl 1 (List.map encI y13))))), (12, .x (.one (.p (pi y14)))), (13, .x (.one (.p (.sl 1 (List.map encI y15))))), (14, .x (.one (.p (pi y16)))), (15, .x (.one (.p (.sl 1 (List.map encI y17))))), (16, .x (.one (.p (pi y18))))], mkH [(106, .var [.p (.sl 1 (List.map encI y3.Counts))]), (107, .var [.p (.sl 1 (List.map encI y5.Counts))])]⟩) ?_
      refine lok_seq ?_
      replace H0 := req_some H0
      obtain ⟨q_32, H0⟩ := H0
      refine lok_rt (Env.of E0 [⟨some 97, 15, [.one (.p (.sl 1 (List.map encI y13))), .one (.p (.sl 1 (List.map encI y15)))], [], [.one (.p (.val (.bool ((law35_same y13 y15).getD default))))], [], (law35_same y13 y15).isSome = true, fun h => ok_law35_same y13 y15 _ (isSome_get h), []⟩]) (⟨185, mkS [(1, .x (.one (.p (.val (.int .u8 times))))), (6, .x (.one (.ptr 106 0))), (7, .x (.one (.ptr 107 0))), (8, .x (.one (.p (.sl 1 (List.map encI y9))))), (15, .x (.one (.p (.sl 1 (List.map encI y17))))), (99, .x (.one (.p (.val (.bool (((((y12 != (0 : Int)) || (y14 != (0 : Int))) || (y16 != (0 : Int))) || (y18 != (0 : Int))) || (!((law35_same y13 y15).getD default))))))))], mkH [(106, .var [.p (.sl 1 (List.map encI y3.Counts))]), (107, .var [.p (.sl 1 (List.map encI y5.Counts))])]⟩) ?_
      refine lok_c (((((y12 != (0 : Int)) || (y14 != (0 : Int))) || (y16 != (0 : Int))) || (y18 != (0 : Int))) || (!((law35_same y13 y15).getD default))) ?_ ?_
      · intro b_31
        replace H0 := cpos H0 b_31
        refine lok_rt E0 (⟨185, mkS [(4, .x (.one (.p (.val (.bool false)))))], mkH []⟩) ?_
        refine lok_ret ?_
        obtain rfl := Option.some.inj H0
        try simp only [thenL, blockL]
        exact fin_au _ (.inr rfl) [] (⟨185, mkS [(4, .x (.one (.p (.val (.bool false)))))], mkH []⟩) rfl rfl imp_au
      · intro b_31
        replace H0 := cneg H0 b_31
        refine lok_skip ?_
        try simp only [thenL, blockL, ↓reduceIte, reduceCtorEq]
        refine lok_join (fun x_ : Unit => law35_BoundaryReference_j5 times y3 y5 y9 y17 = some r_) (fun x_ => ⟨185, mkS [(1, .x (.one (.p (.val (.int .u8 times))))), (6, .x (.one (.ptr 106 0))), (7, .x (.one (.ptr 107 0))), (8, .x (.one (.p (.sl 1 (List.map encI y9))))), (15, .x (.one (.p (.sl 1 (List.map encI y17)))))], mkH [(106, .var [.p (.sl 1 (List.map encI y3.Counts))]), (107, .var [.p (.sl 1 (List.map encI y5.Counts))])]⟩) ?hylaw35_BoundaryReference_j5 ?hxlaw35_BoundaryReference_j5
        case hylaw35_BoundaryReference_j5 =>
          rintro _ H0
          try dsimp only at H0 ⊢
          unfold law35_BoundaryReference_j5 at H0
          replace H0 := bindV_some H0
          obtain ⟨k, a_12, H0⟩ := H0
          refine lok_rtg E0 a_12 (⟨185, mkS [(6, .x (.one (.ptr 106 0))), (7, .x (.one (.ptr 107 0))), (8, .x (.one (.p (.sl 1 (List.map encI y9))))), (15, .x (.one (.p (.sl 1 (List.map encI y17))))), (18, .x (.one (.p (pi k))))], mkH [(106, .var [.p (.sl 1 (List.map encI y3.Counts))]), (107, .var [.p (.sl 1 (List.map encI y5.Counts))])]⟩) ?_
          refine lok_rt E0 (⟨185, mkS [(6, .x (.one (.ptr 106 0))), (7, .x (.one (.ptr 107 0))), (8, .x (.one (.p (.sl 1 (List.map encI y9))))), (15, .x (.one (.p (.sl 1 (List.map encI y17))))), (18, .x (.one (.p (pi k)))), (19, .x (.one (.ptr 119 0))), (20, .x (.one (.ptr 120 0)))], mkH [(106, .var [.p (.sl 1 (List.map encI y3.Counts))]), (107, .var [.p (.sl 1 (List.map encI y5.Counts))]), (119, .var [.p .nil]), (120, .var [.p .nil])]⟩) ?_
          refine lok_join (fun x_ : (List Int) => law35_BoundaryReference_j3 y3 y5 y9 y17 k x_ = some r_) (fun x_ => ⟨185, mkS [(6, .x (.one (.ptr 106 0))), (7, .x (.one (.ptr 107 0))), (8, .x (.one (.p (.sl 1 (List.map encI y9))))), (15, .x (.one (.p (.sl 1 (List.map encI y17))))), (18, .x (.one (.p (pi k)))), (19, .x (.one (.ptr 119 0))), (20, .x (.one (.ptr 120 0)))], mkH [(106, .var [.p (.sl 1 (List.map encI y3.Counts))]), (107, .var [.p (.sl 1 (List.map encI y5.Counts))]), (119, .var [.vw 233]), (120, .var [.p .nil]), (233, .arr 1 (List.map encI x_))]⟩) ?hylaw35_BoundaryReference_j3 ?hxlaw35_BoundaryReference_j3
          case hylaw35_BoundaryReference_j3 =>
            rintro w H0
            try dsimp only at H0 ⊢
            unfold law35_BoundaryReference_j3 at H0
            refine lok_join (fun x_ : (List Int) => law35_BoundaryReference_j1 y3 y5 y9 y17 w x_ = some r_) (fun x_ => ⟨185, mkS [(6, .x (.one (.ptr 106 0))), (7, .x (.one (.ptr 107 0))), (8, .x (.one (.p (.sl 1 (List.map encI y9))))), (15, .x (.one (.p (.sl 1 (List.map encI y17))))), (19, .x (.one (.ptr 119 0))), (20, .x (.one (.ptr 120 0)))], mkH [(106, .var [.p (.sl 1 (List.map encI y3.Counts))]), (107, .var [.p (.sl 1 (List.map encI y5.Counts))]), (119, .var [.vw 233]), (120, .var [.vw 249]), (233, .arr 1 (List.map encI w)), (249, .arr 1 (List.map encI x_))]⟩) ?hylaw35_BoundaryReference_j1 ?hxlaw35_BoundaryReference_j1
            case hylaw35_BoundaryReference_j1 =>
              rintro w1 H0
              try dsimp only at H0 ⊢
              unfold law35_BoundaryReference_j1 at H0
              refine lok_imp (st' := ⟨185, mkS [(6, .x (.one (.ptr 106 0))), (7, .x (.one (.ptr 107 0))), (8, .x (.one (.p (.sl 1 (List.map encI y9))))), (15, .x (.one (.p (.sl 1 (List.map encI y17))))), (19, .x (.one (.ptr 119 0))), (20, .x (.one (.ptr 120 0)))], mkH [(106, .var [.p (.sl 1 (List.map encI y3.Counts))]), (107, .var [.p (.sl 1 (List.map encI y5.Counts))]), (119, .var [.p (.sl 1 (List.map encI w))]), (120, .var [.vw 249]), (249, .arr 1 (List.map encI w1))]⟩) (Imp.trans (imp_frz 233 1 (List.map encI w)) imp_au) ?_
              replace H0 := bind_some H0
              obtain ⟨⟨y19, y20⟩, h_13, H0⟩ := H0
              try dsimp only at H0
              refine lok_rt (Env.of E0 [⟨some 156, 24, [.agg [.p (.sl 1 (List.map encI w))], .agg [.p (.sl 1 (List.map encI y5.Counts))], .one (.p (.sl 1 (List.map encI y9)))], [], [.one (.p (.sl 1 (List.map encI y19))), .one (.p (pi y20))], [], True, fun _ => ok_boundary_Reference (api_Distribution.mk w) y5 y9 (y19, y20) h_13, []⟩]) (⟨185, mkS [(6, .x (.one (.ptr 106 0))), (8, .x (.one (.p (.sl 1 (List.map encI y9))))), (15, .x (.one (.p (.sl 1 (List.map encI y17))))), (20, .x (.one (.ptr 120 0))), (25, .x (.one (.p (.sl 1 (List.map encI y19))))), (26, .x (.one (.p (pi y20))))], mkH [(106, .var [.p (.sl 1 (List.map encI y3.Counts))]), (120, .var [.vw 249]), (249, .arr 1 (List.map encI w1))]⟩) ?_
              refine lok_imp (st' := ⟨185, mkS [(6, .x (.one (.ptr 106 0))), (8, .x (.one (.p (.sl 1 (List.map encI y9))))), (15, .x (.one (.p (.sl 1 (List.map encI y17))))), (20, .x (.one (.ptr 120 0))), (25, .x (.one (.p (.sl 1 (List.map encI y19))))), (26, .x (.one (.p (pi y20))))], mkH [(106, .var [.p (.sl 1 (List.map encI y3.Counts))]), (120, .var [.p (.sl 1 (List.map encI w1))])]⟩) (Imp.trans (imp_frz 249 1 (List.map encI w1)) imp_au) ?_
              replace H0 := bind_some H0
              obtain ⟨⟨y21, y22⟩, h_14, H0⟩ := H0
              try dsimp only at H0
              refine lok_rt (Env.of E0 [⟨some 163, 24, [.agg [.p (.sl 1 (List.map encI y3.Counts))], .agg [.p (.sl 1 (List.map encI w1))], .one (.p (.sl 1 (List.map encI y9)))], [], [.one (.p (.sl 1 (List.map encI y21))), .one (.p (pi y22))], [], True, fun _ => ok_boundary_Reference y3 (api_Distribution.mk w1) y9 (y21, y22) h_14, []⟩]) (⟨185, mkS [(15, .x (.one (.p (.sl 1 (List.map encI y17))))), (25, .x (.one (.p (.sl 1 (List.map encI y19))))), (26, .x (.one (.p (pi y20)))), (27, .x (.one (.p (.sl 1 (List.map encI y21))))), (28, .x (.one (.p (pi y22))))], mkH []⟩) ?_
              replace H0 := req_some H0
              obtain ⟨⟨q_15, q_16, q_17⟩, H0⟩ := H0
              refine lok_rt (Env.of E0 [⟨some 175, 15, [.one (.p (.sl 1 (List.map encI y19))), .one (.p (.sl 1 (List.map encI y17)))], [], [.one (.p (.val (.bool ((law35_same y19 y17).getD default))))], [], (law35_same y19 y17).isSome = true, fun h => ok_law35_same y19 y17 _ (isSome_get h), []⟩,
      ⟨some 180, 15, [.one (.p (.sl 1 (List.map encI y21))), .one (.p (.sl 1 (List.map encI y17)))], [], [.one (.p (.val (.bool ((law35_same y21 y17).getD default))))], [], (law35_same y21 y17).isSome = true, fun h => ok_law35_same y21 y17 _ (isSome_get h), []⟩,
      ⟨some 183, 9, [], [], [.one (.p (.val (.bool ((law35_sane).getD default))))], [], (law35_sane).isSome = true, fun h => ok_law35_sane _ (isSome_get h), []⟩]) (⟨185, mkS [(4, .x (.one (.p (.val (.bool (((((y20 == (0 : Int)) && (y22 == (0 : Int))) && ((law35_same y19 y17).getD default)) && ((law35_same y21 y17).getD default)) && ((law35_sane).getD default)))))))], mkH []⟩) ?_
              refine lok_ret ?_
              obtain rfl := Option.some.inj H0
              try simp only [thenL, blockL]
              exact fin_au _ (.inr rfl) [] (⟨185, mkS [(4, .x (.one (.p (.val (.bool (((((y20 == (0 : Int)) && (y22 == (0 : Int))) && ((law35_same y19 y17).getD default)) && ((law35_same y21 y17).getD default)) && ((law35_sane).getD default)))))))], mkH []⟩) rfl rfl imp_au
            case hxlaw35_BoundaryReference_j1 =>
              refine lok_rt E0 (⟨185, mkS [(6, .x (.one (.ptr 106 0))), (7, .x (.one (.ptr 107 0))), (8, .x (.one (.p (.sl 1 (List.map encI y9))))), (15, .x (.one (.p (.sl 1 (List.map encI y17))))), (18, .x (.one (.p (pi k)))), (19, .x (.one (.ptr 119 0))), (20, .x (.one (.ptr 120 0))), (137, .x (.one (.p (.sl 1 (List.map encI y5.Counts))))), (138, .x (.one (.p (pi (y5.Counts.length : Int))))), (139, .x (.one (.p (pi (0 : Int)))))], mkH [(106, .var [.p (.sl 1 (List.map encI y3.Counts))]), (107, .var [.p (.sl 1 (List.map encI y5.Counts))]), (119, .var [.vw 233]), (120, .var [.p .nil]), (233, .arr 1 (List.map encI w))]⟩) ?_
              refine lok_block ?_
              replace H0 := bind_some H0
              obtain ⟨v_18, hv_18, H0⟩ := H0
              refine lok_iter (fun x_ => ⟨185, mkS [(6, .x (.one (.ptr 106 0))), (7, .x (.one (.ptr 107 0))), (8, .x (.one (.p (.sl 1 (List.map encI y9))))), (15, .x (.one (.p (.sl 1 (List.map encI y17))))), (18, .x (.one (.p (pi k)))), (19, .x (.one (.ptr 119 0))), (20, .x (.one (.ptr 120 0))), (137, .x (.one (.p (.sl 1 (List.map encI y5.Counts))))), (138, .x (.one (.p (pi (y5.Counts.length : Int))))), (139, .x (.one (.p (pi x_.1))))], mkH [(106, .var [.p (.sl 1 (List.map encI y3.Counts))]), (107, .var [.p (.sl 1 (List.map encI y5.Counts))]), (119, .var [.vw 233]), (120, .var [.vw 249]), (233, .arr 1 (List.map encI w)), (249, .arr 1 (List.map encI x_.2))]⟩) hv_18 imp_au ?_
              · rintro ⟨v, w2⟩ o_1 H1 k_1
                unfold law35_BoundaryReference_l2 at H1
                try dsimp only at H1 ⊢
                refine lok_rt E0 (⟨185, mkS [(6, .x (.one (.ptr 106 0))), (7, .x (.one (.ptr 107 0))), (8, .x (.one (.p (.sl 1 (List.map encI y9))))), (15, .x (.one (.p (.sl 1 (List.map encI y17))))), (18, .x (.one (.p (pi k)))), (19, .x (.one (.ptr 119 0))), (20, .x (.one (.ptr 120 0))), (137, .x (.one (.p (.sl 1 (List.map encI y5.Counts))))), (138, .x (.one (.p (pi (y5.Counts.length : Int))))), (139, .x (.one (.p (pi v)))), (140, .x (.one (.p (.val (.bool (decide (v < (y5.Counts.length : Int))))))))], mkH [(106, .var [.p (.sl 1 (List.map encI y3.Counts))]), (107, .var [.p (.sl 1 (List.map encI y5.Counts))]), (119, .var [.vw 233]), (120, .var [.vw 249]), (233, .arr 1 (List.map encI w)), (249, .arr 1 (List.map encI w2))]⟩) ?_
                refine lok_seq ?_
                refine lok_c (decide (v < (y5.Counts.length : Int))) ?_ ?_
                · intro b_21
                  replace H1 := cpos H1 b_21
                  refine lok_skip ?_
                  try simp only [thenL, blockL, ↓reduceIte, reduceCtorEq]
                  refine lok_seq ?_
                  refine lok_block ?_
                  replace H1 := req_some H1
                  obtain ⟨q_20, H1⟩ := H1
                  refine lok_rt E0 (⟨185, mkS [(6, .x (.one (.ptr 106 0))), (7, .x (.one (.ptr 107 0))), (8, .x (.one (.p (.sl 1 (List.map encI y9))))), (15, .x (.one (.p (.sl 1 (List.map encI y17))))), (18, .x (.one (.p (pi k)))), (19, .x (.one (.ptr 119 0))), (20, .x (.one (.ptr 120 0))), (24, .x (.one (.p (pi (ix y5.Counts v))))), (137, .x (.one (.p (.sl 1 (List.map encI y5.Counts))))), (138, .x (.one (.p (pi (y5.Counts.length : Int))))), (139, .x (.one (.p (pi v))))], mkH [(106, .var [.p (.sl 1 (List.map encI y3.Counts))]), (107, .var [.p (.sl 1 (List.map encI y5.Counts))]), (119, .var [.vw 233]), (120, .var [.vw 249]), (233, .arr 1 (List.map encI w)), (249, .arr 1 (List.map encI w2))]⟩) ?_
                  replace H1 := req_some H1
                  obtain ⟨q_19, H1⟩ := H1
                  refine lok_rl E0 (⟨185, mkS [(6, .x (.one (.ptr 106 0))), (7, .x (.one (.ptr 107 0))), (8, .x (.one (.p (.sl 1 (List.map encI y9))))), (15, .x (.one (.p (.sl 1 (List.map encI y17))))), (18, .x (.one (.p (pi k)))), (19, .x (.one (.ptr 119 0))), (20, .x (.one (.ptr 120 0))), (137, .x (.one (.p (.sl 1 (List.map encI y5.Counts))))), (138, .x (.one (.p (pi (y5.Counts.length : Int))))), (139, .x (.one (.p (pi v))))], mkH [(106, .var [.p (.sl 1 (List.map encI y3.Counts))]), (107, .var [.p (.sl 1 (List.map encI y5.Counts))]), (119, .var [.vw 233]), (120, .var [.vw 249]), (233, .arr 1 (List.map encI w)), (249, .arr 1 (List.map encI (w2 ++ [(IntKind.i64.wrap ((ix y5.Counts v) * k))])))]⟩) ?_
                  try simp only [thenL, blockL, ↓reduceIte, reduceCtorEq]
                  refine lok_rl E0 (⟨185, mkS [(6, .x (.one (.ptr 106 0))), (7, .x (.one (.ptr 107 0))), (8, .x (.one (.p (.sl 1 (List.map encI y9))))), (15, .x (.one (.p (.sl 1 (List.map encI y17))))), (18, .x (.one (.p (pi k)))), (19, .x (.one (.ptr 119 0))), (20, .x (.one (.ptr 120 0))), (137, .x (.one (.p (.sl 1 (List.map encI y5.Counts))))), (138, .x (.one (.p (pi (y5.Counts.length : Int))))), (139, .x (.one (.p (pi (IntKind.i64.wrap (v + (1 : Int)))))))], mkH [(106, .var [.p (.sl 1 (List.map encI y3.Counts))]), (107, .var [.p (.sl 1 (List.map encI y5.Counts))]), (119, .var [.vw 233]), (120, .var [.vw 249]), (233, .arr 1 (List.map encI w)), (249, .arr 1 (List.map encI (w2 ++ [(IntKind.i64.wrap ((ix y5.Counts v) * k))])))]⟩) ?_
                  try simp only [thenL, blockL, ↓reduceIte, reduceCtorEq]
                  exact ⟨((IntKind.i64.wrap (v + (1 : Int))), (w2 ++ [(IntKind.i64.wrap ((ix y5.Counts v) * k))])), (Option.some.inj H1).symm, imp_au⟩
                · intro b_21
                  replace H1 := cneg H1 b_21
                  refine lok_exit ?_
                  try simp only [thenL, blockL, ↓reduceIte, reduceCtorEq]
                  have e_1 := k_1 _ (Option.some.inj H1).symm
                  subst e_1
                  try dsimp only at H0
                  try simp only [thenL, blockL, ↓reduceIte, reduceCtorEq]
                  exact ⟨w2, H0, imp_au⟩
          case hxlaw35_BoundaryReference_j3 =>
            refine lok_rt E0 (⟨185, mkS [(6, .x (.one (.ptr 106 0))), (7, .x (.one (.ptr 107 0))), (8, .x (.one (.p (.sl 1 (List.map encI y9))))), (15, .x (.one (.p (.sl 1 (List.map encI y17))))), (18, .x (.one (.p (pi k)))), (19, .x (.one (.ptr 119 0))), (20, .x (.one (.ptr 120 0))), (121, .x (.one (.p (.sl 1 (List.map encI y3.Counts))))), (122, .x (.one (.p (pi (y3.Counts.length : Int))))), (123, .x (.one (.p (pi (0 : Int)))))], mkH [(106, .var [.p (.sl 1 (List.map encI y3.Counts))]), (107, .var [.p (.sl 1 (List.map encI y5.Counts))]), (119, .var [.p .nil]), (120, .var [.p .nil])]⟩) ?_
            refine lok_block ?_
            replace H0 := bind_some H0
            obtain ⟨v_22, hv_22, H0⟩ := H0
            refine lok_iter (fun x_ => ⟨185, mkS [(6, .x (.one (.ptr 106 0))), (7, .x (.one (.ptr 107 0))), (8, .x (.one (.p (.sl 1 (List.map encI y9))))), (15, .x (.one (.p (.sl 1 (List.map encI y17))))), (18, .x (.one (.p (pi k)))), (19, .x (.one (.ptr 119 0))), (20, .x (.one (.ptr 120 0))), (121, .x (.one (.p (.sl 1 (List.map encI y3.Counts))))), (122, .x (.one (.p (pi (y3.Counts.length : Int))))), (123, .x (.one (.p (pi x_.1))))], mkH [(106, .var [.p (.sl 1 (List.map encI y3.Counts))]), (107, .var [.p (.sl 1 (List.map encI y5.Counts))]), (119, .var [.vw 233]), (120, .var [.p .nil]), (233, .arr 1 (List.map encI x_.2))]⟩) hv_22 imp_au ?_
            · rintro ⟨v1, w4⟩ o_1 H1 k_1
              unfold law35_BoundaryReference_l4 at H1
              try dsimp only at H1 ⊢
              refine lok_rt E0 (⟨185, mkS [(6, .x (.one (.ptr 106 0))), (7, .x (.one (.ptr 107 0))), (8, .x (.one (.p (.sl 1 (List.map encI y9))))), (15, .x (.one (.p (.sl 1 (List.map encI y17))))), (18, .x (.one (.p (pi k)))), (19, .x (.one (.ptr 119 0))), (20, .x (.one (.ptr 120 0))), (121, .x (.one (.p (.sl 1 (List.map encI y3.Counts))))), (122, .x (.one (.p (pi (y3.Counts.length : Int))))), (123, .x (.one (.p (pi v1)))), (124, .x (.one (.p (.val (.bool (decide (v1 < (y3.Counts.length : Int))))))))], mkH [(106, .var [.p (.sl 1 (List.map encI y3.Counts))]), (107, .var [.p (.sl 1 (List.map encI y5.Counts))]), (119, .var [.vw 233]), (120, .var [.p .nil]), (233, .arr 1 (List.map encI w4))]⟩) ?_
              refine lok_seq ?_
              refine lok_c (decide (v1 < (y3.Counts.length : Int))) ?_ ?_
              · intro b_25
                replace H1 := cpos H1 b_25
                refine lok_skip ?_
                try simp only [thenL, blockL, ↓reduceIte, reduceCtorEq]
                refine lok_seq ?_
                refine lok_block ?_
                replace H1 := req_some H1
                obtain ⟨q_24, H1⟩ := H1
                refine lok_rt E0 (⟨185, mkS [(6, .x (.one (.ptr 106 0))), (7, .x (.one (.ptr 107 0))), (8, .x (.one (.p (.sl 1 (List.map encI y9))))), (15, .x (.one (.p (.sl 1 (List.map encI y17))))), (18, .x (.one (.p (pi k)))), (19, .x (.one (.ptr 119 0))), (20, .x (.one (.ptr 120 0))), (22, .x (.one (.p (pi (ix y3.Counts v1))))), (121, .x (.one (.p (.sl 1 (List.map encI y3.Counts))))), (122, .x (.one (.p (pi (y3.Counts.length : Int))))), (123, .x (.one (.p (pi v1))))], mkH [(106, .var [.p (.sl 1 (List.map encI y3.Counts))]), (107, .var [.p (.sl 1 (List.map encI y5.Counts))]), (119, .var [.vw 233]), (120, .var [.p .nil]), (233, .arr 1 (List.map encI w4))]⟩) ?_
                replace H1 := req_some H1
                obtain ⟨q_23, H1⟩ := H1
                refine lok_rl E0 (⟨185, mkS [(6, .x (.one (.ptr 106 0))), (7, .x (.one (.ptr 107 0))), (8, .x (.one (.p (.sl 1 (List.map encI y9))))), (15, .x (.one (.p (.sl 1 (List.map encI y17))))), (18, .x (.one (.p (pi k)))), (19, .x (.one (.ptr 119 0))), (20, .x (.one (.ptr 120 0))), (121, .x (.one (.p (.sl 1 (List.map encI y3.Counts))))), (122, .x (.one (.p (pi (y3.Counts.length : Int))))), (123, .x (.one (.p (pi v1))))], mkH [(106, .var [.p (.sl 1 (List.map encI y3.Counts))]), (107, .var [.p (.sl 1 (List.map encI y5.Counts))]), (119, .var [.vw 233]), (120, .var [.p .nil]), (233, .arr 1 (List.map encI (w4 ++ [(IntKind.i64.wrap ((ix y3.Counts v1) * k))])))]⟩) ?_
                try simp only [thenL, blockL, ↓reduceIte, reduceCtorEq]
                refine lok_rl E0 (⟨185, mkS [(6, .x (.one (.ptr 106 0))), (7, .x (.one (.ptr 107 0))), (8, .x (.one (.p (.sl 1 (List.map encI y9))))), (15, .x (.one (.p (.sl 1 (List.map encI y17))))), (18, .x (.one (.p (pi k)))), (19, .x (.one (.ptr 119 0))), (20, .x (.one (.ptr 120 0))), (121, .x (.one (.p (.sl 1 (List.map encI y3.Counts))))), (122, .x (.one (.p (pi (y3.Counts.length : Int))))), (123, .x (.one (.p (pi (IntKind.i64.wrap (v1 + (1 : Int)))))))], mkH [(106, .var [.p (.sl 1 (List.map encI y3.Counts))]), (107, .var [.p (.sl 1 (List.map encI y5.Counts))]), (119, .var [.vw 233]), (120, .var [.p .nil]), (233, .arr 1 (List.map encI (w4 ++ [(IntKind.i64.wrap ((ix y3.Counts v1) * k))])))]⟩) ?_
                try simp only [thenL, blockL, ↓reduceIte, reduceCtorEq]
                exact ⟨((IntKind.i64.wrap (v1 + (1 : Int))), (w4 ++ [(IntKind.i64.wrap ((ix y3.Counts v1) * k))])), (Option.some.inj H1).symm, imp_au⟩
              · intro b_25
                replace H1 := cneg H1 b_25
                refine lok_exit ?_
                try simp only [thenL, blockL, ↓reduceIte, reduceCtorEq]
                have e_1 := k_1 _ (Option.some.inj H1).symm
                subst e_1
                try dsimp only at H0
                try simp only [thenL, blockL, ↓reduceIte, reduceCtorEq]
                exact ⟨w4, H0, imp_au⟩
        case hxlaw35_BoundaryReference_j5 =>
          refine lok_rt E0 (⟨185, mkS [(1, .x (.one (.p (.val (.int .u8 times))))), (6, .x (.one (.ptr 106 0))), (7, .x (.one (.ptr 107 0))), (8, .x (.one (.p (.sl 1 (List.map encI y9))))), (15, .x (.one (.p (.sl 1 (List.map encI y17))))), (17, .x (.one (.p (pi (1 : Int)))))], mkH [(106, .var [.p (.sl 1 (List.map encI y3.Counts))]), (107, .var [.p (.sl 1 (List.map encI y5.Counts))])]⟩) ?_
          refine lok_block ?_
          replace H0 := bind_some H0
          obtain ⟨v_26, hv_26, H0⟩ := H0
          refine lok_iter (fun x_ => ⟨185, mkS [(1, .x (.one (.p (.val (.int .u8 times))))), (6, .x (.one (.ptr 106 0))), (7, .x (.one (.ptr 107 0))), (8, .x (.one (.p (.sl 1 (List.map encI y9))))), (15, .x (.one (.p (.sl 1 (List.map encI y17))))), (17, .x (.one (.p (pi x_))))], mkH [(106, .var [.p (.sl 1 (List.map encI y3.Counts))]), (107, .var [.p (.sl 1 (List.map encI y5.Counts))])]⟩) hv_26 imp_au ?_
          · rintro i o_1 H1 k_1
            unfold law35_BoundaryReference_l6 at H1
            try dsimp only at H1 ⊢
            refine lok_seq ?_
            refine lok_rt E0 (⟨185, mkS [(1, .x (.one (.p (.val (.int .u8 times))))), (6, .x (.one (.ptr 106 0))), (7, .x (.one (.ptr 107 0))), (8, .x (.one (.p (.sl 1 (List.map encI y9))))), (15, .x (.one (.p (.sl 1 (List.map encI y17))))), (17, .x (.one (.p (pi i)))), (103, .x (.one (.p (.val (.bool (decide (i < (y17.length : Int))))))))], mkH [(106, .var [.p (.sl 1 (List.map encI y3.Counts))]), (107, .var [.p (.sl 1 (List.map encI y5.Counts))])]⟩) ?_
            refine lok_c (decide (i < (y17.length : Int))) ?_ ?_
            · intro b_30
              replace H1 := cpos H1 b_30
              refine lok_skip ?_
              try simp only [thenL, blockL, ↓reduceIte, reduceCtorEq]
              refine lok_seq ?_
              refine lok_block ?_
              replace H1 := req_some H1
              obtain ⟨⟨q_28, q_29⟩, H1⟩ := H1
              refine lok_dt E0 9 (⟨185, mkS [(1, .x (.one (.p (.val (.int .u8 times))))), (6, .x (.one (.ptr 106 0))), (7, .x (.one (.ptr 107 0))), (8, .x (.one (.p (.sl 1 (List.map encI y9))))), (15, .x (.one (.p (.sl 1 (List.map encI y17))))), (17, .x (.one (.p (pi i)))), (115, .x (.one (.p (.val (.bool (decide ((ix y17 (IntKind.i64.wrap (i - (1 : Int)))) < (ix y17 i))))))))], mkH [(106, .var [.p (.sl 1 (List.map encI y3.Counts))]), (107, .var [.p (.sl 1 (List.map encI y5.Counts))])]⟩) (by kernel_rfl) (by kernel_rfl) ?_
              refine lok_c (decide ((ix y17 (IntKind.i64.wrap (i - (1 : Int)))) < (ix y17 i))) ?_ ?_
              · intro b_27
                replace H1 := cpos H1 b_27
                refine lok_rt E0 (⟨185, mkS [(4, .x (.one (.p (.val (.bool false)))))], mkH []⟩) ?_
                refine lok_ret ?_
                try simp only [thenL, blockL, ↓reduceIte, reduceCtorEq]
                have e_1 := k_1 _ (Option.some.inj H1).symm
                subst e_1
                try dsimp only at H0
                obtain rfl := Option.some.inj H0
                try simp only [thenL, blockL]
                exact fin_au _ (.inr rfl) [] (⟨185, mkS [(4, .x (.one (.p (.val (.bool false)))))], mkH []⟩) rfl rfl imp_au
              · intro b_27
                replace H1 := cneg H1 b_27
                refine lok_skip ?_
                try simp only [thenL, blockL, ↓reduceIte, reduceCtorEq]
                refine lok_rl E0 (⟨185, mkS [(1, .x (.one (.p (.val (.int .u8 times))))), (6, .x (.one (.ptr 106 0))), (7, .x (.one (.ptr 107 0))), (8, .x (.one (.p (.sl 1 (List.map encI y9))))), (15, .x (.one (.p (.sl 1 (List.map encI y17))))), (17, .x (.one (.p (pi (IntKind.i64.wrap (i + (1 : Int)))))))], mkH [(106, .var [.p (.sl 1 (List.map encI y3.Counts))]), (107, .var [.p (.sl 1 (List.map encI y5.Counts))])]⟩) ?_
                try simp only [thenL, blockL, ↓reduceIte, reduceCtorEq]
                exact ⟨(IntKind.i64.wrap (i + (1 : Int))), (Option.some.inj H1).symm, imp_au⟩
            · intro b_30
              replace H1 := cneg H1 b_30
              refine lok_exit ?_
              try simp only [thenL, blockL, ↓reduceIte, reduceCtorEq]
              have e_1 := k_1 _ (Option.some.inj H1).symm
              subst e_1
              try dsimp only at H0
              try simp only [thenL, blockL, ↓reduceIte, reduceCtorEq]
              exact ⟨(), H0, imp_au⟩
end Go.LS
