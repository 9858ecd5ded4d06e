/-
  The walks: the functions compute what the plain ones say. Condition: the plain function has a value.
-/
import Derived.Test.YtamifffofclhkaaK1
import Derived.Test.YtamifffofclhkaaD2
namespace Go.LS
open Go.Proofs
set_option linter.all false
set_option linter.unusedSimpArgs false
set_option linter.unusedVariables false
set_option maxRecDepth 20000

theorem ok_bits_Len64 (x : Int) (r_ : Int) (H0 : bits_Len64 x = some r_) : CallOK Try.prog 87 [.one (.p (.val (.int .u64 x)))] [] [.one (.p (pi r_))] [] := by
  refine callOK (n := 25) (rs := [.tmp 2]) (nb := 0) (V := []) Try.func87 rfl (by kernel_rfl) rfl rfl rfl rfl (Nat.le_of_ble_eq_true rfl) (by decide) ?_
  unfold bits_Len64 at H0
  refine lok_rt E0 (⟨25, mkS [(0, .x (.one (.p (.val (.int .u64 x))))), (2, .x (.one (.p (pi (0 : Int)))))], mkH []⟩) ?_
  refine lok_join (fun x_ : Int × Int => bits_Len64_j3 x_.1 x_.2 = some r_) (fun x_ => ⟨25, mkS [(0, .x (.one (.p (.val (.int .u64 x_.1))))), (2, .x (.one (.p (pi x_.2))))], mkH []⟩) ?hybits_Len64_j3 ?hxbits_Len64_j3
  case hybits_Len64_j3 =>
    rintro ⟨x1, n⟩ H0
    try dsimp only at H0 ⊢
    unfold bits_Len64_j3 at H0
    refine lok_join (fun x_ : Int × Int => bits_Len64_j2 x_.1 x_.2 = some r_) (fun x_ => ⟨25, mkS [(0, .x (.one (.p (.val (.int .u64 x_.1))))), (2, .x (.one (.p (pi x_.2))))], mkH []⟩) ?hybits_Len64_j2 ?hxbits_Len64_j2
    case hybits_Len64_j2 =>
      rintro ⟨x2, n1⟩ H0
      try dsimp only at H0 ⊢
      unfold bits_Len64_j2 at H0
      refine lok_join (fun x_ : Int × Int => bits_Len64_j1 x_.1 x_.2 = some r_) (fun x_ => ⟨25, mkS [(0, .x (.one (.p (.val (.int .u64 x_.1))))), (2, .x (.one (.p (pi x_.2))))], mkH []⟩) ?hybits_Len64_j1 ?hxbits_Len64_j1
      case hybits_Len64_j1 =>
        rintro ⟨x3, n2⟩ H0
        try dsimp only at H0 ⊢
        unfold bits_Len64_j1 at H0
        replace H0 := req_some H0
        obtain ⟨q_1, H0⟩ := H0
        replace H0 := bindV_some H0
        obtain ⟨n3, a_0, H0⟩ := H0
        refine lok_rtg E0 a_0 (⟨25, mkS [(2, .x (.one (.p (pi n3))))], mkH []⟩) ?_
        refine lok_ret ?_
        obtain rfl := Option.some.inj H0
        try simp only [thenL, blockL]
        exact fin_au _ (.inr rfl) [] (⟨25, mkS [(2, .x (.one (.p (pi n3))))], mkH []⟩) rfl rfl imp_au
      case hxbits_Len64_j1 =>
        refine lok_rt E0 (⟨25, mkS [(0, .x (.one (.p (.val (.int .u64 x2))))), (2, .x (.one (.p (pi n1)))), (14, .x (.one (.p (.val (.bool (decide ((256 : Int) ≤ x2)))))))], mkH []⟩) ?_
        refine lok_c (decide ((256 : Int) ≤ x2)) ?_ ?_
        · intro b_2
          replace H0 := cpos H0 b_2
          refine lok_rt E0 (⟨25, mkS [(0, .x (.one (.p (.val (.int .u64 (bShr .u64 x2 (8 : Int))))))), (2, .x (.one (.p (pi n1))))], mkH []⟩) ?_
          refine lok_rl E0 (⟨25, mkS [(0, .x (.one (.p (.val (.int .u64 (bShr .u64 x2 (8 : Int))))))), (2, .x (.one (.p (pi (IntKind.i64.wrap (n1 + (8 : Int)))))))], mkH []⟩) ?_
          try simp only [thenL, blockL, ↓reduceIte, reduceCtorEq]
          exact ⟨((bShr .u64 x2 (8 : Int)), (IntKind.i64.wrap (n1 + (8 : Int)))), H0, imp_au⟩
        · intro b_2
          replace H0 := cneg H0 b_2
          refine lok_skip ?_
          try simp only [thenL, blockL, ↓reduceIte, reduceCtorEq]
          exact ⟨(x2, n1), H0, imp_au⟩
    case hxbits_Len64_j2 =>
      refine lok_rt E0 (⟨25, mkS [(0, .x (.one (.p (.val (.int .u64 x1))))), (2, .x (.one (.p (pi n)))), (8, .x (.one (.p (.val (.bool (decide ((65536 : Int) ≤ x1)))))))], mkH []⟩) ?_
      refine lok_c (decide ((65536 : Int) ≤ x1)) ?_ ?_
      · intro b_3
        replace H0 := cpos H0 b_3
        refine lok_rt E0 (⟨25, mkS [(0, .x (.one (.p (.val (.int .u64 (bShr .u64 x1 (16 : Int))))))), (2, .x (.one (.p (pi n))))], mkH []⟩) ?_
        refine lok_rl E0 (⟨25, mkS [(0, .x (.one (.p (.val (.int .u64 (bShr .u64 x1 (16 : Int))))))), (2, .x (.one (.p (pi (IntKind.i64.wrap (n + (16 : Int)))))))], mkH []⟩) ?_
        try simp only [thenL, blockL, ↓reduceIte, reduceCtorEq]
        exact ⟨((bShr .u64 x1 (16 : Int)), (IntKind.i64.wrap (n + (16 : Int)))), H0, imp_au⟩
      · intro b_3
        replace H0 := cneg H0 b_3
        refine lok_skip ?_
        try simp only [thenL, blockL, ↓reduceIte, reduceCtorEq]
        exact ⟨(x1, n), H0, imp_au⟩
  case hxbits_Len64_j3 =>
    refine lok_rt E0 (⟨25, mkS [(0, .x (.one (.p (.val (.int .u64 x))))), (2, .x (.one (.p (pi (0 : Int))))), (4, .x (.one (.p (.val (.bool (decide ((4294967296 : Int) ≤ x)))))))], mkH []⟩) ?_
    refine lok_c (decide ((4294967296 : Int) ≤ x)) ?_ ?_
    · intro b_4
      replace H0 := cpos H0 b_4
      refine lok_rt E0 (⟨25, mkS [(0, .x (.one (.p (.val (.int .u64 (bShr .u64 x (32 : Int)))))))], mkH []⟩) ?_
      refine lok_rl E0 (⟨25, mkS [(0, .x (.one (.p (.val (.int .u64 (bShr .u64 x (32 : Int))))))), (2, .x (.one (.p (pi (32 : Int)))))], mkH []⟩) ?_
      try simp only [thenL, blockL, ↓reduceIte, reduceCtorEq]
      exact ⟨((bShr .u64 x (32 : Int)), (32 : Int)), H0, imp_au⟩
    · intro b_4
      replace H0 := cneg H0 b_4
      refine lok_skip ?_
      try simp only [thenL, blockL, ↓reduceIte, reduceCtorEq]
      exact ⟨(x, (0 : Int)), H0, imp_au⟩
theorem ok_bits_LeadingZeros64 (x : Int) (r_ : Int) (H0 : bits_LeadingZeros64 x = some r_) : CallOK Try.prog 84 [.one (.p (.val (.int .u64 x)))] [] [.one (.p (pi r_))] [] := by
  refine callOK (n := 6) (rs := [.tmp 2]) (nb := 0) (V := []) Try.func84 rfl (by kernel_rfl) rfl rfl rfl rfl (Nat.le_of_ble_eq_true rfl) (by decide) ?_
  unfold bits_LeadingZeros64 at H0
  refine lok_rt E0 (⟨6, mkS [(0, .x (.one (.p (.val (.int .u64 x)))))], mkH []⟩) ?_
  replace H0 := bind_some H0
  obtain ⟨y, h_0, H0⟩ := H0
  refine lok_rt (Env.of E0 [⟨some 4, 87, [.one (.p (.val (.int .u64 x)))], [], [.one (.p (pi y))], [], True, fun _ => ok_bits_Len64 x y h_0, []⟩]) (⟨6, mkS [(2, .x (.one (.p (pi (IntKind.i64.wrap ((64 : Int) - y))))))], mkH []⟩) ?_
  refine lok_ret ?_
  obtain rfl := Option.some.inj H0
  try simp only [thenL, blockL]
  exact fin_au _ (.inr rfl) [] (⟨6, mkS [(2, .x (.one (.p (pi (IntKind.i64.wrap ((64 : Int) - y))))))], mkH []⟩) rfl rfl imp_au
theorem ok_bits_Div64 (hi : Int) (lo : Int) (y : Int) (r_ : Int × Int) (H0 : bits_Div64 hi lo y = some r_) : CallOK Try.prog 78 [.one (.p (.val (.int .u64 hi))), .one (.p (.val (.int .u64 lo))), .one (.p (.val (.int .u64 y)))] [] [.one (.p (.val (.int .u64 r_.1))), .one (.p (.val (.int .u64 r_.2)))] [] := by
  refine callOK (n := 135) (rs := [.tmp 6, .tmp 7]) (nb := 0) (V := []) Try.func78 rfl (by kernel_rfl) rfl rfl rfl rfl (Nat.le_of_ble_eq_true rfl) (by decide) ?_
  unfold bits_Div64 at H0
  refine lok_rt E0 (⟨135, mkS [(0, .x (.one (.p (.val (.int .u64 hi))))), (1, .x (.one (.p (.val (.int .u64 lo))))), (2, .x (.one (.p (.val (.int .u64 y)))))], mkH []⟩) ?_
  refine lok_join (fun x_ : Unit => bits_Div64_j6 hi lo y = some r_) (fun x_ => ⟨135, mkS [(0, .x (.one (.p (.val (.int .u64 hi))))), (1, .x (.one (.p (.val (.int .u64 lo))))), (2, .x (.one (.p (.val (.int .u64 y)))))], mkH []⟩) ?hybits_Div64_j6 ?hxbits_Div64_j6
  case hybits_Div64_j6 =>
    rintro _ H0
    try dsimp only at H0 ⊢
    unfold bits_Div64_j6 at H0
    refine lok_join (fun x_ : Unit => bits_Div64_j5 hi lo y = some r_) (fun x_ => ⟨135, mkS [(0, .x (.one (.p (.val (.int .u64 hi))))), (1, .x (.one (.p (.val (.int .u64 lo))))), (2, .x (.one (.p (.val (.int .u64 y)))))], mkH []⟩) ?hybits_Div64_j5 ?hxbits_Div64_j5
    case hybits_Div64_j5 =>
      rintro _ H0
      try dsimp only at H0 ⊢
      unfold bits_Div64_j5 at H0
      refine lok_seq ?_
      refine lok_rt E0 (⟨135, mkS [(0, .x (.one (.p (.val (.int .u64 hi))))), (1, .x (.one (.p (.val (.int .u64 lo))))), (2, .x (.one (.p (.val (.int .u64 y))))), (27, .x (.one (.p (.val (.bool (hi == (0 : Int)))))))], mkH []⟩) ?_
      refine lok_c (hi == (0 : Int)) ?_ ?_
      · intro b_25
        replace H0 := cpos H0 b_25
        replace H0 := req_some H0
        obtain ⟨q_0, H0⟩ := H0
        refine lok_dt E0 7 (⟨135, mkS [(6, .x (.one (.p (.val (.int .u64 (IntKind.u64.wrap (Int.tdiv lo y))))))), (7, .x (.one (.p (.val (.int .u64 (Int.tmod lo y))))))], mkH []⟩) (by kernel_rfl) (by kernel_rfl) ?_
        refine lok_ret ?_
        obtain rfl := Option.some.inj H0
        try simp only [thenL, blockL]
        exact fin_au _ (.inr rfl) [] (⟨135, mkS [(6, .x (.one (.p (.val (.int .u64 (IntKind.u64.wrap (Int.tdiv lo y))))))), (7, .x (.one (.p (.val (.int .u64 (Int.tmod lo y))))))], mkH []⟩) rfl rfl imp_au
      · intro b_25
        replace H0 := cneg H0 b_25
        refine lok_skip ?_
        try simp only [thenL, blockL, ↓reduceIte, reduceCtorEq]
        replace H0 := bind_some H0
        obtain ⟨y1, h_1, H0⟩ := H0
        refine lok_rt (Env.of E0 [⟨some 35, 84, [.one (.p (.val (.int .u64 y)))], [], [.one (.p (pi y1))], [], True, fun _ => ok_bits_LeadingZeros64 y y1 h_1, []⟩]) (⟨135, mkS [(0, .x (.one (.p (.val (.int .u64 hi))))), (1, .x (.one (.p (.val (.int .u64 lo))))), (2, .x (.one (.p (.val (.int .u64 y))))), (8, .x (.one (.p (.val (.int .u64 (IntKind.u64.wrap y1))))))], mkH []⟩) ?_
        replace H0 := req_some H0
        obtain ⟨q_24, H0⟩ := H0
        refine lok_rt E0 (⟨135, mkS [(0, .x (.one (.p (.val (.int .u64 hi))))), (1, .x (.one (.p (.val (.int .u64 lo))))), (2, .x (.one (.p (.val (.int .u64 (bShl .u64 y (IntKind.u64.wrap y1))))))), (8, .x (.one (.p (.val (.int .u64 (IntKind.u64.wrap y1))))))], mkH []⟩) ?_
        refine lok_rt E0 (⟨135, mkS [(0, .x (.one (.p (.val (.int .u64 hi))))), (1, .x (.one (.p (.val (.int .u64 lo))))), (2, .x (.one (.p (.val (.int .u64 (bShl .u64 y (IntKind.u64.wrap y1))))))), (8, .x (.one (.p (.val (.int .u64 (IntKind.u64.wrap y1)))))), (9, .x (.one (.p (.val (.int .u64 (bShr .u64 (bShl .u64 y (IntKind.u64.wrap y1)) (32 : Int)))))))], mkH []⟩) ?_
        refine lok_rt E0 (⟨135, mkS [(0, .x (.one (.p (.val (.int .u64 hi))))), (1, .x (.one (.p (.val (.int .u64 lo))))), (2, .x (.one (.p (.val (.int .u64 (bShl .u64 y (IntKind.u64.wrap y1))))))), (8, .x (.one (.p (.val (.int .u64 (IntKind.u64.wrap y1)))))), (9, .x (.one (.p (.val (.int .u64 (bShr .u64 (bShl .u64 y (IntKind.u64.wrap y1)) (32 : Int))))))), (10, .x (.one (.p (.val (.int .u64 (bAnd .u64 (bShl .u64 y (IntKind.u64.wrap y1)) (4294967295 : Int)))))))], mkH []⟩) ?_
        replace H0 := req_some H0
        obtain ⟨⟨q_22, q_23⟩, H0⟩ := H0
        replace H0 := bindV_some H0
        obtain ⟨un32, a_2, H0⟩ := H0
        refine lok_rtg E0 a_2 (⟨135, mkS [(1, .x (.one (.p (.val (.int .u64 lo))))), (2, .x (.one (.p (.val (.int .u64 (bShl .u64 y (IntKind.u64.wrap y1))))))), (8, .x (.one (.p (.val (.int .u64 (IntKind.u64.wrap y1)))))), (9, .x (.one (.p (.val (.int .u64 (bShr .u64 (bShl .u64 y (IntKind.u64.wrap y1)) (32 : Int))))))), (10, .x (.one (.p (.val (.int .u64 (bAnd .u64 (bShl .u64 y (IntKind.u64.wrap y1)) (4294967295 : Int))))))), (11, .x (.one (.p (.val (.int .u64 un32)))))], mkH []⟩) ?_
        replace H0 := req_some H0
        obtain ⟨q_21, H0⟩ := H0
        refine lok_rt E0 (⟨135, mkS [(2, .x (.one (.p (.val (.int .u64 (bShl .u64 y (IntKind.u64.wrap y1))))))), (8, .x (.one (.p (.val (.int .u64 (IntKind.u64.wrap y1)))))), (9, .x (.one (.p (.val (.int .u64 (bShr .u64 (bShl .u64 y (IntKind.u64.wrap y1)) (32 : Int))))))), (10, .x (.one (.p (.val (.int .u64 (bAnd .u64 (bShl .u64 y (IntKind.u64.wrap y1)) (4294967295 : Int))))))), (11, .x (.one (.p (.val (.int .u64 un32))))), (12, .x (.one (.p (.val (.int .u64 (bShl .u64 lo (IntKind.u64.wrap y1)))))))], mkH []⟩) ?_
        refine lok_rt E0 (⟨135, mkS [(2, .x (.one (.p (.val (.int .u64 (bShl .u64 y (IntKind.u64.wrap y1))))))), (8, .x (.one (.p (.val (.int .u64 (IntKind.u64.wrap y1)))))), (9, .x (.one (.p (.val (.int .u64 (bShr .u64 (bShl .u64 y (IntKind.u64.wrap y1)) (32 : Int))))))), (10, .x (.one (.p (.val (.int .u64 (bAnd .u64 (bShl .u64 y (IntKind.u64.wrap y1)) (4294967295 : Int))))))), (11, .x (.one (.p (.val (.int .u64 un32))))), (12, .x (.one (.p (.val (.int .u64 (bShl .u64 lo (IntKind.u64.wrap y1))))))), (13, .x (.one (.p (.val (.int .u64 (bShr .u64 (bShl .u64 lo (IntKind.u64.wrap y1)) (32 : Int)))))))], mkH []⟩) ?_
        refine lok_rt E0 (⟨135, mkS [(2, .x (.one (.p (.val (.int .u64 (bShl .u64 y (IntKind.u64.wrap y1))))))), (8, .x (.one (.p (.val (.int .u64 (IntKind.u64.wrap y1)))))), (9, .x (.one (.p (.val (.int .u64 (bShr .u64 (bShl .u64 y (IntKind.u64.wrap y1)) (32 : Int))))))), (10, .x (.one (.p (.val (.int .u64 (bAnd .u64 (bShl .u64 y (IntKind.u64.wrap y1)) (4294967295 : Int))))))), (11, .x (.one (.p (.val (.int .u64 un32))))), (13, .x (.one (.p (.val (.int .u64 (bShr .u64 (bShl .u64 lo (IntKind.u64.wrap y1)) (32 : Int))))))), (14, .x (.one (.p (.val (.int .u64 (bAnd .u64 (bShl .u64 lo (IntKind.u64.wrap y1)) (4294967295 : Int)))))))], mkH []⟩) ?_
        replace H0 := req_some H0
        obtain ⟨q_20, H0⟩ := H0
        replace H0 := bindV_some H0
        obtain ⟨q1, a_3, H0⟩ := H0
        refine lok_rtg E0 a_3 (⟨135, mkS [(2, .x (.one (.p (.val (.int .u64 (bShl .u64 y (IntKind.u64.wrap y1))))))), (8, .x (.one (.p (.val (.int .u64 (IntKind.u64.wrap y1)))))), (9, .x (.one (.p (.val (.int .u64 (bShr .u64 (bShl .u64 y (IntKind.u64.wrap y1)) (32 : Int))))))), (10, .x (.one (.p (.val (.int .u64 (bAnd .u64 (bShl .u64 y (IntKind.u64.wrap y1)) (4294967295 : Int))))))), (11, .x (.one (.p (.val (.int .u64 un32))))), (13, .x (.one (.p (.val (.int .u64 (bShr .u64 (bShl .u64 lo (IntKind.u64.wrap y1)) (32 : Int))))))), (14, .x (.one (.p (.val (.int .u64 (bAnd .u64 (bShl .u64 lo (IntKind.u64.wrap y1)) (4294967295 : Int))))))), (15, .x (.one (.p (.val (.int .u64 q1)))))], mkH []⟩) ?_
        replace H0 := bindV_some H0
        obtain ⟨rhat, a_4, H0⟩ := H0
        refine lok_rtg E0 a_4 (⟨135, mkS [(2, .x (.one (.p (.val (.int .u64 (bShl .u64 y (IntKind.u64.wrap y1))))))), (8, .x (.one (.p (.val (.int .u64 (IntKind.u64.wrap y1)))))), (9, .x (.one (.p (.val (.int .u64 (bShr .u64 (bShl .u64 y (IntKind.u64.wrap y1)) (32 : Int))))))), (10, .x (.one (.p (.val (.int .u64 (bAnd .u64 (bShl .u64 y (IntKind.u64.wrap y1)) (4294967295 : Int))))))), (11, .x (.one (.p (.val (.int .u64 un32))))), (13, .x (.one (.p (.val (.int .u64 (bShr .u64 (bShl .u64 lo (IntKind.u64.wrap y1)) (32 : Int))))))), (14, .x (.one (.p (.val (.int .u64 (bAnd .u64 (bShl .u64 lo (IntKind.u64.wrap y1)) (4294967295 : Int))))))), (15, .x (.one (.p (.val (.int .u64 q1))))), (16, .x (.one (.p (.val (.int .u64 rhat)))))], mkH []⟩) ?_
        refine lok_join (fun x_ : Int => bits_Div64_j3 lo y y1 un32 x_ = some r_) (fun x_ => ⟨135, mkS [(2, .x (.one (.p (.val (.int .u64 (bShl .u64 y (IntKind.u64.wrap y1))))))), (8, .x (.one (.p (.val (.int .u64 (IntKind.u64.wrap y1)))))), (9, .x (.one (.p (.val (.int .u64 (bShr .u64 (bShl .u64 y (IntKind.u64.wrap y1)) (32 : Int))))))), (10, .x (.one (.p (.val (.int .u64 (bAnd .u64 (bShl .u64 y (IntKind.u64.wrap y1)) (4294967295 : Int))))))), (11, .x (.one (.p (.val (.int .u64 un32))))), (13, .x (.one (.p (.val (.int .u64 (bShr .u64 (bShl .u64 lo (IntKind.u64.wrap y1)) (32 : Int))))))), (14, .x (.one (.p (.val (.int .u64 (bAnd .u64 (bShl .u64 lo (IntKind.u64.wrap y1)) (4294967295 : Int))))))), (15, .x (.one (.p (.val (.int .u64 x_)))))], mkH []⟩) ?hybits_Div64_j3 ?hxbits_Div64_j3
        case hybits_Div64_j3 =>
          rintro q11 H0
          try dsimp only at H0 ⊢
          unfold bits_Div64_j3 at H0
          replace H0 := bindV_some H0
          obtain ⟨un21, a_5, H0⟩ := H0
          refine lok_rtg E0 a_5 (⟨135, mkS [(2, .x (.one (.p (.val (.int .u64 (bShl .u64 y (IntKind.u64.wrap y1))))))), (8, .x (.one (.p (.val (.int .u64 (IntKind.u64.wrap y1)))))), (9, .x (.one (.p (.val (.int .u64 (bShr .u64 (bShl .u64 y (IntKind.u64.wrap y1)) (32 : Int))))))), (10, .x (.one (.p (.val (.int .u64 (bAnd .u64 (bShl .u64 y (IntKind.u64.wrap y1)) (4294967295 : Int))))))), (14, .x (.one (.p (.val (.int .u64 (bAnd .u64 (bShl .u64 lo (IntKind.u64.wrap y1)) (4294967295 : Int))))))), (15, .x (.one (.p (.val (.int .u64 q11))))), (17, .x (.one (.p (.val (.int .u64 un21)))))], mkH []⟩) ?_
          replace H0 := req_some H0
          obtain ⟨q_15, H0⟩ := H0
          replace H0 := bindV_some H0
          obtain ⟨q0, a_6, H0⟩ := H0
          refine lok_rtg E0 a_6 (⟨135, mkS [(2, .x (.one (.p (.val (.int .u64 (bShl .u64 y (IntKind.u64.wrap y1))))))), (8, .x (.one (.p (.val (.int .u64 (IntKind.u64.wrap y1)))))), (9, .x (.one (.p (.val (.int .u64 (bShr .u64 (bShl .u64 y (IntKind.u64.wrap y1)) (32 : Int))))))), (10, .x (.one (.p (.val (.int .u64 (bAnd .u64 (bShl .u64 y (IntKind.u64.wrap y1)) (4294967295 : Int))))))), (14, .x (.one (.p (.val (.int .u64 (bAnd .u64 (bShl .u64 lo (IntKind.u64.wrap y1)) (4294967295 : Int))))))), (15, .x (.one (.p (.val (.int .u64 q11))))), (17, .x (.one (.p (.val (.int .u64 un21))))), (18, .x (.one (.p (.val (.int .u64 q0)))))], mkH []⟩) ?_
          replace H0 := bindV_some H0
          obtain ⟨rhat1, a_7, H0⟩ := H0
          refine lok_rtg E0 a_7 (⟨135, mkS [(2, .x (.one (.p (.val (.int .u64 (bShl .u64 y (IntKind.u64.wrap y1))))))), (8, .x (.one (.p (.val (.int .u64 (IntKind.u64.wrap y1)))))), (9, .x (.one (.p (.val (.int .u64 (bShr .u64 (bShl .u64 y (IntKind.u64.wrap y1)) (32 : Int))))))), (10, .x (.one (.p (.val (.int .u64 (bAnd .u64 (bShl .u64 y (IntKind.u64.wrap y1)) (4294967295 : Int))))))), (14, .x (.one (.p (.val (.int .u64 (bAnd .u64 (bShl .u64 lo (IntKind.u64.wrap y1)) (4294967295 : Int))))))), (15, .x (.one (.p (.val (.int .u64 q11))))), (16, .x (.one (.p (.val (.int .u64 rhat1))))), (17, .x (.one (.p (.val (.int .u64 un21))))), (18, .x (.one (.p (.val (.int .u64 q0)))))], mkH []⟩) ?_
          refine lok_join (fun x_ : Int => bits_Div64_j1 lo y y1 q11 un21 x_ = some r_) (fun x_ => ⟨135, mkS [(2, .x (.one (.p (.val (.int .u64 (bShl .u64 y (IntKind.u64.wrap y1))))))), (8, .x (.one (.p (.val (.int .u64 (IntKind.u64.wrap y1)))))), (14, .x (.one (.p (.val (.int .u64 (bAnd .u64 (bShl .u64 lo (IntKind.u64.wrap y1)) (4294967295 : Int))))))), (15, .x (.one (.p (.val (.int .u64 q11))))), (17, .x (.one (.p (.val (.int .u64 un21))))), (18, .x (.one (.p (.val (.int .u64 x_)))))], mkH []⟩) ?hybits_Div64_j1 ?hxbits_Div64_j1
          case hybits_Div64_j1 =>
            rintro q01 H0
            try dsimp only at H0 ⊢
            unfold bits_Div64_j1 at H0
            replace H0 := req_some H0
            obtain ⟨q_10, H0⟩ := H0
            replace H0 := bindV_some H0
            obtain ⟨quo, a_8, H0⟩ := H0
            replace H0 := bindV_some H0
            obtain ⟨rem, a_9, H0⟩ := H0
            refine lok_rtg E0 (And.intro a_8 a_9) (⟨135, mkS [(6, .x (.one (.p (.val (.int .u64 quo))))), (7, .x (.one (.p (.val (.int .u64 rem)))))], mkH []⟩) ?_
            refine lok_ret ?_
            obtain rfl := Option.some.inj H0
            try simp only [thenL, blockL]
            exact fin_au _ (.inr rfl) [] (⟨135, mkS [(6, .x (.one (.p (.val (.int .u64 quo))))), (7, .x (.one (.p (.val (.int .u64 rem)))))], mkH []⟩) rfl rfl imp_au
          case hxbits_Div64_j1 =>
            refine lok_block ?_
            replace H0 := bind_some H0
            obtain ⟨v_11, hv_11, H0⟩ := H0
            refine lok_iter (fun x_ => ⟨135, mkS [(2, .x (.one (.p (.val (.int .u64 (bShl .u64 y (IntKind.u64.wrap y1))))))), (8, .x (.one (.p (.val (.int .u64 (IntKind.u64.wrap y1)))))), (9, .x (.one (.p (.val (.int .u64 (bShr .u64 (bShl .u64 y (IntKind.u64.wrap y1)) (32 : Int))))))), (10, .x (.one (.p (.val (.int .u64 (bAnd .u64 (bShl .u64 y (IntKind.u64.wrap y1)) (4294967295 : Int))))))), (14, .x (.one (.p (.val (.int .u64 (bAnd .u64 (bShl .u64 lo (IntKind.u64.wrap y1)) (4294967295 : Int))))))), (15, .x (.one (.p (.val (.int .u64 q11))))), (16, .x (.one (.p (.val (.int .u64 x_.1))))), (17, .x (.one (.p (.val (.int .u64 un21))))), (18, .x (.one (.p (.val (.int .u64 x_.2)))))], mkH []⟩) hv_11 imp_au ?_
            · rintro ⟨rhat2, q02⟩ o_1 H1 k_1
              unfold bits_Div64_l2 at H1
              try dsimp only at H1 ⊢
              refine lok_seq ?_
              refine lok_rt E0 (⟨135, mkS [(2, .x (.one (.p (.val (.int .u64 (bShl .u64 y (IntKind.u64.wrap y1))))))), (8, .x (.one (.p (.val (.int .u64 (IntKind.u64.wrap y1)))))), (9, .x (.one (.p (.val (.int .u64 (bShr .u64 (bShl .u64 y (IntKind.u64.wrap y1)) (32 : Int))))))), (10, .x (.one (.p (.val (.int .u64 (bAnd .u64 (bShl .u64 y (IntKind.u64.wrap y1)) (4294967295 : Int))))))), (14, .x (.one (.p (.val (.int .u64 (bAnd .u64 (bShl .u64 lo (IntKind.u64.wrap y1)) (4294967295 : Int))))))), (15, .x (.one (.p (.val (.int .u64 q11))))), (16, .x (.one (.p (.val (.int .u64 rhat2))))), (17, .x (.one (.p (.val (.int .u64 un21))))), (18, .x (.one (.p (.val (.int .u64 q02))))), (113, .x (.one (.p (.val (.bool ((decide ((4294967296 : Int) ≤ q02)) || (decide ((IntKind.u64.wrap ((IntKind.u64.wrap ((4294967296 : Int) * rhat2)) + (bAnd .u64 (bShl .u64 lo (IntKind.u64.wrap y1)) (4294967295 : Int)))) < (IntKind.u64.wrap (q02 * (bAnd .u64 (bShl .u64 y (IntKind.u64.wrap y1)) (4294967295 : Int))))))))))))], mkH []⟩) ?_
              refine lok_c ((decide ((4294967296 : Int) ≤ q02)) || (decide ((IntKind.u64.wrap ((IntKind.u64.wrap ((4294967296 : Int) * rhat2)) + (bAnd .u64 (bShl .u64 lo (IntKind.u64.wrap y1)) (4294967295 : Int)))) < (IntKind.u64.wrap (q02 * (bAnd .u64 (bShl .u64 y (IntKind.u64.wrap y1)) (4294967295 : Int))))))) ?_ ?_
              · intro b_14
                replace H1 := cpos H1 b_14
                refine lok_skip ?_
                try simp only [thenL, blockL, ↓reduceIte, reduceCtorEq]
                refine lok_block ?_
                refine lok_rt E0 (⟨135, mkS [(2, .x (.one (.p (.val (.int .u64 (bShl .u64 y (IntKind.u64.wrap y1))))))), (8, .x (.one (.p (.val (.int .u64 (IntKind.u64.wrap y1)))))), (9, .x (.one (.p (.val (.int .u64 (bShr .u64 (bShl .u64 y (IntKind.u64.wrap y1)) (32 : Int))))))), (10, .x (.one (.p (.val (.int .u64 (bAnd .u64 (bShl .u64 y (IntKind.u64.wrap y1)) (4294967295 : Int))))))), (14, .x (.one (.p (.val (.int .u64 (bAnd .u64 (bShl .u64 lo (IntKind.u64.wrap y1)) (4294967295 : Int))))))), (15, .x (.one (.p (.val (.int .u64 q11))))), (16, .x (.one (.p (.val (.int .u64 rhat2))))), (17, .x (.one (.p (.val (.int .u64 un21))))), (18, .x (.one (.p (.val (.int .u64 (IntKind.u64.wrap (q02 - (1 : Int))))))))], mkH []⟩) ?_
                replace H1 := bindV_some H1
                obtain ⟨rhat3, a_12, H1⟩ := H1
                refine lok_rtg E0 a_12 (⟨135, mkS [(2, .x (.one (.p (.val (.int .u64 (bShl .u64 y (IntKind.u64.wrap y1))))))), (8, .x (.one (.p (.val (.int .u64 (IntKind.u64.wrap y1)))))), (9, .x (.one (.p (.val (.int .u64 (bShr .u64 (bShl .u64 y (IntKind.u64.wrap y1)) (32 : Int))))))), (10, .x (.one (.p (.val (.int .u64 (bAnd .u64 (bShl .u64 y (IntKind.u64.wrap y1)) (4294967295 : Int))))))), (14, .x (.one (.p (.val (.int .u64 (bAnd .u64 (bShl .u64 lo (IntKind.u64.wrap y1)) (4294967295 : Int))))))), (15, .x (.one (.p (.val (.int .u64 q11))))), (16, .x (.one (.p (.val (.int .u64 rhat3))))), (17, .x (.one (.p (.val (.int .u64 un21))))), (18, .x (.one (.p (.val (.int .u64 (IntKind.u64.wrap (q02 - (1 : Int))))))))], mkH []⟩) ?_
                refine lok_rt E0 (⟨135, mkS [(2, .x (.one (.p (.val (.int .u64 (bShl .u64 y (IntKind.u64.wrap y1))))))), (8, .x (.one (.p (.val (.int .u64 (IntKind.u64.wrap y1)))))), (9, .x (.one (.p (.val (.int .u64 (bShr .u64 (bShl .u64 y (IntKind.u64.wrap y1)) (32 : Int))))))), (10, .x (.one (.p (.val (.int .u64 (bAnd .u64 (bShl .u64 y (IntKind.u64.wrap y1)) (4294967295 : Int))))))), (14, .x (.one (.p (.val (.int .u64 (bAnd .u64 (bShl .u64 lo (IntKind.u64.wrap y1)) (4294967295 : Int))))))), (15, .x (.one (.p (.val (.int .u64 q11))))), (16, .x (.one (.p (.val (.int .u64 rhat3))))), (17, .x (.one (.p (.val (.int .u64 un21))))), (18, .x (.one (.p (.val (.int .u64 (IntKind.u64.wrap (q02 - (1 : Int)))))))), (120, .x (.one (.p (.val (.bool (decide ((4294967296 : Int) ≤ rhat3)))))))], mkH []⟩) ?_
                refine lok_c (decide ((4294967296 : Int) ≤ rhat3)) ?_ ?_
                · intro b_13
                  replace H1 := cpos H1 b_13
                  refine lok_exit ?_
                  try simp only [thenL, blockL, ↓reduceIte, reduceCtorEq]
                  have e_1 := k_1 _ (Option.some.inj H1).symm
                  subst e_1
                  try dsimp only at H0
                  try simp only [thenL, blockL, ↓reduceIte, reduceCtorEq]
                  exact ⟨(IntKind.u64.wrap (q02 - (1 : Int))), H0, imp_au⟩
                · intro b_13
                  replace H1 := cneg H1 b_13
                  refine lok_skip ?_
                  try simp only [thenL, blockL, ↓reduceIte, reduceCtorEq]
                  exact ⟨(rhat3, (IntKind.u64.wrap (q02 - (1 : Int)))), (Option.some.inj H1).symm, imp_au⟩
              · intro b_14
                replace H1 := cneg H1 b_14
                refine lok_exit ?_
                try simp only [thenL, blockL, ↓reduceIte, reduceCtorEq]
                have e_1 := k_1 _ (Option.some.inj H1).symm
                subst e_1
                try dsimp only at H0
                try simp only [thenL, blockL, ↓reduceIte, reduceCtorEq]
                exact ⟨q02, H0, imp_au⟩
        case hxbits_Div64_j3 =>
          refine lok_block ?_
          replace H0 := bind_some H0
          obtain ⟨v_16, hv_16, H0⟩ := H0
          refine lok_iter (fun x_ => ⟨135, mkS [(2, .x (.one (.p (.val (.int .u64 (bShl .u64 y (IntKind.u64.wrap y1))))))), (8, .x (.one (.p (.val (.int .u64 (IntKind.u64.wrap y1)))))), (9, .x (.one (.p (.val (.int .u64 (bShr .u64 (bShl .u64 y (IntKind.u64.wrap y1)) (32 : Int))))))), (10, .x (.one (.p (.val (.int .u64 (bAnd .u64 (bShl .u64 y (IntKind.u64.wrap y1)) (4294967295 : Int))))))), (11, .x (.one (.p (.val (.int .u64 un32))))), (13, .x (.one (.p (.val (.int .u64 (bShr .u64 (bShl .u64 lo (IntKind.u64.wrap y1)) (32 : Int))))))), (14, .x (.one (.p (.val (.int .u64 (bAnd .u64 (bShl .u64 lo (IntKind.u64.wrap y1)) (4294967295 : Int))))))), (15, .x (.one (.p (.val (.int .u64 x_.1))))), (16, .x (.one (.p (.val (.int .u64 x_.2)))))], mkH []⟩) hv_16 imp_au ?_
          · rintro ⟨q12, rhat4⟩ o_1 H1 k_1
            unfold bits_Div64_l4 at H1
            try dsimp only at H1 ⊢
            refine lok_seq ?_
            refine lok_rt E0 (⟨135, mkS [(2, .x (.one (.p (.val (.int .u64 (bShl .u64 y (IntKind.u64.wrap y1))))))), (8, .x (.one (.p (.val (.int .u64 (IntKind.u64.wrap y1)))))), (9, .x (.one (.p (.val (.int .u64 (bShr .u64 (bShl .u64 y (IntKind.u64.wrap y1)) (32 : Int))))))), (10, .x (.one (.p (.val (.int .u64 (bAnd .u64 (bShl .u64 y (IntKind.u64.wrap y1)) (4294967295 : Int))))))), (11, .x (.one (.p (.val (.int .u64 un32))))), (13, .x (.one (.p (.val (.int .u64 (bShr .u64 (bShl .u64 lo (IntKind.u64.wrap y1)) (32 : Int))))))), (14, .x (.one (.p (.val (.int .u64 (bAnd .u64 (bShl .u64 lo (IntKind.u64.wrap y1)) (4294967295 : Int))))))), (15, .x (.one (.p (.val (.int .u64 q12))))), (16, .x (.one (.p (.val (.int .u64 rhat4))))), (78, .x (.one (.p (.val (.bool ((decide ((4294967296 : Int) ≤ q12)) || (decide ((IntKind.u64.wrap ((IntKind.u64.wrap ((4294967296 : Int) * rhat4)) + (bShr .u64 (bShl .u64 lo (IntKind.u64.wrap y1)) (32 : Int)))) < (IntKind.u64.wrap (q12 * (bAnd .u64 (bShl .u64 y (IntKind.u64.wrap y1)) (4294967295 : Int))))))))))))], mkH []⟩) ?_
            refine lok_c ((decide ((4294967296 : Int) ≤ q12)) || (decide ((IntKind.u64.wrap ((IntKind.u64.wrap ((4294967296 : Int) * rhat4)) + (bShr .u64 (bShl .u64 lo (IntKind.u64.wrap y1)) (32 : Int)))) < (IntKind.u64.wrap (q12 * (bAnd .u64 (bShl .u64 y (IntKind.u64.wrap y1)) (4294967295 : Int))))))) ?_ ?_
            · intro b_19
              replace H1 := cpos H1 b_19
              refine lok_skip ?_
              try simp only [thenL, blockL, ↓reduceIte, reduceCtorEq]
              refine lok_block ?_
              refine lok_rt E0 (⟨135, mkS [(2, .x (.one (.p (.val (.int .u64 (bShl .u64 y (IntKind.u64.wrap y1))))))), (8, .x (.one (.p (.val (.int .u64 (IntKind.u64.wrap y1)))))), (9, .x (.one (.p (.val (.int .u64 (bShr .u64 (bShl .u64 y (IntKind.u64.wrap y1)) (32 : Int))))))), (10, .x (.one (.p (.val (.int .u64 (bAnd .u64 (bShl .u64 y (IntKind.u64.wrap y1)) (4294967295 : Int))))))), (11, .x (.one (.p (.val (.int .u64 un32))))), (13, .x (.one (.p (.val (.int .u64 (bShr .u64 (bShl .u64 lo (IntKind.u64.wrap y1)) (32 : Int))))))), (14, .x (.one (.p (.val (.int .u64 (bAnd .u64 (bShl .u64 lo (IntKind.u64.wrap y1)) (4294967295 : Int))))))), (15, .x (.one (.p (.val (.int .u64 (IntKind.u64.wrap (q12 - (1 : Int)))))))), (16, .x (.one (.p (.val (.int .u64 rhat4)))))], mkH []⟩) ?_
              replace H1 := bindV_some H1
              obtain ⟨rhat5, a_17, H1⟩ := H1
              refine lok_rtg E0 a_17 (⟨135, mkS [(2, .x (.one (.p (.val (.int .u64 (bShl .u64 y (IntKind.u64.wrap y1))))))), (8, .x (.one (.p (.val (.int .u64 (IntKind.u64.wrap y1)))))), (9, .x (.one (.p (.val (.int .u64 (bShr .u64 (bShl .u64 y (IntKind.u64.wrap y1)) (32 : Int))))))), (10, .x (.one (.p (.val (.int .u64 (bAnd .u64 (bShl .u64 y (IntKind.u64.wrap y1)) (4294967295 : Int))))))), (11, .x (.one (.p (.val (.int .u64 un32))))), (13, .x (.one (.p (.val (.int .u64 (bShr .u64 (bShl .u64 lo (IntKind.u64.wrap y1)) (32 : Int))))))), (14, .x (.one (.p (.val (.int .u64 (bAnd .u64 (bShl .u64 lo (IntKind.u64.wrap y1)) (4294967295 : Int))))))), (15, .x (.one (.p (.val (.int .u64 (IntKind.u64.wrap (q12 - (1 : Int)))))))), (16, .x (.one (.p (.val (.int .u64 rhat5)))))], mkH []⟩) ?_
              refine lok_rt E0 (⟨135, mkS [(2, .x (.one (.p (.val (.int .u64 (bShl .u64 y (IntKind.u64.wrap y1))))))), (8, .x (.one (.p (.val (.int .u64 (IntKind.u64.wrap y1)))))), (9, .x (.one (.p (.val (.int .u64 (bShr .u64 (bShl .u64 y (IntKind.u64.wrap y1)) (32 : Int))))))), (10, .x (.one (.p (.val (.int .u64 (bAnd .u64 (bShl .u64 y (IntKind.u64.wrap y1)) (4294967295 : Int))))))), (11, .x (.one (.p (.val (.int .u64 un32))))), (13, .x (.one (.p (.val (.int .u64 (bShr .u64 (bShl .u64 lo (IntKind.u64.wrap y1)) (32 : Int))))))), (14, .x (.one (.p (.val (.int .u64 (bAnd .u64 (bShl .u64 lo (IntKind.u64.wrap y1)) (4294967295 : Int))))))), (15, .x (.one (.p (.val (.int .u64 (IntKind.u64.wrap (q12 - (1 : Int)))))))), (16, .x (.one (.p (.val (.int .u64 rhat5))))), (85, .x (.one (.p (.val (.bool (decide ((4294967296 : Int) ≤ rhat5)))))))], mkH []⟩) ?_
              refine lok_c (decide ((4294967296 : Int) ≤ rhat5)) ?_ ?_
              · intro b_18
                replace H1 := cpos H1 b_18
                refine lok_exit ?_
                try simp only [thenL, blockL, ↓reduceIte, reduceCtorEq]
                have e_1 := k_1 _ (Option.some.inj H1).symm
                subst e_1
                try dsimp only at H0
                try simp only [thenL, blockL, ↓reduceIte, reduceCtorEq]
                exact ⟨(IntKind.u64.wrap (q12 - (1 : Int))), H0, imp_au⟩
              · intro b_18
                replace H1 := cneg H1 b_18
                refine lok_skip ?_
                try simp only [thenL, blockL, ↓reduceIte, reduceCtorEq]
                exact ⟨((IntKind.u64.wrap (q12 - (1 : Int))), rhat5), (Option.some.inj H1).symm, imp_au⟩
            · intro b_19
              replace H1 := cneg H1 b_19
              refine lok_exit ?_
              try simp only [thenL, blockL, ↓reduceIte, reduceCtorEq]
              have e_1 := k_1 _ (Option.some.inj H1).symm
              subst e_1
              try dsimp only at H0
              try simp only [thenL, blockL, ↓reduceIte, reduceCtorEq]
              exact ⟨q12, H0, imp_au⟩
    case hxbits_Div64_j5 =>
      refine lok_rt E0 (⟨135, mkS [(0, .x (.one (.p (.val (.int .u64 hi))))), (1, .x (.one (.p (.val (.int .u64 lo))))), (2, .x (.one (.p (.val (.int .u64 y))))), (24, .x (.one (.p (.val (.bool (decide (y ≤ hi)))))))], mkH []⟩) ?_
      refine lok_c (decide (y ≤ hi)) ?_ ?_
      · intro b_26
        replace H0 := cpos H0 b_26
        cases H0
      · intro b_26
        replace H0 := cneg H0 b_26
        refine lok_skip ?_
        try simp only [thenL, blockL, ↓reduceIte, reduceCtorEq]
        exact ⟨(), H0, imp_au⟩
  case hxbits_Div64_j6 =>
    refine lok_rt E0 (⟨135, mkS [(0, .x (.one (.p (.val (.int .u64 hi))))), (1, .x (.one (.p (.val (.int .u64 lo))))), (2, .x (.one (.p (.val (.int .u64 y))))), (20, .x (.one (.p (.val (.bool (y == (0 : Int)))))))], mkH []⟩) ?_
    refine lok_c (y == (0 : Int)) ?_ ?_
    · intro b_27
      replace H0 := cpos H0 b_27
      cases H0
    · intro b_27
      replace H0 := cneg H0 b_27
      refine lok_skip ?_
      try simp only [thenL, blockL, ↓reduceIte, reduceCtorEq]
      exact ⟨(), H0, imp_au⟩
theorem ok_bits_Rem64 (hi : Int) (lo : Int) (y : Int) (r_ : Int) (H0 : bits_Rem64 hi lo y = some r_) : CallOK Try.prog 77 [.one (.p (.val (.int .u64 hi))), .one (.p (.val (.int .u64 lo))), .one (.p (.val (.int .u64 y)))] [] [.one (.p (.val (.int .u64 r_)))] [] := by
  refine callOK (n := 19) (rs := [.tmp 6]) (nb := 0) (V := []) Try.func77 rfl (by kernel_rfl) rfl rfl rfl rfl (Nat.le_of_ble_eq_true rfl) (by decide) ?_
  unfold bits_Rem64 at H0
  refine lok_rt E0 (⟨19, mkS [(0, .x (.one (.p (.val (.int .u64 hi))))), (1, .x (.one (.p (.val (.int .u64 lo))))), (2, .x (.one (.p (.val (.int .u64 y)))))], mkH []⟩) ?_
  replace H0 := req_some H0
  obtain ⟨q_1, H0⟩ := H0
  replace H0 := bind_some H0
  obtain ⟨⟨y1, y2⟩, h_0, H0⟩ := H0
  try dsimp only at H0
  refine lok_rt (Env.of E0 [⟨some 15, 78, [.one (.p (.val (.int .u64 (Int.tmod hi y)))), .one (.p (.val (.int .u64 lo))), .one (.p (.val (.int .u64 y)))], [], [.one (.p (.val (.int .u64 y1))), .one (.p (.val (.int .u64 y2)))], [], True, fun _ => ok_bits_Div64 (Int.tmod hi y) lo y (y1, y2) h_0, []⟩]) (⟨19, mkS [(8, .x (.one (.p (.val (.int .u64 y2)))))], mkH []⟩) ?_
  refine lok_rt E0 (⟨19, mkS [(6, .x (.one (.p (.val (.int .u64 y2)))))], mkH []⟩) ?_
  refine lok_ret ?_
  obtain rfl := Option.some.inj H0
  try simp only [thenL, blockL]
  exact fin_au _ (.inr rfl) [] (⟨19, mkS [(6, .x (.one (.p (.val (.int .u64 y2)))))], mkH []⟩) rfl rfl imp_au
theorem ok_ratio_wide_mod (a : ratio_wide) (d : Int) (r_ : Int) (H0 : ratio_wide_mod a d = some r_) : CallOK Try.prog 63 [.agg [.p (.val (.int .u64 a.hi)), .p (.val (.int .u64 a.lo))], .one (.p (.val (.int .u64 d)))] [] [.one (.p (.val (.int .u64 r_)))] [] := by
  refine callOK (n := 11) (rs := [.tmp 4]) (nb := 0) (V := []) Try.func63 rfl (by kernel_rfl) rfl rfl rfl rfl (Nat.le_of_ble_eq_true rfl) (by decide) ?_
  unfold ratio_wide_mod at H0
  refine lok_rt E0 (⟨11, mkS [(1, .x (.one (.p (.val (.int .u64 d))))), (2, .x (.one (.ptr 102 0)))], mkH [(102, .var [.p (.val (.int .u64 a.hi)), .p (.val (.int .u64 a.lo))])]⟩) ?_
  replace H0 := bind_some H0
  obtain ⟨y, h_0, H0⟩ := H0
  refine lok_rt (Env.of E0 [⟨some 10, 77, [.one (.p (.val (.int .u64 a.hi))), .one (.p (.val (.int .u64 a.lo))), .one (.p (.val (.int .u64 d)))], [], [.one (.p (.val (.int .u64 y)))], [], True, fun _ => ok_bits_Rem64 a.hi a.lo d y h_0, []⟩]) (⟨11, mkS [(4, .x (.one (.p (.val (.int .u64 y)))))], mkH []⟩) ?_
  refine lok_ret ?_
  obtain rfl := Option.some.inj H0
  try simp only [thenL, blockL]
  exact fin_au _ (.inr rfl) [] (⟨11, mkS [(4, .x (.one (.p (.val (.int .u64 y)))))], mkH []⟩) rfl rfl imp_au
theorem ok_ratio_fitted (neg : Bool) (num : ratio_wide) (den : ratio_wide) (r_ : api_Ratio × Int) (H0 : ratio_fitted neg num den = some r_) : CallOK Try.prog 64 [.one (.p (.val (.bool neg))), .agg [.p (.val (.int .u64 num.hi)), .p (.val (.int .u64 num.lo))], .agg [.p (.val (.int .u64 den.hi)), .p (.val (.int .u64 den.lo))]] [] [.agg [.p (pi r_.1.Num), .p (pi r_.1.Den)], .one (.p (pi r_.2))] [] := by
  refine callOK (n := 39) (rs := [.cell 6 40, .tmp 7]) (nb := 0) (V := []) Try.func64 rfl (by kernel_rfl) rfl rfl rfl rfl (Nat.le_of_ble_eq_true rfl) (by decide) ?_
  unfold ratio_fitted at H0
  refine lok_rt E0 (⟨39, mkS [(0, .x (.one (.p (.val (.bool neg))))), (4, .x (.one (.ptr 104 0))), (5, .x (.one (.ptr 105 0))), (6, .x (.one (.ptr 106 0)))], mkH [(104, .var [.p (.val (.int .u64 num.hi)), .p (.val (.int .u64 num.lo))]), (105, .var [.p (.val (.int .u64 den.hi)), .p (.val (.int .u64 den.lo))]), (106, .var [.p (pi (0 : Int)), .p (pi (0 : Int))])]⟩) ?_
  refine lok_seq ?_
  refine lok_rt E0 (⟨39, mkS [(0, .x (.one (.p (.val (.bool neg))))), (4, .x (.one (.ptr 104 0))), (5, .x (.one (.ptr 105 0))), (6, .x (.one (.ptr 106 0))), (26, .x (.one (.p (.val (.bool ((((num.hi != (0 : Int)) || (den.hi != (0 : Int))) || (decide ((1152921504606846976 : Int) < num.lo))) || (decide ((1152921504606846976 : Int) < den.lo))))))))], mkH [(104, .var [.p (.val (.int .u64 num.hi)), .p (.val (.int .u64 num.lo))]), (105, .var [.p (.val (.int .u64 den.hi)), .p (.val (.int .u64 den.lo))]), (106, .var [.p (pi (0 : Int)), .p (pi (0 : Int))])]⟩) ?_
  refine lok_c ((((num.hi != (0 : Int)) || (den.hi != (0 : Int))) || (decide ((1152921504606846976 : Int) < num.lo))) || (decide ((1152921504606846976 : Int) < den.lo))) ?_ ?_
  · intro b_1
    replace H0 := cpos H0 b_1
    refine lok_rt E0 (⟨39, mkS [(6, .x (.one (.ptr 106 0))), (7, .x (.one (.p (pi (6 : Int)))))], mkH [(106, .var [.p (pi (0 : Int)), .p (pi (0 : Int))])]⟩) ?_
    refine lok_ret ?_
    obtain rfl := Option.some.inj H0
    try simp only [thenL, blockL]
    exact fin_au _ (.inr rfl) [] (⟨39, mkS [(6, .x (.one (.ptr 106 0))), (7, .x (.one (.p (pi (6 : Int)))))], mkH [(106, .var [.p (pi (0 : Int)), .p (pi (0 : Int))])]⟩) rfl rfl imp_au
  · intro b_1
    replace H0 := cneg H0 b_1
    refine lok_skip ?_
    try simp only [thenL, blockL, ↓reduceIte, reduceCtorEq]
    refine lok_rt E0 (⟨39, mkS [(0, .x (.one (.p (.val (.bool neg))))), (5, .x (.one (.ptr 105 0))), (6, .x (.one (.ptr 106 0))), (8, .x (.one (.p (pi (IntKind.i64.wrap num.lo)))))], mkH [(105, .var [.p (.val (.int .u64 den.hi)), .p (.val (.int .u64 den.lo))]), (106, .var [.p (pi (0 : Int)), .p (pi (0 : Int))])]⟩) ?_
    refine lok_join (fun x_ : Int => ratio_fitted_j1 den x_ = some r_) (fun x_ => ⟨39, mkS [(5, .x (.one (.ptr 105 0))), (6, .x (.one (.ptr 106 0))), (8, .x (.one (.p (pi x_))))], mkH [(105, .var [.p (.val (.int .u64 den.hi)), .p (.val (.int .u64 den.lo))]), (106, .var [.p (pi (0 : Int)), .p (pi (0 : Int))])]⟩) ?hyratio_fitted_j1 ?hxratio_fitted_j1
    case hyratio_fitted_j1 =>
      rintro n H0
      try dsimp only at H0 ⊢
      unfold ratio_fitted_j1 at H0
      refine lok_rt E0 (⟨39, mkS [(6, .x (.one (.ptr 106 0))), (7, .x (.one (.p (pi (0 : Int)))))], mkH [(106, .var [.p (pi n), .p (pi (IntKind.i64.wrap den.lo))])]⟩) ?_
      refine lok_ret ?_
      obtain rfl := Option.some.inj H0
      try simp only [thenL, blockL]
      exact fin_au _ (.inr rfl) [] (⟨39, mkS [(6, .x (.one (.ptr 106 0))), (7, .x (.one (.p (pi (0 : Int)))))], mkH [(106, .var [.p (pi n), .p (pi (IntKind.i64.wrap den.lo))])]⟩) rfl rfl imp_au
    case hxratio_fitted_j1 =>
      refine lok_rt E0 (⟨39, mkS [(5, .x (.one (.ptr 105 0))), (6, .x (.one (.ptr 106 0))), (8, .x (.one (.p (pi (IntKind.i64.wrap num.lo))))), (31, .x (.one (.p (.val (.bool neg)))))], mkH [(105, .var [.p (.val (.int .u64 den.hi)), .p (.val (.int .u64 den.lo))]), (106, .var [.p (pi (0 : Int)), .p (pi (0 : Int))])]⟩) ?_
      refine lok_c neg ?_ ?_
      · intro b_0
        replace H0 := cpos H0 b_0
        refine lok_rl E0 (⟨39, mkS [(5, .x (.one (.ptr 105 0))), (6, .x (.one (.ptr 106 0))), (8, .x (.one (.p (pi (IntKind.i64.wrap (0 - (IntKind.i64.wrap num.lo)))))))], mkH [(105, .var [.p (.val (.int .u64 den.hi)), .p (.val (.int .u64 den.lo))]), (106, .var [.p (pi (0 : Int)), .p (pi (0 : Int))])]⟩) ?_
        try simp only [thenL, blockL, ↓reduceIte, reduceCtorEq]
        exact ⟨(IntKind.i64.wrap (0 - (IntKind.i64.wrap num.lo))), H0, imp_au⟩
      · intro b_0
        replace H0 := cneg H0 b_0
        refine lok_skip ?_
        try simp only [thenL, blockL, ↓reduceIte, reduceCtorEq]
        exact ⟨(IntKind.i64.wrap num.lo), H0, imp_au⟩
theorem ok_ratio_wide_over (a : ratio_wide) (d : Int) (r_ : ratio_wide) (H0 : ratio_wide_over a d = some r_) : CallOK Try.prog 65 [.agg [.p (.val (.int .u64 a.hi)), .p (.val (.int .u64 a.lo))], .one (.p (.val (.int .u64 d)))] [] [.agg [.p (.val (.int .u64 r_.hi)), .p (.val (.int .u64 r_.lo))]] [] := by
  refine callOK (n := 28) (rs := [.cell 4 82]) (nb := 0) (V := []) Try.func65 rfl (by kernel_rfl) rfl rfl rfl rfl (Nat.le_of_ble_eq_true rfl) (by decide) ?_
  unfold ratio_wide_over at H0
  refine lok_rt E0 (⟨28, mkS [(1, .x (.one (.p (.val (.int .u64 d))))), (2, .x (.one (.ptr 102 0))), (4, .x (.one (.ptr 104 0)))], mkH [(102, .var [.p (.val (.int .u64 a.hi)), .p (.val (.int .u64 a.lo))]), (104, .var [.p (.val (.int .u64 (0 : Int))), .p (.val (.int .u64 (0 : Int)))])]⟩) ?_
  replace H0 := req_some H0
  obtain ⟨q_1, H0⟩ := H0
  refine lok_dt E0 9 (⟨28, mkS [(1, .x (.one (.p (.val (.int .u64 d))))), (2, .x (.one (.ptr 102 0))), (4, .x (.one (.ptr 104 0))), (5, .x (.one (.p (.val (.int .u64 (IntKind.u64.wrap (Int.tdiv a.hi d))))))), (6, .x (.one (.p (.val (.int .u64 (Int.tmod a.hi d))))))], mkH [(102, .var [.p (.val (.int .u64 a.hi)), .p (.val (.int .u64 a.lo))]), (104, .var [.p (.val (.int .u64 (0 : Int))), .p (.val (.int .u64 (0 : Int)))])]⟩) (by kernel_rfl) (by kernel_rfl) ?_
  replace H0 := bind_some H0
  obtain ⟨⟨y, y1⟩, h_0, H0⟩ := H0
  try dsimp only at H0
  refine lok_rt (Env.of E0 [⟨some 22, 78, [.one (.p (.val (.int .u64 (Int.tmod a.hi d)))), .one (.p (.val (.int .u64 a.lo))), .one (.p (.val (.int .u64 d)))], [], [.one (.p (.val (.int .u64 y))), .one (.p (.val (.int .u64 y1)))], [], True, fun _ => ok_bits_Div64 (Int.tmod a.hi d) a.lo d (y, y1) h_0, []⟩]) (⟨28, mkS [(4, .x (.one (.ptr 104 0))), (5, .x (.one (.p (.val (.int .u64 (IntKind.u64.wrap (Int.tdiv a.hi d))))))), (7, .x (.one (.p (.val (.int .u64 y)))))], mkH [(104, .var [.p (.val (.int .u64 (0 : Int))), .p (.val (.int .u64 (0 : Int)))])]⟩) ?_
  refine lok_rt E0 (⟨28, mkS [(4, .x (.one (.ptr 104 0)))], mkH [(104, .var [.p (.val (.int .u64 (IntKind.u64.wrap (Int.tdiv a.hi d)))), .p (.val (.int .u64 y))])]⟩) ?_
  refine lok_ret ?_
  obtain rfl := Option.some.inj H0
  try simp only [thenL, blockL]
  exact fin_au _ (.inr rfl) [] (⟨28, mkS [(4, .x (.one (.ptr 104 0)))], mkH [(104, .var [.p (.val (.int .u64 (IntKind.u64.wrap (Int.tdiv a.hi d)))), .p (.val (.int .u64 y))])]⟩) rfl rfl imp_au
theorem ok_ratio_reduced (num : ratio_signed) (den : Int) (r_ : api_Ratio × Int) (H0 : ratio_reduced num den = some r_) : CallOK Try.prog 51 [.agg [.p (.val (.bool num.neg)), .p (.val (.int .u64 num.abs.hi)), .p (.val (.int .u64 num.abs.lo))], .one (.p (.val (.int .u64 den)))] [] [.agg [.p (pi r_.1.Num), .p (pi r_.1.Den)], .one (.p (pi r_.2))] [] := by
  refine callOK (n := 26) (rs := [.cell 4 40, .tmp 5]) (nb := 0) (V := []) Try.func51 rfl (by kernel_rfl) rfl rfl rfl rfl (Nat.le_of_ble_eq_true rfl) (by decide) ?_
  unfold ratio_reduced at H0
  refine lok_rt E0 (⟨26, mkS [(1, .x (.one (.p (.val (.int .u64 den))))), (2, .x (.one (.ptr 102 0))), (4, .x (.one (.ptr 104 0)))], mkH [(102, .var [.p (.val (.bool num.neg)), .p (.val (.int .u64 num.abs.hi)), .p (.val (.int .u64 num.abs.lo))]), (104, .var [.p (pi (0 : Int)), .p (pi (0 : Int))])]⟩) ?_
  replace H0 := bind_some H0
  obtain ⟨y, h_0, H0⟩ := H0
  replace H0 := bind_some H0
  obtain ⟨y1, h_1, H0⟩ := H0
  refine lok_rt (Env.of E0 [⟨some 10, 63, [.agg [.p (.val (.int .u64 num.abs.hi)), .p (.val (.int .u64 num.abs.lo))], .one (.p (.val (.int .u64 den)))], [], [.one (.p (.val (.int .u64 y)))], [], True, fun _ => ok_ratio_wide_mod num.abs den y h_0, []⟩,
      ⟨some 12, 60, [.one (.p (.val (.int .u64 y))), .one (.p (.val (.int .u64 den)))], [], [.one (.p (.val (.int .u64 y1)))], [], True, fun _ => ok_ratio_gcd y den y1 h_1, []⟩]) (⟨26, mkS [(1, .x (.one (.p (.val (.int .u64 den))))), (2, .x (.one (.ptr 102 0))), (4, .x (.one (.ptr 104 0))), (6, .x (.one (.p (.val (.int .u64 y1)))))], mkH [(102, .var [.p (.val (.bool num.neg)), .p (.val (.int .u64 num.abs.hi)), .p (.val (.int .u64 num.abs.lo))]), (104, .var [.p (pi (0 : Int)), .p (pi (0 : Int))])]⟩) ?_
  replace H0 := bind_some H0
  obtain ⟨y2, h_2, H0⟩ := H0
  replace H0 := req_some H0
  obtain ⟨q_4, H0⟩ := H0
  replace H0 := bind_some H0
  obtain ⟨⟨y3, y4⟩, h_3, H0⟩ := H0
  try dsimp only at H0
  refine lok_dt (Env.of E0 [⟨some 18, 65, [.agg [.p (.val (.int .u64 num.abs.hi)), .p (.val (.int .u64 num.abs.lo))], .one (.p (.val (.int .u64 y1)))], [], [.agg [.p (.val (.int .u64 y2.hi)), .p (.val (.int .u64 y2.lo))]], [], True, fun _ => ok_ratio_wide_over num.abs y1 y2 h_2, []⟩,
      ⟨some 23, 64, [.one (.p (.val (.bool num.neg))), .agg [.p (.val (.int .u64 y2.hi)), .p (.val (.int .u64 y2.lo))], .agg [.p (.val (.int .u64 (0 : Int))), .p (.val (.int .u64 (IntKind.u64.wrap (Int.tdiv den y1))))]], [], [.agg [.p (pi y3.Num), .p (pi y3.Den)], .one (.p (pi y4))], [], True, fun _ => ok_ratio_fitted num.neg y2 (ratio_wide.mk (0 : Int) (IntKind.u64.wrap (Int.tdiv den y1))) (y3, y4) h_3, []⟩]) 13 (⟨26, mkS [(4, .x (.one (.ptr 104 0))), (5, .x (.one (.p (pi y4))))], mkH [(104, .var [.p (pi y3.Num), .p (pi y3.Den)])]⟩) (by kernel_rfl) (by kernel_rfl) ?_
  refine lok_ret ?_
  obtain rfl := Option.some.inj H0
  try simp only [thenL, blockL]
  exact fin_au _ (.inr rfl) [] (⟨26, mkS [(4, .x (.one (.ptr 104 0))), (5, .x (.one (.p (pi y4))))], mkH [(104, .var [.p (pi y3.Num), .p (pi y3.Den)])]⟩) rfl rfl imp_au
theorem ok_ratio_New (num : Int) (den : Int) (r_ : api_Ratio × Int) (H0 : ratio_New num den = some r_) : CallOK Try.prog 41 [.one (.p (pi num)), .one (.p (pi den))] [] [.agg [.p (pi r_.1.Num), .p (pi r_.1.Den)], .one (.p (pi r_.2))] [] := by
  refine callOK (n := 25) (rs := [.cell 4 40, .tmp 5]) (nb := 0) (V := []) Try.func41 rfl (by kernel_rfl) rfl rfl rfl rfl (Nat.le_of_ble_eq_true rfl) (by decide) ?_
  unfold ratio_New at H0
  refine lok_rt E0 (⟨25, mkS [(0, .x (.one (.p (pi num)))), (1, .x (.one (.p (pi den)))), (4, .x (.one (.ptr 104 0)))], mkH [(104, .var [.p (pi (0 : Int)), .p (pi (0 : Int))])]⟩) ?_
  refine lok_seq ?_
  refine lok_rt E0 (⟨25, mkS [(0, .x (.one (.p (pi num)))), (1, .x (.one (.p (pi den)))), (4, .x (.one (.ptr 104 0))), (8, .x (.one (.p (.val (.bool (den == (0 : Int)))))))], mkH [(104, .var [.p (pi (0 : Int)), .p (pi (0 : Int))])]⟩) ?_
  refine lok_c (den == (0 : Int)) ?_ ?_
  · intro b_3
    replace H0 := cpos H0 b_3
    refine lok_rt E0 (⟨25, mkS [(4, .x (.one (.ptr 104 0))), (5, .x (.one (.p (pi (2 : Int)))))], mkH [(104, .var [.p (pi (0 : Int)), .p (pi (0 : Int))])]⟩) ?_
    refine lok_ret ?_
    obtain rfl := Option.some.inj H0
    try simp only [thenL, blockL]
    exact fin_au _ (.inr rfl) [] (⟨25, mkS [(4, .x (.one (.ptr 104 0))), (5, .x (.one (.p (pi (2 : Int)))))], mkH [(104, .var [.p (pi (0 : Int)), .p (pi (0 : Int))])]⟩) rfl rfl imp_au
  · intro b_3
    replace H0 := cneg H0 b_3
    refine lok_skip ?_
    try simp only [thenL, blockL, ↓reduceIte, reduceCtorEq]
    refine lok_rt E0 (⟨25, mkS [(0, .x (.one (.p (pi num)))), (1, .x (.one (.p (pi den)))), (4, .x (.one (.ptr 104 0))), (6, .x (.one (.p (.val (.bool (!((decide (num < (0 : Int))) == (decide (den < (0 : Int))))))))))], mkH [(104, .var [.p (pi (0 : Int)), .p (pi (0 : Int))])]⟩) ?_
    replace H0 := bind_some H0
    obtain ⟨y, h_0, H0⟩ := H0
    replace H0 := bind_some H0
    obtain ⟨y1, h_1, H0⟩ := H0
    replace H0 := bind_some H0
    obtain ⟨⟨y2, y3⟩, h_2, H0⟩ := H0
    try dsimp only at H0
    refine lok_rt (Env.of E0 [⟨some 17, 52, [.one (.p (pi num))], [], [.one (.p (.val (.int .u64 y)))], [], True, fun _ => ok_ratio_magnitude num y h_0, []⟩,
      ⟨some 21, 52, [.one (.p (pi den))], [], [.one (.p (.val (.int .u64 y1)))], [], True, fun _ => ok_ratio_magnitude den y1 h_1, []⟩,
      ⟨some 22, 51, [.agg [.p (.val (.bool (!((decide (num < (0 : Int))) == (decide (den < (0 : Int))))))), .p (.val (.int .u64 (0 : Int))), .p (.val (.int .u64 y))], .one (.p (.val (.int .u64 y1)))], [], [.agg [.p (pi y2.Num), .p (pi y2.Den)], .one (.p (pi y3))], [], True, fun _ => ok_ratio_reduced (ratio_signed.mk (!((decide (num < (0 : Int))) == (decide (den < (0 : Int))))) (ratio_wide.mk (0 : Int) y)) y1 (y2, y3) h_2, []⟩]) (⟨25, mkS [(4, .x (.one (.ptr 104 0))), (5, .x (.one (.p (pi y3))))], mkH [(104, .var [.p (pi y2.Num), .p (pi y2.Den)])]⟩) ?_
    refine lok_ret ?_
    obtain rfl := Option.some.inj H0
    try simp only [thenL, blockL]
    exact fin_au _ (.inr rfl) [] (⟨25, mkS [(4, .x (.one (.ptr 104 0))), (5, .x (.one (.p (pi y3))))], mkH [(104, .var [.p (pi y2.Num), .p (pi y2.Den)])]⟩) rfl rfl imp_au
theorem ok_bits_Mul64 (x : Int) (y : Int) (r_ : Int × Int) (H0 : bits_Mul64 x y = some r_) : CallOK Try.prog 82 [.one (.p (.val (.int .u64 x))), .one (.p (.val (.int .u64 y)))] [] [.one (.p (.val (.int .u64 r_.1))), .one (.p (.val (.int .u64 r_.2)))] [] := by
  refine callOK (n := 51) (rs := [.tmp 4, .tmp 5]) (nb := 0) (V := []) Try.func82 rfl (by kernel_rfl) rfl rfl rfl rfl (Nat.le_of_ble_eq_true rfl) (by decide) ?_
  unfold bits_Mul64 at H0
  refine lok_rt E0 (⟨51, mkS [(0, .x (.one (.p (.val (.int .u64 x))))), (1, .x (.one (.p (.val (.int .u64 y)))))], mkH []⟩) ?_
  refine lok_rt E0 (⟨51, mkS [(0, .x (.one (.p (.val (.int .u64 x))))), (1, .x (.one (.p (.val (.int .u64 y))))), (6, .x (.one (.p (.val (.int .u64 (bAnd .u64 x (4294967295 : Int)))))))], mkH []⟩) ?_
  refine lok_rt E0 (⟨51, mkS [(0, .x (.one (.p (.val (.int .u64 x))))), (1, .x (.one (.p (.val (.int .u64 y))))), (6, .x (.one (.p (.val (.int .u64 (bAnd .u64 x (4294967295 : Int))))))), (7, .x (.one (.p (.val (.int .u64 (bShr .u64 x (32 : Int)))))))], mkH []⟩) ?_
  refine lok_rt E0 (⟨51, mkS [(0, .x (.one (.p (.val (.int .u64 x))))), (1, .x (.one (.p (.val (.int .u64 y))))), (6, .x (.one (.p (.val (.int .u64 (bAnd .u64 x (4294967295 : Int))))))), (7, .x (.one (.p (.val (.int .u64 (bShr .u64 x (32 : Int))))))), (8, .x (.one (.p (.val (.int .u64 (bAnd .u64 y (4294967295 : Int)))))))], mkH []⟩) ?_
  refine lok_rt E0 (⟨51, mkS [(0, .x (.one (.p (.val (.int .u64 x))))), (1, .x (.one (.p (.val (.int .u64 y))))), (6, .x (.one (.p (.val (.int .u64 (bAnd .u64 x (4294967295 : Int))))))), (7, .x (.one (.p (.val (.int .u64 (bShr .u64 x (32 : Int))))))), (8, .x (.one (.p (.val (.int .u64 (bAnd .u64 y (4294967295 : Int))))))), (9, .x (.one (.p (.val (.int .u64 (bShr .u64 y (32 : Int)))))))], mkH []⟩) ?_
  replace H0 := bindV_some H0
  obtain ⟨w0, a_0, H0⟩ := H0
  refine lok_rtg E0 a_0 (⟨51, mkS [(0, .x (.one (.p (.val (.int .u64 x))))), (1, .x (.one (.p (.val (.int .u64 y))))), (6, .x (.one (.p (.val (.int .u64 (bAnd .u64 x (4294967295 : Int))))))), (7, .x (.one (.p (.val (.int .u64 (bShr .u64 x (32 : Int))))))), (8, .x (.one (.p (.val (.int .u64 (bAnd .u64 y (4294967295 : Int))))))), (9, .x (.one (.p (.val (.int .u64 (bShr .u64 y (32 : Int))))))), (10, .x (.one (.p (.val (.int .u64 w0)))))], mkH []⟩) ?_
  replace H0 := bindV_some H0
  obtain ⟨t, a_1, H0⟩ := H0
  refine lok_rtg E0 a_1 (⟨51, mkS [(0, .x (.one (.p (.val (.int .u64 x))))), (1, .x (.one (.p (.val (.int .u64 y))))), (6, .x (.one (.p (.val (.int .u64 (bAnd .u64 x (4294967295 : Int))))))), (7, .x (.one (.p (.val (.int .u64 (bShr .u64 x (32 : Int))))))), (9, .x (.one (.p (.val (.int .u64 (bShr .u64 y (32 : Int))))))), (11, .x (.one (.p (.val (.int .u64 t)))))], mkH []⟩) ?_
  refine lok_rt E0 (⟨51, mkS [(0, .x (.one (.p (.val (.int .u64 x))))), (1, .x (.one (.p (.val (.int .u64 y))))), (6, .x (.one (.p (.val (.int .u64 (bAnd .u64 x (4294967295 : Int))))))), (7, .x (.one (.p (.val (.int .u64 (bShr .u64 x (32 : Int))))))), (9, .x (.one (.p (.val (.int .u64 (bShr .u64 y (32 : Int))))))), (11, .x (.one (.p (.val (.int .u64 t))))), (12, .x (.one (.p (.val (.int .u64 (bAnd .u64 t (4294967295 : Int)))))))], mkH []⟩) ?_
  refine lok_rt E0 (⟨51, mkS [(0, .x (.one (.p (.val (.int .u64 x))))), (1, .x (.one (.p (.val (.int .u64 y))))), (6, .x (.one (.p (.val (.int .u64 (bAnd .u64 x (4294967295 : Int))))))), (7, .x (.one (.p (.val (.int .u64 (bShr .u64 x (32 : Int))))))), (9, .x (.one (.p (.val (.int .u64 (bShr .u64 y (32 : Int))))))), (12, .x (.one (.p (.val (.int .u64 (bAnd .u64 t (4294967295 : Int))))))), (13, .x (.one (.p (.val (.int .u64 (bShr .u64 t (32 : Int)))))))], mkH []⟩) ?_
  replace H0 := bindV_some H0
  obtain ⟨w1, a_2, H0⟩ := H0
  refine lok_rtg E0 a_2 (⟨51, mkS [(0, .x (.one (.p (.val (.int .u64 x))))), (1, .x (.one (.p (.val (.int .u64 y))))), (7, .x (.one (.p (.val (.int .u64 (bShr .u64 x (32 : Int))))))), (9, .x (.one (.p (.val (.int .u64 (bShr .u64 y (32 : Int))))))), (12, .x (.one (.p (.val (.int .u64 w1))))), (13, .x (.one (.p (.val (.int .u64 (bShr .u64 t (32 : Int)))))))], mkH []⟩) ?_
  replace H0 := bindV_some H0
  obtain ⟨hi, a_3, H0⟩ := H0
  refine lok_rtg E0 a_3 (⟨51, mkS [(0, .x (.one (.p (.val (.int .u64 x))))), (1, .x (.one (.p (.val (.int .u64 y))))), (4, .x (.one (.p (.val (.int .u64 hi)))))], mkH []⟩) ?_
  refine lok_rt E0 (⟨51, mkS [(4, .x (.one (.p (.val (.int .u64 hi))))), (5, .x (.one (.p (.val (.int .u64 (IntKind.u64.wrap (x * y)))))))], mkH []⟩) ?_
  refine lok_ret ?_
  obtain rfl := Option.some.inj H0
  try simp only [thenL, blockL]
  exact fin_au _ (.inr rfl) [] (⟨51, mkS [(4, .x (.one (.p (.val (.int .u64 hi))))), (5, .x (.one (.p (.val (.int .u64 (IntKind.u64.wrap (x * y)))))))], mkH []⟩) rfl rfl imp_au
theorem ok_ratio_product (a : Int) (b : Int) (r_ : ratio_wide) (H0 : ratio_product a b = some r_) : CallOK Try.prog 75 [.one (.p (.val (.int .u64 a))), .one (.p (.val (.int .u64 b)))] [] [.agg [.p (.val (.int .u64 r_.hi)), .p (.val (.int .u64 r_.lo))]] [] := by
  refine callOK (n := 16) (rs := [.cell 4 82]) (nb := 0) (V := []) Try.func75 rfl (by kernel_rfl) rfl rfl rfl rfl (Nat.le_of_ble_eq_true rfl) (by decide) ?_
  unfold ratio_product at H0
  refine lok_rt E0 (⟨16, mkS [(0, .x (.one (.p (.val (.int .u64 a))))), (1, .x (.one (.p (.val (.int .u64 b))))), (4, .x (.one (.ptr 104 0)))], mkH [(104, .var [.p (.val (.int .u64 (0 : Int))), .p (.val (.int .u64 (0 : Int)))])]⟩) ?_
  replace H0 := bind_some H0
  obtain ⟨⟨y, y1⟩, h_0, H0⟩ := H0
  try dsimp only at H0
  refine lok_rt (Env.of E0 [⟨some 10, 82, [.one (.p (.val (.int .u64 a))), .one (.p (.val (.int .u64 b)))], [], [.one (.p (.val (.int .u64 y))), .one (.p (.val (.int .u64 y1)))], [], True, fun _ => ok_bits_Mul64 a b (y, y1) h_0, []⟩]) (⟨16, mkS [(4, .x (.one (.ptr 104 0))), (5, .x (.one (.p (.val (.int .u64 y))))), (6, .x (.one (.p (.val (.int .u64 y1)))))], mkH [(104, .var [.p (.val (.int .u64 (0 : Int))), .p (.val (.int .u64 (0 : Int)))])]⟩) ?_
  refine lok_rt E0 (⟨16, mkS [(4, .x (.one (.ptr 104 0)))], mkH [(104, .var [.p (.val (.int .u64 y)), .p (.val (.int .u64 y1))])]⟩) ?_
  refine lok_ret ?_
  obtain rfl := Option.some.inj H0
  try simp only [thenL, blockL]
  exact fin_au _ (.inr rfl) [] (⟨16, mkS [(4, .x (.one (.ptr 104 0)))], mkH [(104, .var [.p (.val (.int .u64 y)), .p (.val (.int .u64 y1))])]⟩) rfl rfl imp_au
theorem ok_ratio_signedProduct (num : Int) (factor : Int) (r_ : ratio_signed) (H0 : ratio_signedProduct num factor = some r_) : CallOK Try.prog 61 [.one (.p (pi num)), .one (.p (.val (.int .u64 factor)))] [] [.agg [.p (.val (.bool r_.neg)), .p (.val (.int .u64 r_.abs.hi)), .p (.val (.int .u64 r_.abs.lo))]] [] := by
  refine callOK (n := 12) (rs := [.cell 4 84]) (nb := 0) (V := []) Try.func61 rfl (by kernel_rfl) rfl rfl rfl rfl (Nat.le_of_ble_eq_true rfl) (by decide) ?_
  unfold ratio_signedProduct at H0
  refine lok_rt E0 (⟨12, mkS [(0, .x (.one (.p (pi num)))), (1, .x (.one (.p (.val (.int .u64 factor))))), (4, .x (.one (.ptr 104 0)))], mkH [(104, .var [.p (.val (.bool false)), .p (.val (.int .u64 (0 : Int))), .p (.val (.int .u64 (0 : Int)))])]⟩) ?_
  replace H0 := bind_some H0
  obtain ⟨y, h_0, H0⟩ := H0
  replace H0 := bind_some H0
  obtain ⟨y1, h_1, H0⟩ := H0
  refine lok_rt (Env.of E0 [⟨some 8, 52, [.one (.p (pi num))], [], [.one (.p (.val (.int .u64 y)))], [], True, fun _ => ok_ratio_magnitude num y h_0, []⟩,
      ⟨some 10, 75, [.one (.p (.val (.int .u64 y))), .one (.p (.val (.int .u64 factor)))], [], [.agg [.p (.val (.int .u64 y1.hi)), .p (.val (.int .u64 y1.lo))]], [], True, fun _ => ok_ratio_product y factor y1 h_1, []⟩]) (⟨12, mkS [(4, .x (.one (.ptr 104 0)))], mkH [(104, .var [.p (.val (.bool (decide (num < (0 : Int))))), .p (.val (.int .u64 y1.hi)), .p (.val (.int .u64 y1.lo))])]⟩) ?_
  refine lok_ret ?_
  obtain rfl := Option.some.inj H0
  try simp only [thenL, blockL]
  exact fin_au _ (.inr rfl) [] (⟨12, mkS [(4, .x (.one (.ptr 104 0)))], mkH [(104, .var [.p (.val (.bool (decide (num < (0 : Int))))), .p (.val (.int .u64 y1.hi)), .p (.val (.int .u64 y1.lo))])]⟩) rfl rfl imp_au
theorem ok_cmp_isNaN_uint64 (x : Int) (r_ : Bool) (H0 : cmp_isNaN_uint64 x = some r_) : CallOK Try.prog 83 [.one (.p (.val (.int .u64 x)))] [] [.one (.p (.val (.bool r_)))] [] := by
  refine callOK (n := 6) (rs := [.tmp 2]) (nb := 0) (V := []) Try.func83 rfl (by kernel_rfl) rfl rfl rfl rfl (Nat.le_of_ble_eq_true rfl) (by decide) ?_
  unfold cmp_isNaN_uint64 at H0
  refine lok_rt E0 (⟨6, mkS [(0, .x (.one (.p (.val (.int .u64 x)))))], mkH []⟩) ?_
  refine lok_rt E0 (⟨6, mkS [(2, .x (.one (.p (.val (.bool (x != x))))))], mkH []⟩) ?_
  refine lok_ret ?_
  obtain rfl := Option.some.inj H0
  try simp only [thenL, blockL]
  exact fin_au _ (.inr rfl) [] (⟨6, mkS [(2, .x (.one (.p (.val (.bool (x != x))))))], mkH []⟩) rfl rfl imp_au
theorem ok_cmp_Compare_uint64 (x : Int) (y : Int) (r_ : Int) (H0 : cmp_Compare_uint64 x y = some r_) : CallOK Try.prog 76 [.one (.p (.val (.int .u64 x))), .one (.p (.val (.int .u64 y)))] [] [.one (.p (pi r_))] [] := by
  refine callOK (n := 20) (rs := [.tmp 4]) (nb := 0) (V := []) Try.func76 rfl (by kernel_rfl) rfl rfl rfl rfl (Nat.le_of_ble_eq_true rfl) (by decide) ?_
  unfold cmp_Compare_uint64 at H0
  refine lok_rt E0 (⟨20, mkS [(0, .x (.one (.p (.val (.int .u64 x))))), (1, .x (.one (.p (.val (.int .u64 y)))))], mkH []⟩) ?_
  replace H0 := bind_some H0
  obtain ⟨y1, h_0, H0⟩ := H0
  refine lok_rt (Env.of E0 [⟨some 8, 83, [.one (.p (.val (.int .u64 x)))], [], [.one (.p (.val (.bool y1)))], [], True, fun _ => ok_cmp_isNaN_uint64 x y1 h_0, []⟩]) (⟨20, mkS [(0, .x (.one (.p (.val (.int .u64 x))))), (1, .x (.one (.p (.val (.int .u64 y))))), (5, .x (.one (.p (.val (.bool y1)))))], mkH []⟩) ?_
  replace H0 := bind_some H0
  obtain ⟨y2, h_1, H0⟩ := H0
  refine lok_rt (Env.of E0 [⟨some 10, 83, [.one (.p (.val (.int .u64 y)))], [], [.one (.p (.val (.bool y2)))], [], True, fun _ => ok_cmp_isNaN_uint64 y y2 h_1, []⟩]) (⟨20, mkS [(0, .x (.one (.p (.val (.int .u64 x))))), (1, .x (.one (.p (.val (.int .u64 y))))), (5, .x (.one (.p (.val (.bool y1))))), (6, .x (.one (.p (.val (.bool y2)))))], mkH []⟩) ?_
  refine lok_seq ?_
  refine lok_rt E0 (⟨20, mkS [(0, .x (.one (.p (.val (.int .u64 x))))), (1, .x (.one (.p (.val (.int .u64 y))))), (6, .x (.one (.p (.val (.bool y2))))), (11, .x (.one (.p (.val (.bool y1)))))], mkH []⟩) ?_
  refine lok_c y1 ?_ ?_
  · intro b_6
    replace H0 := cpos H0 b_6
    refine lok_seq ?_
    refine lok_rt E0 (⟨20, mkS [(12, .x (.one (.p (.val (.bool y2)))))], mkH []⟩) ?_
    refine lok_c y2 ?_ ?_
    · intro b_2
      replace H0 := cpos H0 b_2
      refine lok_rt E0 (⟨20, mkS [(4, .x (.one (.p (pi (0 : Int)))))], mkH []⟩) ?_
      refine lok_ret ?_
      obtain rfl := Option.some.inj H0
      try simp only [thenL, blockL]
      exact fin_au _ (.inr rfl) [] (⟨20, mkS [(4, .x (.one (.p (pi (0 : Int)))))], mkH []⟩) rfl rfl imp_au
    · intro b_2
      replace H0 := cneg H0 b_2
      refine lok_skip ?_
      try simp only [thenL, blockL, ↓reduceIte, reduceCtorEq]
      refine lok_rt E0 (⟨20, mkS [(4, .x (.one (.p (pi (-1 : Int)))))], mkH []⟩) ?_
      refine lok_ret ?_
      obtain rfl := Option.some.inj H0
      try simp only [thenL, blockL]
      exact fin_au _ (.inr rfl) [] (⟨20, mkS [(4, .x (.one (.p (pi (-1 : Int)))))], mkH []⟩) rfl rfl imp_au
  · intro b_6
    replace H0 := cneg H0 b_6
    refine lok_skip ?_
    try simp only [thenL, blockL, ↓reduceIte, reduceCtorEq]
    refine lok_seq ?_
    refine lok_rt E0 (⟨20, mkS [(0, .x (.one (.p (.val (.int .u64 x))))), (1, .x (.one (.p (.val (.int .u64 y))))), (13, .x (.one (.p (.val (.bool y2)))))], mkH []⟩) ?_
    refine lok_c y2 ?_ ?_
    · intro b_5
      replace H0 := cpos H0 b_5
      refine lok_rt E0 (⟨20, mkS [(4, .x (.one (.p (pi (1 : Int)))))], mkH []⟩) ?_
      refine lok_ret ?_
      obtain rfl := Option.some.inj H0
      try simp only [thenL, blockL]
      exact fin_au _ (.inr rfl) [] (⟨20, mkS [(4, .x (.one (.p (pi (1 : Int)))))], mkH []⟩) rfl rfl imp_au
    · intro b_5
      replace H0 := cneg H0 b_5
      refine lok_skip ?_
      try simp only [thenL, blockL, ↓reduceIte, reduceCtorEq]
      refine lok_seq ?_
      refine lok_rt E0 (⟨20, mkS [(0, .x (.one (.p (.val (.int .u64 x))))), (1, .x (.one (.p (.val (.int .u64 y))))), (16, .x (.one (.p (.val (.bool (decide (x < y)))))))], mkH []⟩) ?_
      refine lok_c (decide (x < y)) ?_ ?_
      · intro b_4
        replace H0 := cpos H0 b_4
        refine lok_rt E0 (⟨20, mkS [(4, .x (.one (.p (pi (-1 : Int)))))], mkH []⟩) ?_
        refine lok_ret ?_
        obtain rfl := Option.some.inj H0
        try simp only [thenL, blockL]
        exact fin_au _ (.inr rfl) [] (⟨20, mkS [(4, .x (.one (.p (pi (-1 : Int)))))], mkH []⟩) rfl rfl imp_au
      · intro b_4
        replace H0 := cneg H0 b_4
        refine lok_skip ?_
        try simp only [thenL, blockL, ↓reduceIte, reduceCtorEq]
        refine lok_seq ?_
        refine lok_rt E0 (⟨20, mkS [(19, .x (.one (.p (.val (.bool (decide (y < x)))))))], mkH []⟩) ?_
        refine lok_c (decide (y < x)) ?_ ?_
        · intro b_3
          replace H0 := cpos H0 b_3
          refine lok_rt E0 (⟨20, mkS [(4, .x (.one (.p (pi (1 : Int)))))], mkH []⟩) ?_
          refine lok_ret ?_
          obtain rfl := Option.some.inj H0
          try simp only [thenL, blockL]
          exact fin_au _ (.inr rfl) [] (⟨20, mkS [(4, .x (.one (.p (pi (1 : Int)))))], mkH []⟩) rfl rfl imp_au
        · intro b_3
          replace H0 := cneg H0 b_3
          refine lok_skip ?_
          try simp only [thenL, blockL, ↓reduceIte, reduceCtorEq]
          refine lok_rt E0 (⟨20, mkS [(4, .x (.one (.p (pi (0 : Int)))))], mkH []⟩) ?_
          refine lok_ret ?_
          obtain rfl := Option.some.inj H0
          try simp only [thenL, blockL]
          exact fin_au _ (.inr rfl) [] (⟨20, mkS [(4, .x (.one (.p (pi (0 : Int)))))], mkH []⟩) rfl rfl imp_au
theorem ok_ratio_wide_compare (a : ratio_wide) (b : ratio_wide) (r_ : Int) (H0 : ratio_wide_compare a b = some r_) : CallOK Try.prog 62 [.agg [.p (.val (.int .u64 a.hi)), .p (.val (.int .u64 a.lo))], .agg [.p (.val (.int .u64 b.hi)), .p (.val (.int .u64 b.lo))]] [] [.one (.p (pi r_))] [] := by
  refine callOK (n := 19) (rs := [.tmp 4]) (nb := 0) (V := []) Try.func62 rfl (by kernel_rfl) rfl rfl rfl rfl (Nat.le_of_ble_eq_true rfl) (by decide) ?_
  unfold ratio_wide_compare at H0
  refine lok_rt E0 (⟨19, mkS [(2, .x (.one (.ptr 102 0))), (3, .x (.one (.ptr 103 0)))], mkH [(102, .var [.p (.val (.int .u64 a.hi)), .p (.val (.int .u64 a.lo))]), (103, .var [.p (.val (.int .u64 b.hi)), .p (.val (.int .u64 b.lo))])]⟩) ?_
  refine lok_seq ?_
  replace H0 := bind_some H0
  obtain ⟨y, h_0, H0⟩ := H0
  refine lok_rt (Env.of E0 [⟨some 10, 76, [.one (.p (.val (.int .u64 a.hi))), .one (.p (.val (.int .u64 b.hi)))], [], [.one (.p (pi y))], [], True, fun _ => ok_cmp_Compare_uint64 a.hi b.hi y h_0, []⟩]) (⟨19, mkS [(2, .x (.one (.ptr 102 0))), (3, .x (.one (.ptr 103 0))), (5, .x (.one (.p (pi y))))], mkH [(102, .var [.p (.val (.int .u64 a.hi)), .p (.val (.int .u64 a.lo))]), (103, .var [.p (.val (.int .u64 b.hi)), .p (.val (.int .u64 b.lo))])]⟩) ?_
  refine lok_rt E0 (⟨19, mkS [(2, .x (.one (.ptr 102 0))), (3, .x (.one (.ptr 103 0))), (5, .x (.one (.p (pi y)))), (12, .x (.one (.p (.val (.bool (y != (0 : Int)))))))], mkH [(102, .var [.p (.val (.int .u64 a.hi)), .p (.val (.int .u64 a.lo))]), (103, .var [.p (.val (.int .u64 b.hi)), .p (.val (.int .u64 b.lo))])]⟩) ?_
  refine lok_c (y != (0 : Int)) ?_ ?_
  · intro b_2
    replace H0 := cpos H0 b_2
    refine lok_rt E0 (⟨19, mkS [(4, .x (.one (.p (pi y))))], mkH []⟩) ?_
    refine lok_ret ?_
    obtain rfl := Option.some.inj H0
    try simp only [thenL, blockL]
    exact fin_au _ (.inr rfl) [] (⟨19, mkS [(4, .x (.one (.p (pi y))))], mkH []⟩) rfl rfl imp_au
  · intro b_2
    replace H0 := cneg H0 b_2
    refine lok_skip ?_
    try simp only [thenL, blockL, ↓reduceIte, reduceCtorEq]
    replace H0 := bind_some H0
    obtain ⟨y1, h_1, H0⟩ := H0
    refine lok_rt (Env.of E0 [⟨some 18, 76, [.one (.p (.val (.int .u64 a.lo))), .one (.p (.val (.int .u64 b.lo)))], [], [.one (.p (pi y1))], [], True, fun _ => ok_cmp_Compare_uint64 a.lo b.lo y1 h_1, []⟩]) (⟨19, mkS [(4, .x (.one (.p (pi y1))))], mkH []⟩) ?_
    refine lok_ret ?_
    obtain rfl := Option.some.inj H0
    try simp only [thenL, blockL]
    exact fin_au _ (.inr rfl) [] (⟨19, mkS [(4, .x (.one (.p (pi y1))))], mkH []⟩) rfl rfl imp_au
theorem ok_ratio_Compare (a : api_Ratio) (b : api_Ratio) (r_ : Int) (H0 : ratio_Compare a b = some r_) : CallOK Try.prog 49 [.agg [.p (pi a.Num), .p (pi a.Den)], .agg [.p (pi b.Num), .p (pi b.Den)]] [] [.one (.p (pi r_))] [] := by
  refine callOK (n := 50) (rs := [.tmp 4]) (nb := 0) (V := []) Try.func49 rfl (by kernel_rfl) rfl rfl rfl rfl (Nat.le_of_ble_eq_true rfl) (by decide) ?_
  unfold ratio_Compare at H0
  refine lok_rt E0 (⟨50, mkS [(2, .x (.one (.ptr 102 0))), (3, .x (.one (.ptr 103 0)))], mkH [(102, .var [.p (pi a.Num), .p (pi a.Den)]), (103, .var [.p (pi b.Num), .p (pi b.Den)])]⟩) ?_
  refine lok_seq ?_
  replace H0 := bind_some H0
  obtain ⟨y, h_0, H0⟩ := H0
  replace H0 := req_some H0
  obtain ⟨q_9, H0⟩ := H0
  refine lok_rt (Env.of E0 [⟨some 8, 48, [.agg [.p (pi a.Num), .p (pi a.Den)]], [], [.one (.p (.val (.bool y)))], [], True, fun _ => ok_ratio_Valid a y h_0, []⟩,
      ⟨some 12, 48, [.agg [.p (pi b.Num), .p (pi b.Den)]], [], [.one (.p (.val (.bool ((ratio_Valid b).getD default))))], [], (ratio_Valid b).isSome = true, fun h => ok_ratio_Valid b _ (isSome_get h), []⟩]) (⟨50, mkS [(2, .x (.one (.ptr 102 0))), (3, .x (.one (.ptr 103 0))), (14, .x (.one (.p (.val (.bool ((!y) || (!((ratio_Valid b).getD default))))))))], mkH [(102, .var [.p (pi a.Num), .p (pi a.Den)]), (103, .var [.p (pi b.Num), .p (pi b.Den)])]⟩) ?_
  refine lok_c ((!y) || (!((ratio_Valid b).getD default))) ?_ ?_
  · intro b_8
    replace H0 := cpos H0 b_8
    refine lok_rt E0 (⟨50, mkS [(4, .x (.one (.p (pi (0 : Int)))))], mkH []⟩) ?_
    refine lok_ret ?_
    obtain rfl := Option.some.inj H0
    try simp only [thenL, blockL]
    exact fin_au _ (.inr rfl) [] (⟨50, mkS [(4, .x (.one (.p (pi (0 : Int)))))], mkH []⟩) rfl rfl imp_au
  · intro b_8
    replace H0 := cneg H0 b_8
    refine lok_skip ?_
    try simp only [thenL, blockL, ↓reduceIte, reduceCtorEq]
    replace H0 := bind_some H0
    obtain ⟨y1, h_1, H0⟩ := H0
    replace H0 := bind_some H0
    obtain ⟨y2, h_2, H0⟩ := H0
    refine lok_et (Env.of E0 [⟨some 20, 61, [.one (.p (pi a.Num)), .one (.p (.val (.int .u64 (IntKind.u64.wrap b.Den))))], [], [.agg [.p (.val (.bool y1.neg)), .p (.val (.int .u64 y1.abs.hi)), .p (.val (.int .u64 y1.abs.lo))]], [], True, fun _ => ok_ratio_signedProduct a.Num (IntKind.u64.wrap b.Den) y1 h_1, []⟩,
      ⟨some 26, 61, [.one (.p (pi b.Num)), .one (.p (.val (.int .u64 (IntKind.u64.wrap a.Den))))], [], [.agg [.p (.val (.bool y2.neg)), .p (.val (.int .u64 y2.abs.hi)), .p (.val (.int .u64 y2.abs.lo))]], [], True, fun _ => ok_ratio_signedProduct b.Num (IntKind.u64.wrap a.Den) y2 h_2, []⟩]) 50 [⟨[(2, .x (.one (.ptr 102 0)))], [], [(15, .x (.one (.ptr 102 0)))], [], none⟩,
      ⟨[(15, .x (.one (.ptr 102 0)))], [(102, some (.var [.p (pi a.Num), .p (pi a.Den)]))], [(16, .x (.one (.p (pi a.Num))))], [], none⟩,
      ⟨[(3, .x (.one (.ptr 103 0)))], [], [(17, .x (.one (.ptr 103 1)))], [], none⟩,
      ⟨[(17, .x (.one (.ptr 103 1)))], [(103, some (.var [.p (pi b.Num), .p (pi b.Den)]))], [(18, .x (.one (.p (pi b.Den))))], [], none⟩,
      ⟨[(18, .x (.one (.p (pi b.Den))))], [], [(19, .x (.one (.p (.val (.int .u64 (IntKind.u64.wrap b.Den))))))], [], none⟩,
      ⟨[(16, .x (.one (.p (pi a.Num)))), (19, .x (.one (.p (.val (.int .u64 (IntKind.u64.wrap b.Den))))))], [], [(20, .x (.agg [.p (.val (.bool y1.neg)), .p (.val (.int .u64 y1.abs.hi)), .p (.val (.int .u64 y1.abs.lo))]))], [], none⟩,
      ⟨[(3, .x (.one (.ptr 103 0)))], [], [(21, .x (.one (.ptr 103 0)))], [], none⟩,
      ⟨[(21, .x (.one (.ptr 103 0)))], [(103, some (.var [.p (pi b.Num), .p (pi b.Den)]))], [(22, .x (.one (.p (pi b.Num))))], [], none⟩,
      ⟨[(2, .x (.one (.ptr 102 0)))], [], [(23, .x (.one (.ptr 102 1)))], [], none⟩,
      ⟨[(23, .x (.one (.ptr 102 1)))], [(102, some (.var [.p (pi a.Num), .p (pi a.Den)]))], [(24, .x (.one (.p (pi a.Den))))], [], none⟩,
      ⟨[(24, .x (.one (.p (pi a.Den))))], [], [(25, .x (.one (.p (.val (.int .u64 (IntKind.u64.wrap a.Den))))))], [], none⟩,
      ⟨[(22, .x (.one (.p (pi b.Num)))), (25, .x (.one (.p (.val (.int .u64 (IntKind.u64.wrap a.Den))))))], [], [(26, .x (.agg [.p (.val (.bool y2.neg)), .p (.val (.int .u64 y2.abs.hi)), .p (.val (.int .u64 y2.abs.lo))]))], [], none⟩,
      ⟨[], [(105, none)], [(5, .x (.one (.ptr 105 0)))], [(105, some (.var [.p (.val (.bool false)), .p (.val (.int .u64 (0 : Int))), .p (.val (.int .u64 (0 : Int)))]))], some 105⟩,
      ⟨[], [(106, none)], [(6, .x (.one (.ptr 106 0)))], [(106, some (.var [.p (.val (.bool false)), .p (.val (.int .u64 (0 : Int))), .p (.val (.int .u64 (0 : Int)))]))], some 106⟩] (⟨50, mkS [(5, .x (.one (.ptr 105 0))), (6, .x (.one (.ptr 106 0)))], mkH [(105, .var [.p (.val (.bool y1.neg)), .p (.val (.int .u64 y1.abs.hi)), .p (.val (.int .u64 y1.abs.lo))]), (106, .var [.p (.val (.bool y2.neg)), .p (.val (.int .u64 y2.abs.hi)), .p (.val (.int .u64 y2.abs.lo))])]⟩) (by kernel_rfl) (by kernel_rfl) (by kernel_rfl) rfl rfl rfl ?_
    refine lok_seq ?_
    refine lok_block ?_
    refine lok_rt E0 (⟨50, mkS [(5, .x (.one (.ptr 105 0))), (6, .x (.one (.ptr 106 0))), (27, .x (.one (.p (.val (.bool (y1.neg && y2.neg))))))], mkH [(105, .var [.p (.val (.bool y1.neg)), .p (.val (.int .u64 y1.abs.hi)), .p (.val (.int .u64 y1.abs.lo))]), (106, .var [.p (.val (.bool y2.neg)), .p (.val (.int .u64 y2.abs.hi)), .p (.val (.int .u64 y2.abs.lo))])]⟩) ?_
    refine lok_c (y1.neg && y2.neg) ?_ ?_
    · intro b_7
      replace H0 := cpos H0 b_7
      replace H0 := bind_some H0
      obtain ⟨y3, h_3, H0⟩ := H0
      refine lok_rt (Env.of E0 [⟨some 38, 62, [.agg [.p (.val (.int .u64 y2.abs.hi)), .p (.val (.int .u64 y2.abs.lo))], .agg [.p (.val (.int .u64 y1.abs.hi)), .p (.val (.int .u64 y1.abs.lo))]], [], [.one (.p (pi y3))], [], True, fun _ => ok_ratio_wide_compare y2.abs y1.abs y3 h_3, []⟩]) (⟨50, mkS [(4, .x (.one (.p (pi y3))))], mkH []⟩) ?_
      refine lok_ret ?_
      obtain rfl := Option.some.inj H0
      try simp only [thenL, blockL]
      exact fin_au _ (.inr rfl) [] (⟨50, mkS [(4, .x (.one (.p (pi y3))))], mkH []⟩) rfl rfl imp_au
    · intro b_7
      replace H0 := cneg H0 b_7
      refine lok_rt E0 (⟨50, mkS [(5, .x (.one (.ptr 105 0))), (6, .x (.one (.ptr 106 0))), (39, .x (.one (.p (.val (.bool y1.neg)))))], mkH [(105, .var [.p (.val (.bool y1.neg)), .p (.val (.int .u64 y1.abs.hi)), .p (.val (.int .u64 y1.abs.lo))]), (106, .var [.p (.val (.bool y2.neg)), .p (.val (.int .u64 y2.abs.hi)), .p (.val (.int .u64 y2.abs.lo))])]⟩) ?_
      refine lok_c y1.neg ?_ ?_
      · intro b_6
        replace H0 := cpos H0 b_6
        refine lok_rt E0 (⟨50, mkS [(4, .x (.one (.p (pi (-1 : Int)))))], mkH []⟩) ?_
        refine lok_ret ?_
        obtain rfl := Option.some.inj H0
        try simp only [thenL, blockL]
        exact fin_au _ (.inr rfl) [] (⟨50, mkS [(4, .x (.one (.p (pi (-1 : Int)))))], mkH []⟩) rfl rfl imp_au
      · intro b_6
        replace H0 := cneg H0 b_6
        refine lok_rt E0 (⟨50, mkS [(5, .x (.one (.ptr 105 0))), (6, .x (.one (.ptr 106 0))), (42, .x (.one (.p (.val (.bool y2.neg)))))], mkH [(105, .var [.p (.val (.bool y1.neg)), .p (.val (.int .u64 y1.abs.hi)), .p (.val (.int .u64 y1.abs.lo))]), (106, .var [.p (.val (.bool y2.neg)), .p (.val (.int .u64 y2.abs.hi)), .p (.val (.int .u64 y2.abs.lo))])]⟩) ?_
        refine lok_c y2.neg ?_ ?_
        · intro b_5
          replace H0 := cpos H0 b_5
          refine lok_rt E0 (⟨50, mkS [(4, .x (.one (.p (pi (1 : Int)))))], mkH []⟩) ?_
          refine lok_ret ?_
          obtain rfl := Option.some.inj H0
          try simp only [thenL, blockL]
          exact fin_au _ (.inr rfl) [] (⟨50, mkS [(4, .x (.one (.p (pi (1 : Int)))))], mkH []⟩) rfl rfl imp_au
        · intro b_5
          replace H0 := cneg H0 b_5
          refine lok_skip ?_
          try simp only [thenL, blockL, ↓reduceIte, reduceCtorEq]
          replace H0 := bind_some H0
          obtain ⟨y4, h_4, H0⟩ := H0
          refine lok_rt (Env.of E0 [⟨some 49, 62, [.agg [.p (.val (.int .u64 y1.abs.hi)), .p (.val (.int .u64 y1.abs.lo))], .agg [.p (.val (.int .u64 y2.abs.hi)), .p (.val (.int .u64 y2.abs.lo))]], [], [.one (.p (pi y4))], [], True, fun _ => ok_ratio_wide_compare y1.abs y2.abs y4 h_4, []⟩]) (⟨50, mkS [(4, .x (.one (.p (pi y4))))], mkH []⟩) ?_
          refine lok_ret ?_
          obtain rfl := Option.some.inj H0
          try simp only [thenL, blockL]
          exact fin_au _ (.inr rfl) [] (⟨50, mkS [(4, .x (.one (.p (pi y4))))], mkH []⟩) rfl rfl imp_au
theorem ok_boundary_compareShare (part : Int) (all : Int) (share : api_Ratio) (r_ : Int) (H0 : boundary_compareShare part all share = some r_) : CallOK Try.prog 37 [.one (.p (pi part)), .one (.p (pi all)), .agg [.p (pi share.Num), .p (pi share.Den)]] [] [.one (.p (pi r_))] [] := by
  refine callOK (n := 18) (rs := [.tmp 6]) (nb := 0) (V := []) Try.func37 rfl (by kernel_rfl) rfl rfl rfl rfl (Nat.le_of_ble_eq_true rfl) (by decide) ?_
  unfold boundary_compareShare at H0
  refine lok_rt E0 (⟨18, mkS [(0, .x (.one (.p (pi part)))), (1, .x (.one (.p (pi all)))), (5, .x (.one (.ptr 105 0)))], mkH [(105, .var [.p (pi share.Num), .p (pi share.Den)])]⟩) ?_
  replace H0 := bind_some H0
  obtain ⟨⟨y, y1⟩, h_0, H0⟩ := H0
  try dsimp only at H0
  refine lok_rt (Env.of E0 [⟨some 12, 41, [.one (.p (pi part)), .one (.p (pi all))], [], [.agg [.p (pi y.Num), .p (pi y.Den)], .one (.p (pi y1))], [], True, fun _ => ok_ratio_New part all (y, y1) h_0, []⟩]) (⟨18, mkS [(5, .x (.one (.ptr 105 0))), (7, .x (.one (.ptr 107 0)))], mkH [(105, .var [.p (pi share.Num), .p (pi share.Den)]), (107, .var [.p (pi y.Num), .p (pi y.Den)])]⟩) ?_
  replace H0 := bind_some H0
  obtain ⟨y2, h_1, H0⟩ := H0
  refine lok_rt (Env.of E0 [⟨some 17, 49, [.agg [.p (pi y.Num), .p (pi y.Den)], .agg [.p (pi share.Num), .p (pi share.Den)]], [], [.one (.p (pi y2))], [], True, fun _ => ok_ratio_Compare y share y2 h_1, []⟩]) (⟨18, mkS [(6, .x (.one (.p (pi y2))))], mkH []⟩) ?_
  refine lok_ret ?_
  obtain rfl := Option.some.inj H0
  try simp only [thenL, blockL]
  exact fin_au _ (.inr rfl) [] (⟨18, mkS [(6, .x (.one (.p (pi y2))))], mkH []⟩) rfl rfl imp_au
theorem ok_boundary_Share (d : api_Distribution) (share : api_Ratio) (r_ : Int × Int) (H0 : boundary_Share d share = some r_) : CallOK Try.prog 19 [.agg [.p (.sl 1 (List.map encI d.Counts))], .agg [.p (pi share.Num), .p (pi share.Den)]] [] [.one (.p (pi r_.1)), .one (.p (pi r_.2))] [] := by
  refine callOK (n := 35) (rs := [.tmp 4, .tmp 5]) (nb := 0) (V := []) Try.func19 rfl (by kernel_rfl) rfl rfl rfl rfl (Nat.le_of_ble_eq_true rfl) (by decide) ?_
  unfold boundary_Share at H0
  refine lok_rt E0 (⟨35, mkS [(2, .x (.one (.ptr 102 0))), (3, .x (.one (.ptr 103 0)))], mkH [(102, .var [.p (.sl 1 (List.map encI d.Counts))]), (103, .var [.p (pi share.Num), .p (pi share.Den)])]⟩) ?_
  refine lok_seq ?_
  replace H0 := bind_some H0
  obtain ⟨y, h_0, H0⟩ := H0
  refine lok_rt (Env.of E0 [⟨some 11, 35, [.agg [.p (.sl 1 (List.map encI d.Counts))], .agg [.p (pi share.Num), .p (pi share.Den)]], [], [.one (.p (pi y))], [], True, fun _ => ok_boundary_check d share y h_0, []⟩]) (⟨35, mkS [(2, .x (.one (.ptr 102 0))), (3, .x (.one (.ptr 103 0))), (6, .x (.one (.p (pi y))))], mkH [(102, .var [.p (.sl 1 (List.map encI d.Counts))]), (103, .var [.p (pi share.Num), .p (pi share.Den)])]⟩) ?_
  refine lok_rt E0 (⟨35, mkS [(2, .x (.one (.ptr 102 0))), (3, .x (.one (.ptr 103 0))), (6, .x (.one (.p (pi y)))), (13, .x (.one (.p (.val (.bool (y != (0 : Int)))))))], mkH [(102, .var [.p (.sl 1 (List.map encI d.Counts))]), (103, .var [.p (pi share.Num), .p (pi share.Den)])]⟩) ?_
  refine lok_c (y != (0 : Int)) ?_ ?_
  · intro b_8
    replace H0 := cpos H0 b_8
    refine lok_rt E0 (⟨35, mkS [(4, .x (.one (.p (pi (0 : Int))))), (5, .x (.one (.p (pi y))))], mkH []⟩) ?_
    refine lok_ret ?_
    obtain rfl := Option.some.inj H0
    try simp only [thenL, blockL]
    exact fin_au _ (.inr rfl) [] (⟨35, mkS [(4, .x (.one (.p (pi (0 : Int))))), (5, .x (.one (.p (pi y))))], mkH []⟩) rfl rfl imp_au
  · intro b_8
    replace H0 := cneg H0 b_8
    refine lok_skip ?_
    try simp only [thenL, blockL, ↓reduceIte, reduceCtorEq]
    replace H0 := bind_some H0
    obtain ⟨y1, h_1, H0⟩ := H0
    refine lok_rt (Env.of E0 [⟨some 16, 36, [.agg [.p (.sl 1 (List.map encI d.Counts))]], [], [.one (.p (.sl 1 (List.map encI y1)))], [], True, fun _ => ok_boundary_reaching d y1 h_1, []⟩]) (⟨35, mkS [(3, .x (.one (.ptr 103 0))), (7, .x (.one (.p (.sl 1 (List.map encI y1)))))], mkH [(103, .var [.p (pi share.Num), .p (pi share.Den)])]⟩) ?_
    refine lok_join (fun x_ : Unit => boundary_Share_j1 = some r_) (fun x_ => ⟨35, mkS [], mkH []⟩) ?hyboundary_Share_j1 ?hxboundary_Share_j1
    case hyboundary_Share_j1 =>
      rintro _ H0
      try dsimp only at H0 ⊢
      unfold boundary_Share_j1 at H0
      refine lok_rt E0 (⟨35, mkS [(4, .x (.one (.p (pi (0 : Int))))), (5, .x (.one (.p (pi (0 : Int)))))], mkH []⟩) ?_
      refine lok_ret ?_
      obtain rfl := Option.some.inj H0
      try simp only [thenL, blockL]
      exact fin_au _ (.inr rfl) [] (⟨35, mkS [(4, .x (.one (.p (pi (0 : Int))))), (5, .x (.one (.p (pi (0 : Int)))))], mkH []⟩) rfl rfl imp_au
    case hxboundary_Share_j1 =>
      refine lok_rt E0 (⟨35, mkS [(3, .x (.one (.ptr 103 0))), (7, .x (.one (.p (.sl 1 (List.map encI y1))))), (8, .x (.one (.p (pi (IntKind.i64.wrap ((y1.length : Int) - (1 : Int)))))))], mkH [(103, .var [.p (pi share.Num), .p (pi share.Den)])]⟩) ?_
      refine lok_block ?_
      replace H0 := bind_some H0
      obtain ⟨v_2, hv_2, H0⟩ := H0
      refine lok_iter (fun x_ => ⟨35, mkS [(3, .x (.one (.ptr 103 0))), (7, .x (.one (.p (.sl 1 (List.map encI y1))))), (8, .x (.one (.p (pi x_))))], mkH [(103, .var [.p (pi share.Num), .p (pi share.Den)])]⟩) hv_2 imp_au ?_
      · rintro b o_1 H1 k_1
        unfold boundary_Share_l2 at H1
        try dsimp only at H1 ⊢
        refine lok_seq ?_
        refine lok_rt E0 (⟨35, mkS [(3, .x (.one (.ptr 103 0))), (7, .x (.one (.p (.sl 1 (List.map encI y1))))), (8, .x (.one (.p (pi b)))), (21, .x (.one (.p (.val (.bool (decide ((0 : Int) < b)))))))], mkH [(103, .var [.p (pi share.Num), .p (pi share.Den)])]⟩) ?_
        refine lok_c (decide ((0 : Int) < b)) ?_ ?_
        · intro b_7
          replace H1 := cpos H1 b_7
          refine lok_skip ?_
          try simp only [thenL, blockL, ↓reduceIte, reduceCtorEq]
          refine lok_seq ?_
          refine lok_block ?_
          replace H1 := req_some H1
          obtain ⟨⟨q_5, q_6⟩, H1⟩ := H1
          replace H1 := bind_some H1
          obtain ⟨y2, h_3, H1⟩ := H1
          refine lok_dt (Env.of E0 [⟨some 32, 37, [.one (.p (pi (ix y1 b))), .one (.p (pi (ix y1 (0 : Int)))), .agg [.p (pi share.Num), .p (pi share.Den)]], [], [.one (.p (pi y2))], [], True, fun _ => ok_boundary_compareShare (ix y1 b) (ix y1 (0 : Int)) share y2 h_3, []⟩]) 8 (⟨35, mkS [(3, .x (.one (.ptr 103 0))), (7, .x (.one (.p (.sl 1 (List.map encI y1))))), (8, .x (.one (.p (pi b)))), (33, .x (.one (.p (.val (.bool (decide ((0 : Int) ≤ y2)))))))], mkH [(103, .var [.p (pi share.Num), .p (pi share.Den)])]⟩) (by kernel_rfl) (by kernel_rfl) ?_
          refine lok_c (decide ((0 : Int) ≤ y2)) ?_ ?_
          · intro b_4
            replace H1 := cpos H1 b_4
            refine lok_rt E0 (⟨35, mkS [(4, .x (.one (.p (pi b)))), (5, .x (.one (.p (pi (0 : Int)))))], mkH []⟩) ?_
            refine lok_ret ?_
            try simp only [thenL, blockL, ↓reduceIte, reduceCtorEq]
            have e_1 := k_1 _ (Option.some.inj H1).symm
            subst e_1
            try dsimp only at H0
            obtain rfl := Option.some.inj H0
            try simp only [thenL, blockL]
            exact fin_au _ (.inr rfl) [] (⟨35, mkS [(4, .x (.one (.p (pi b)))), (5, .x (.one (.p (pi (0 : Int)))))], mkH []⟩) rfl rfl imp_au
          · intro b_4
            replace H1 := cneg H1 b_4
            refine lok_skip ?_
            try simp only [thenL, blockL, ↓reduceIte, reduceCtorEq]
            refine lok_rl E0 (⟨35, mkS [(3, .x (.one (.ptr 103 0))), (7, .x (.one (.p (.sl 1 (List.map encI y1))))), (8, .x (.one (.p (pi (IntKind.i64.wrap (b - (1 : Int)))))))], mkH [(103, .var [.p (pi share.Num), .p (pi share.Den)])]⟩) ?_
            try simp only [thenL, blockL, ↓reduceIte, reduceCtorEq]
            exact ⟨(IntKind.i64.wrap (b - (1 : Int))), (Option.some.inj H1).symm, imp_au⟩
        · intro b_7
          replace H1 := cneg H1 b_7
          refine lok_exit ?_
          try simp only [thenL, blockL, ↓reduceIte, reduceCtorEq]
          have e_1 := k_1 _ (Option.some.inj H1).symm
          subst e_1
          try dsimp only at H0
          try simp only [thenL, blockL, ↓reduceIte, reduceCtorEq]
          exact ⟨(), H0, imp_au⟩
theorem ok_law35_sane  (r_ : Bool) (H0 : law35_sane = some r_) : CallOK Try.prog 9 [] [] [.one (.p (.val (.bool r_)))] [] := by
  refine callOK (n := 76) (rs := [.tmp 0]) (nb := 0) (V := []) Try.func9 rfl (by kernel_rfl) rfl rfl rfl rfl (Nat.le_of_ble_eq_true rfl) (by decide) ?_
  unfold law35_sane at H0
  refine lok_rt E0 (⟨76, mkS [], mkH []⟩) ?_
  refine lok_rt E0 (⟨76, mkS [(1, .x (.one (.ptr 101 0)))], mkH [(101, .var [.fl 1 (List.map encI ([(1 : Int), (1 : Int), (1 : Int), (1 : Int)]))])]⟩) ?_
  replace H0 := bind_some H0
  obtain ⟨⟨y, y1⟩, h_0, H0⟩ := H0
  try dsimp only at H0
  refine lok_rt (Env.of E0 [⟨some 15, 19, [.agg [.p (.sl 1 (List.map encI ([(1 : Int), (1 : Int), (1 : Int), (1 : Int)])))], .agg [.p (pi (1 : Int)), .p (pi (2 : Int))]], [], [.one (.p (pi y)), .one (.p (pi y1))], [], True, fun _ => ok_boundary_Share (api_Distribution.mk ([(1 : Int), (1 : Int), (1 : Int), (1 : Int)])) (api_Ratio.mk (1 : Int) (2 : Int)) (y, y1) h_0, []⟩]) (⟨76, mkS [(1, .x (.one (.ptr 101 0))), (2, .x (.one (.p (pi y)))), (3, .x (.one (.p (pi y1))))], mkH [(101, .var [.fl 1 (List.map encI ([(1 : Int), (1 : Int), (1 : Int), (1 : Int)]))])]⟩) ?_
  replace H0 := bind_some H0
  obtain ⟨⟨y2, y3⟩, h_1, H0⟩ := H0
  try dsimp only at H0
  refine lok_rt (Env.of E0 [⟨some 21, 19, [.agg [.p (.sl 1 (List.map encI ([(1 : Int), (1 : Int), (1 : Int), (1 : Int)])))], .agg [.p (pi (0 : Int)), .p (pi (1 : Int))]], [], [.one (.p (pi y2)), .one (.p (pi y3))], [], True, fun _ => ok_boundary_Share (api_Distribution.mk ([(1 : Int), (1 : Int), (1 : Int), (1 : Int)])) (api_Ratio.mk (0 : Int) (1 : Int)) (y2, y3) h_1, []⟩]) (⟨76, mkS [(1, .x (.one (.ptr 101 0))), (2, .x (.one (.p (pi y)))), (3, .x (.one (.p (pi y1)))), (4, .x (.one (.p (pi y2)))), (5, .x (.one (.p (pi y3))))], mkH [(101, .var [.fl 1 (List.map encI ([(1 : Int), (1 : Int), (1 : Int), (1 : Int)]))])]⟩) ?_
  replace H0 := bind_some H0
  obtain ⟨⟨y4, y5⟩, h_2, H0⟩ := H0
  try dsimp only at H0
  refine lok_rt (Env.of E0 [⟨some 25, 17, [.one (.p (pi (70 : Int))), .one (.p (pi (40 : Int))), .one (.p (pi (4 : Int)))], [], [.one (.p (.sl 1 (List.map encI y4))), .one (.p (pi y5))], [], True, fun _ => ok_boundary_Interpolate (70 : Int) (40 : Int) (4 : Int) (y4, y5) h_2, []⟩]) (⟨76, mkS [(1, .x (.one (.ptr 101 0))), (2, .x (.one (.p (pi y)))), (3, .x (.one (.p (pi y1)))), (4, .x (.one (.p (pi y2)))), (5, .x (.one (.p (pi y3)))), (6, .x (.one (.p (.sl 1 (List.map encI y4))))), (7, .x (.one (.p (pi y5))))], mkH [(101, .var [.fl 1 (List.map encI ([(1 : Int), (1 : Int), (1 : Int), (1 : Int)]))])]⟩) ?_
  replace H0 := bind_some H0
  obtain ⟨⟨y6, y7⟩, h_3, H0⟩ := H0
  try dsimp only at H0
  refine lok_rt (Env.of E0 [⟨some 31, 13, [.agg [.p (.sl 1 (List.map encI ([(1 : Int), (1 : Int), (1 : Int), (1 : Int)])))], .one (.p (.sl 1 (List.map encI ([(3 : Int), (1 : Int)]))))], [], [.one (.p (.sl 1 (List.map encI y6))), .one (.p (pi y7))], [], True, fun _ => ok_boundary_Tally (api_Distribution.mk ([(1 : Int), (1 : Int), (1 : Int), (1 : Int)])) ([(3 : Int), (1 : Int)]) (y6, y7) h_3, []⟩]) (⟨76, mkS [(2, .x (.one (.p (pi y)))), (3, .x (.one (.p (pi y1)))), (4, .x (.one (.p (pi y2)))), (5, .x (.one (.p (pi y3)))), (6, .x (.one (.p (.sl 1 (List.map encI y4))))), (7, .x (.one (.p (pi y5)))), (8, .x (.one (.p (.sl 1 (List.map encI y6))))), (9, .x (.one (.p (pi y7))))], mkH []⟩) ?_
  replace H0 := req_some H0
  obtain ⟨⟨q_4, q_5, q_6, q_7⟩, H0⟩ := H0
  refine lok_rt (Env.of E0 [⟨some 59, 15, [.one (.p (.sl 1 (List.map encI y4))), .one (.p (.sl 1 (List.map encI ([(70 : Int), (62 : Int), (55 : Int), (47 : Int), (40 : Int)]))))], [], [.one (.p (.val (.bool ((law35_same y4 ([(70 : Int), (62 : Int), (55 : Int), (47 : Int), (40 : Int)])).getD default))))], [], (law35_same y4 ([(70 : Int), (62 : Int), (55 : Int), (47 : Int), (40 : Int)])).isSome = true, fun h => ok_law35_same y4 ([(70 : Int), (62 : Int), (55 : Int), (47 : Int), (40 : Int)]) _ (isSome_get h), []⟩,
      ⟨some 64, 15, [.one (.p (.sl 1 (List.map encI y6))), .one (.p (.sl 1 (List.map encI ([(1 : Int), (2 : Int), (1 : Int)]))))], [], [.one (.p (.val (.bool ((law35_same y6 ([(1 : Int), (2 : Int), (1 : Int)])).getD default))))], [], (law35_same y6 ([(1 : Int), (2 : Int), (1 : Int)])).isSome = true, fun h => ok_law35_same y6 ([(1 : Int), (2 : Int), (1 : Int)]) _ (isSome_get h), []⟩,
      ⟨some 68, 14, [.one (.p (.sl 1 (List.map encI ([(3 : Int), (1 : Int)])))), .one (.p (pi (2 : Int)))], [], [.one (.p (pi ((boundary_Grade ([(3 : Int), (1 : Int)]) (2 : Int)).getD default)))], [], (boundary_Grade ([(3 : Int), (1 : Int)]) (2 : Int)).isSome = true, fun h => ok_boundary_Grade ([(3 : Int), (1 : Int)]) (2 : Int) _ (isSome_get h), []⟩,
      ⟨some 73, 27, [.one (.p (.sl 1 (List.map encI ([(3 : Int), (1 : Int)])))), .one (.p (pi (3 : Int)))], [], [.one (.p (pi ((boundary_Check ([(3 : Int), (1 : Int)]) (3 : Int)).getD default)))], [], (boundary_Check ([(3 : Int), (1 : Int)]) (3 : Int)).isSome = true, fun h => ok_boundary_Check ([(3 : Int), (1 : Int)]) (3 : Int) _ (isSome_get h), []⟩]) (⟨76, mkS [(0, .x (.one (.p (.val (.bool ((((((((((y1 == (0 : Int)) && (y3 == (0 : Int))) && (y5 == (0 : Int))) && (y7 == (0 : Int))) && (y == (2 : Int))) && (y2 == (4 : Int))) && ((law35_same y4 ([(70 : Int), (62 : Int), (55 : Int), (47 : Int), (40 : Int)])).getD default)) && ((law35_same y6 ([(1 : Int), (2 : Int), (1 : Int)])).getD default)) && (((boundary_Grade ([(3 : Int), (1 : Int)]) (2 : Int)).getD default) == (1 : Int))) && (((boundary_Check ([(3 : Int), (1 : Int)]) (3 : Int)).getD default) == (0 : Int))))))))], mkH []⟩) ?_
  refine lok_ret ?_
  obtain rfl := Option.some.inj H0
  try simp only [thenL, blockL]
  exact fin_au _ (.inr rfl) [] (⟨76, mkS [(0, .x (.one (.p (.val (.bool ((((((((((y1 == (0 : Int)) && (y3 == (0 : Int))) && (y5 == (0 : Int))) && (y7 == (0 : Int))) && (y == (2 : Int))) && (y2 == (4 : Int))) && ((law35_same y4 ([(70 : Int), (62 : Int), (55 : Int), (47 : Int), (40 : Int)])).getD default)) && ((law35_same y6 ([(1 : Int), (2 : Int), (1 : Int)])).getD default)) && (((boundary_Grade ([(3 : Int), (1 : Int)]) (2 : Int)).getD default) == (1 : Int))) && (((boundary_Check ([(3 : Int), (1 : Int)]) (3 : Int)).getD default) == (0 : Int))))))))], mkH []⟩) rfl rfl imp_au
theorem ok_law35_BoundaryGrades (t : List Int) (r_ : Bool) (H0 : law35_BoundaryGrades t = some r_) : CallOK Try.prog 3 [.one (.p (.sl 1 (List.map encI t)))] [] [.one (.p (.val (.bool r_)))] [] := by
  refine callOK (n := 118) (rs := [.tmp 2]) (nb := 0) (V := []) Try.func3 rfl (by kernel_rfl) rfl rfl rfl rfl (Nat.le_of_ble_eq_true rfl) (by decide) ?_
  unfold law35_BoundaryGrades at H0
  refine lok_rt E0 (⟨118, mkS [(0, .x (.one (.p (.sl 1 (List.map encI t)))))], mkH []⟩) ?_
  refine lok_seq ?_
  replace H0 := bind_some H0
  obtain ⟨y, h_0, H0⟩ := H0
  refine lok_rt (Env.of E0 [⟨some 18, 8, [.one (.p (.sl 1 (List.map encI t)))], [], [.one (.p (.val (.bool y)))], [], True, fun _ => ok_mark_Light t y h_0, []⟩]) (⟨118, mkS [(0, .x (.one (.p (.sl 1 (List.map encI t))))), (19, .x (.one (.p (.val (.bool (!y))))))], mkH []⟩) ?_
  refine lok_c (!y) ?_ ?_
  · intro b_24
    replace H0 := cpos H0 b_24
    replace H0 := bind_some H0
    obtain ⟨y1, h_1, H0⟩ := H0
    refine lok_rt (Env.of E0 [⟨some 20, 9, [], [], [.one (.p (.val (.bool y1)))], [], True, fun _ => ok_law35_sane y1 h_1, []⟩]) (⟨118, mkS [(2, .x (.one (.p (.val (.bool y1)))))], mkH []⟩) ?_
    refine lok_ret ?_
    obtain rfl := Option.some.inj H0
    try simp only [thenL, blockL]
    exact fin_au _ (.inr rfl) [] (⟨118, mkS [(2, .x (.one (.p (.val (.bool y1)))))], mkH []⟩) rfl rfl imp_au
  · intro b_24
    replace H0 := cneg H0 b_24
    refine lok_skip ?_
    try simp only [thenL, blockL, ↓reduceIte, reduceCtorEq]
    replace H0 := bind_some H0
    obtain ⟨y2, h_2, H0⟩ := H0
    refine lok_rt (Env.of E0 [⟨some 22, 10, [.one (.p (.sl 1 (List.map encI t)))], [], [.one (.ptr 0 0)], [some (.var [.p (.sl 1 (List.map encI y2.L)), .p (pi y2.At)])], True, fun _ => ok_mark_Roll t y2 h_2, []⟩]) (⟨118, mkS [(3, .x (.one (.ptr 1022 0)))], mkH [(1022, .var [.p (.sl 1 (List.map encI y2.L)), .p (pi y2.At)])]⟩) ?_
    replace H0 := bind_some H0
    obtain ⟨⟨y3, y4⟩, h_3, H0⟩ := H0
    try dsimp only at H0
    refine lok_rt (Env.of E0 [⟨some 24, 11, [.one (.ptr 0 0), .one (.p (pi (9 : Int))), .one (.p (.val (.bool false)))], [.var [.p (.sl 1 (List.map encI y2.L)), .p (pi y2.At)]], [.agg [.p (.sl 1 (List.map encI y3.Counts))]], [some (.var [.p (.sl 1 (List.map encI y4.L)), .p (pi y4.At)])], True, fun _ => ok_mark_Dice_Distribution y2 (9 : Int) false (y3, y4) h_3, []⟩]) (⟨118, mkS [(3, .x (.one (.ptr 1022 0))), (4, .x (.one (.ptr 104 0)))], mkH [(104, .var [.p (.sl 1 (List.map encI y3.Counts))]), (1022, .var [.p (.sl 1 (List.map encI y4.L)), .p (pi y4.At)])]⟩) ?_
    refine lok_rt E0 (⟨118, mkS [(3, .x (.one (.ptr 1022 0))), (4, .x (.one (.ptr 104 0))), (5, .x (.one (.p (pi (IntKind.i64.wrap ((y3.Counts.length : Int) - (1 : Int)))))))], mkH [(104, .var [.p (.sl 1 (List.map encI y3.Counts))]), (1022, .var [.p (.sl 1 (List.map encI y4.L)), .p (pi y4.At)])]⟩) ?_
    replace H0 := bind_some H0
    obtain ⟨⟨y5, y6⟩, h_4, H0⟩ := H0
    try dsimp only at H0
    refine lok_rt (Env.of E0 [⟨some 31, 12, [.one (.ptr 0 0), .one (.p (pi (IntKind.i64.wrap ((y3.Counts.length : Int) - (1 : Int)))))], [.var [.p (.sl 1 (List.map encI y4.L)), .p (pi y4.At)]], [.one (.p (.sl 1 (List.map encI y5)))], [some (.var [.p (.sl 1 (List.map encI y6.L)), .p (pi y6.At)])], True, fun _ => ok_mark_Dice_Bounds y4 (IntKind.i64.wrap ((y3.Counts.length : Int) - (1 : Int))) (y5, y6) h_4, []⟩]) (⟨118, mkS [(4, .x (.one (.ptr 104 0))), (5, .x (.one (.p (pi (IntKind.i64.wrap ((y3.Counts.length : Int) - (1 : Int))))))), (6, .x (.one (.p (.sl 1 (List.map encI y5)))))], mkH [(104, .var [.p (.sl 1 (List.map encI y3.Counts))])]⟩) ?_
    replace H0 := bind_some H0
    obtain ⟨⟨y7, y8⟩, h_5, H0⟩ := H0
    try dsimp only at H0
    refine lok_rt (Env.of E0 [⟨some 35, 13, [.agg [.p (.sl 1 (List.map encI y3.Counts))], .one (.p (.sl 1 (List.map encI y5)))], [], [.one (.p (.sl 1 (List.map encI y7))), .one (.p (pi y8))], [], True, fun _ => ok_boundary_Tally y3 y5 (y7, y8) h_5, []⟩]) (⟨118, mkS [(4, .x (.one (.ptr 104 0))), (5, .x (.one (.p (pi (IntKind.i64.wrap ((y3.Counts.length : Int) - (1 : Int))))))), (6, .x (.one (.p (.sl 1 (List.map encI y5))))), (7, .x (.one (.p (.sl 1 (List.map encI y7))))), (8, .x (.one (.p (pi y8))))], mkH [(104, .var [.p (.sl 1 (List.map encI y3.Counts))])]⟩) ?_
    refine lok_seq ?_
    refine lok_rt E0 (⟨118, mkS [(4, .x (.one (.ptr 104 0))), (5, .x (.one (.p (pi (IntKind.i64.wrap ((y3.Counts.length : Int) - (1 : Int))))))), (6, .x (.one (.p (.sl 1 (List.map encI y5))))), (7, .x (.one (.p (.sl 1 (List.map encI y7))))), (47, .x (.one (.p (.val (.bool ((y8 != (0 : Int)) || ((y7.length : Int) != (IntKind.i64.wrap ((y5.length : Int) + (1 : Int))))))))))], mkH [(104, .var [.p (.sl 1 (List.map encI y3.Counts))])]⟩) ?_
    refine lok_c ((y8 != (0 : Int)) || ((y7.length : Int) != (IntKind.i64.wrap ((y5.length : Int) + (1 : Int))))) ?_ ?_
    · intro b_23
      replace H0 := cpos H0 b_23
      refine lok_rt E0 (⟨118, mkS [(2, .x (.one (.p (.val (.bool false)))))], mkH []⟩) ?_
      refine lok_ret ?_
      obtain rfl := Option.some.inj H0
      try simp only [thenL, blockL]
      exact fin_au _ (.inr rfl) [] (⟨118, mkS [(2, .x (.one (.p (.val (.bool false)))))], mkH []⟩) rfl rfl imp_au
    · intro b_23
      replace H0 := cneg H0 b_23
      refine lok_skip ?_
      try simp only [thenL, blockL, ↓reduceIte, reduceCtorEq]
      refine lok_rt E0 (⟨118, mkS [(4, .x (.one (.ptr 104 0))), (5, .x (.one (.p (pi (IntKind.i64.wrap ((y3.Counts.length : Int) - (1 : Int))))))), (6, .x (.one (.p (.sl 1 (List.map encI y5))))), (7, .x (.one (.p (.sl 1 (List.map encI y7))))), (9, .x (.one (.p (pi (0 : Int))))), (10, .x (.one (.p (pi (y5.length : Int)))))], mkH [(104, .var [.p (.sl 1 (List.map encI y3.Counts))])]⟩) ?_
      replace H0 := req_some H0
      obtain ⟨q_22, H0⟩ := H0
      refine lok_rt E0 (⟨118, mkS [(4, .x (.one (.ptr 104 0))), (5, .x (.one (.p (pi (IntKind.i64.wrap ((y3.Counts.length : Int) - (1 : Int))))))), (6, .x (.one (.p (.sl 1 (List.map encI y5))))), (7, .x (.one (.p (.sl 1 (List.map encI y7))))), (9, .x (.one (.p (pi (0 : Int))))), (10, .x (.one (.p (pi (y5.length : Int))))), (11, .x (.one (.vw 152)))], mkH [(104, .var [.p (.sl 1 (List.map encI y3.Counts))]), (152, .arr 1 (List.map encI (rep (y7.length : Int) (0 : Int))))]⟩) ?_
      refine lok_join (fun x_ : (List Int) => law35_BoundaryGrades_j3 y3 y7 x_ = some r_) (fun x_ => ⟨118, mkS [(4, .x (.one (.ptr 104 0))), (7, .x (.one (.p (.sl 1 (List.map encI y7))))), (9, .x (.one (.p (pi (0 : Int))))), (11, .x (.one (.vw 152)))], mkH [(104, .var [.p (.sl 1 (List.map encI y3.Counts))]), (152, .arr 1 (List.map encI x_))]⟩) ?hylaw35_BoundaryGrades_j3 ?hxlaw35_BoundaryGrades_j3
      case hylaw35_BoundaryGrades_j3 =>
        rintro w H0
        try dsimp only at H0 ⊢
        unfold law35_BoundaryGrades_j3 at H0
        refine lok_join (fun x_ : Int => law35_BoundaryGrades_j1 y3 y7 w x_ = some r_) (fun x_ => ⟨118, mkS [(4, .x (.one (.ptr 104 0))), (7, .x (.one (.p (.sl 1 (List.map encI y7))))), (9, .x (.one (.p (pi x_)))), (11, .x (.one (.vw 152)))], mkH [(104, .var [.p (.sl 1 (List.map encI y3.Counts))]), (152, .arr 1 (List.map encI w))]⟩) ?hylaw35_BoundaryGrades_j1 ?hxlaw35_BoundaryGrades_j1
        case hylaw35_BoundaryGrades_j1 =>
          rintro sum H0
          try dsimp only at H0 ⊢
          unfold law35_BoundaryGrades_j1 at H0
          replace H0 := bind_some H0
          obtain ⟨y9, h_6, H0⟩ := H0
          replace H0 := req_some H0
          obtain ⟨⟨q_7, q_8⟩, H0⟩ := H0
          refine lok_rt (Env.of E0 [⟨some 108, 15, [.one (.p (.sl 1 (List.map encI y7))), .one (.p (.sl 1 (List.map encI w)))], [], [.one (.p (.val (.bool y9)))], [], True, fun _ => ok_law35_same y7 w y9 h_6, []⟩,
      ⟨some 112, 16, [.agg [.p (.sl 1 (List.map encI y3.Counts))]], [], [.one (.p (pi ((ref32_Count y3).getD default)))], [], (ref32_Count y3).isSome = true, fun h => ok_ref32_Count y3 _ (isSome_get h), []⟩,
      ⟨some 116, 9, [], [], [.one (.p (.val (.bool ((law35_sane).getD default))))], [], (law35_sane).isSome = true, fun h => ok_law35_sane _ (isSome_get h), []⟩]) (⟨118, mkS [(2, .x (.one (.p (.val (.bool ((y9 && (sum == ((ref32_Count y3).getD default))) && ((law35_sane).getD default)))))))], mkH []⟩) ?_
          refine lok_ret ?_
          obtain rfl := Option.some.inj H0
          try simp only [thenL, blockL]
          exact fin_au _ (.inr rfl) [] (⟨118, mkS [(2, .x (.one (.p (.val (.bool ((y9 && (sum == ((ref32_Count y3).getD default))) && ((law35_sane).getD default)))))))], mkH []⟩) rfl rfl imp_au
        case hxlaw35_BoundaryGrades_j1 =>
          refine lok_rt E0 (⟨118, mkS [(4, .x (.one (.ptr 104 0))), (7, .x (.one (.p (.sl 1 (List.map encI y7))))), (9, .x (.one (.p (pi (0 : Int))))), (11, .x (.one (.vw 152))), (96, .x (.one (.p (.sl 1 (List.map encI y7))))), (97, .x (.one (.p (pi (y7.length : Int))))), (98, .x (.one (.p (pi (0 : Int)))))], mkH [(104, .var [.p (.sl 1 (List.map encI y3.Counts))]), (152, .arr 1 (List.map encI w))]⟩) ?_
          refine lok_block ?_
          replace H0 := bind_some H0
          obtain ⟨v_9, hv_9, H0⟩ := H0
          refine lok_iter (fun x_ => ⟨118, mkS [(4, .x (.one (.ptr 104 0))), (7, .x (.one (.p (.sl 1 (List.map encI y7))))), (9, .x (.one (.p (pi x_.1)))), (11, .x (.one (.vw 152))), (96, .x (.one (.p (.sl 1 (List.map encI y7))))), (97, .x (.one (.p (pi (y7.length : Int))))), (98, .x (.one (.p (pi x_.2))))], mkH [(104, .var [.p (.sl 1 (List.map encI y3.Counts))]), (152, .arr 1 (List.map encI w))]⟩) hv_9 imp_au ?_
          · rintro ⟨sum1, v⟩ o_1 H1 k_1
            unfold law35_BoundaryGrades_l2 at H1
            try dsimp only at H1 ⊢
            refine lok_rt E0 (⟨118, mkS [(4, .x (.one (.ptr 104 0))), (7, .x (.one (.p (.sl 1 (List.map encI y7))))), (9, .x (.one (.p (pi sum1)))), (11, .x (.one (.vw 152))), (96, .x (.one (.p (.sl 1 (List.map encI y7))))), (97, .x (.one (.p (pi (y7.length : Int))))), (98, .x (.one (.p (pi v)))), (99, .x (.one (.p (.val (.bool (decide (v < (y7.length : Int))))))))], mkH [(104, .var [.p (.sl 1 (List.map encI y3.Counts))]), (152, .arr 1 (List.map encI w))]⟩) ?_
            refine lok_seq ?_
            refine lok_c (decide (v < (y7.length : Int))) ?_ ?_
            · intro b_11
              replace H1 := cpos H1 b_11
              refine lok_skip ?_
              try simp only [thenL, blockL, ↓reduceIte, reduceCtorEq]
              refine lok_seq ?_
              refine lok_block ?_
              replace H1 := req_some H1
              obtain ⟨q_10, H1⟩ := H1
              refine lok_rt E0 (⟨118, mkS [(4, .x (.one (.ptr 104 0))), (7, .x (.one (.p (.sl 1 (List.map encI y7))))), (9, .x (.one (.p (pi sum1)))), (11, .x (.one (.vw 152))), (16, .x (.one (.p (pi (ix y7 v))))), (96, .x (.one (.p (.sl 1 (List.map encI y7))))), (97, .x (.one (.p (pi (y7.length : Int))))), (98, .x (.one (.p (pi v))))], mkH [(104, .var [.p (.sl 1 (List.map encI y3.Counts))]), (152, .arr 1 (List.map encI w))]⟩) ?_
              refine lok_rl E0 (⟨118, mkS [(4, .x (.one (.ptr 104 0))), (7, .x (.one (.p (.sl 1 (List.map encI y7))))), (9, .x (.one (.p (pi (IntKind.i64.wrap (sum1 + (ix y7 v))))))), (11, .x (.one (.vw 152))), (96, .x (.one (.p (.sl 1 (List.map encI y7))))), (97, .x (.one (.p (pi (y7.length : Int))))), (98, .x (.one (.p (pi v))))], mkH [(104, .var [.p (.sl 1 (List.map encI y3.Counts))]), (152, .arr 1 (List.map encI w))]⟩) ?_
              try simp only [thenL, blockL, ↓reduceIte, reduceCtorEq]
              refine lok_rl E0 (⟨118, mkS [(4, .x (.one (.ptr 104 0))), (7, .x (.one (.p (.sl 1 (List.map encI y7))))), (9, .x (.one (.p (pi (IntKind.i64.wrap (sum1 + (ix y7 v))))))), (11, .x (.one (.vw 152))), (96, .x (.one (.p (.sl 1 (List.map encI y7))))), (97, .x (.one (.p (pi (y7.length : Int))))), (98, .x (.one (.p (pi (IntKind.i64.wrap (v + (1 : Int)))))))], mkH [(104, .var [.p (.sl 1 (List.map encI y3.Counts))]), (152, .arr 1 (List.map encI w))]⟩) ?_
              try simp only [thenL, blockL, ↓reduceIte, reduceCtorEq]
              exact ⟨((IntKind.i64.wrap (sum1 + (ix y7 v))), (IntKind.i64.wrap (v + (1 : Int)))), (Option.some.inj H1).symm, imp_au⟩
            · intro b_11
              replace H1 := cneg H1 b_11
              refine lok_exit ?_
              try simp only [thenL, blockL, ↓reduceIte, reduceCtorEq]
              have e_1 := k_1 _ (Option.some.inj H1).symm
              subst e_1
              try dsimp only at H0
              try simp only [thenL, blockL, ↓reduceIte, reduceCtorEq]
              exact ⟨sum1, H0, imp_au⟩
      case hxlaw35_BoundaryGrades_j3 =>
        refine lok_rt E0 (⟨118, mkS [(4, .x (.one (.ptr 104 0))), (5, .x (.one (.p (pi (IntKind.i64.wrap ((y3.Counts.length : Int) - (1 : Int))))))), (6, .x (.one (.p (.sl 1 (List.map encI y5))))), (7, .x (.one (.p (.sl 1 (List.map encI y7))))), (9, .x (.one (.p (pi (0 : Int))))), (10, .x (.one (.p (pi (y5.length : Int))))), (11, .x (.one (.vw 152))), (12, .x (.one (.p (pi (0 : Int)))))], mkH [(104, .var [.p (.sl 1 (List.map encI y3.Counts))]), (152, .arr 1 (List.map encI (rep (y7.length : Int) (0 : Int))))]⟩) ?_
        refine lok_block ?_
        replace H0 := bind_some H0
        obtain ⟨v_12, hv_12, H0⟩ := H0
        refine lok_iter (fun x_ => ⟨118, mkS [(4, .x (.one (.ptr 104 0))), (5, .x (.one (.p (pi (IntKind.i64.wrap ((y3.Counts.length : Int) - (1 : Int))))))), (6, .x (.one (.p (.sl 1 (List.map encI y5))))), (7, .x (.one (.p (.sl 1 (List.map encI y7))))), (9, .x (.one (.p (pi (0 : Int))))), (10, .x (.one (.p (pi x_.1)))), (11, .x (.one (.vw 152))), (12, .x (.one (.p (pi x_.2.1))))], mkH [(104, .var [.p (.sl 1 (List.map encI y3.Counts))]), (152, .arr 1 (List.map encI x_.2.2))]⟩) hv_12 imp_au ?_
        · rintro ⟨last, m, w1⟩ o_1 H1 k_1
          unfold law35_BoundaryGrades_l7 at H1
          try dsimp only at H1 ⊢
          refine lok_seq ?_
          refine lok_rt E0 (⟨118, mkS [(4, .x (.one (.ptr 104 0))), (5, .x (.one (.p (pi (IntKind.i64.wrap ((y3.Counts.length : Int) - (1 : Int))))))), (6, .x (.one (.p (.sl 1 (List.map encI y5))))), (7, .x (.one (.p (.sl 1 (List.map encI y7))))), (9, .x (.one (.p (pi (0 : Int))))), (10, .x (.one (.p (pi last)))), (11, .x (.one (.vw 152))), (12, .x (.one (.p (pi m)))), (55, .x (.one (.p (.val (.bool (decide (m ≤ (IntKind.i64.wrap ((y3.Counts.length : Int) - (1 : Int))))))))))], mkH [(104, .var [.p (.sl 1 (List.map encI y3.Counts))]), (152, .arr 1 (List.map encI w1))]⟩) ?_
          refine lok_c (decide (m ≤ (IntKind.i64.wrap ((y3.Counts.length : Int) - (1 : Int))))) ?_ ?_
          · intro b_21
            replace H1 := cpos H1 b_21
            refine lok_skip ?_
            try simp only [thenL, blockL, ↓reduceIte, reduceCtorEq]
            refine lok_join (fun x_ : Int × (List Int) => law35_BoundaryGrades_j4 m x_.1 x_.2 = some o_1) (fun x_ => ⟨118, mkS [(4, .x (.one (.ptr 104 0))), (5, .x (.one (.p (pi (IntKind.i64.wrap ((y3.Counts.length : Int) - (1 : Int))))))), (6, .x (.one (.p (.sl 1 (List.map encI y5))))), (7, .x (.one (.p (.sl 1 (List.map encI y7))))), (9, .x (.one (.p (pi (0 : Int))))), (10, .x (.one (.p (pi x_.1)))), (11, .x (.one (.vw 152))), (12, .x (.one (.p (pi m))))], mkH [(104, .var [.p (.sl 1 (List.map encI y3.Counts))]), (152, .arr 1 (List.map encI x_.2))]⟩) ?hylaw35_BoundaryGrades_j4 ?hxlaw35_BoundaryGrades_j4
            case hylaw35_BoundaryGrades_j4 =>
              rintro ⟨last1, w3⟩ H1
              try dsimp only at H1 ⊢
              unfold law35_BoundaryGrades_j4 at H1
              refine lok_rl E0 (⟨118, mkS [(4, .x (.one (.ptr 104 0))), (5, .x (.one (.p (pi (IntKind.i64.wrap ((y3.Counts.length : Int) - (1 : Int))))))), (6, .x (.one (.p (.sl 1 (List.map encI y5))))), (7, .x (.one (.p (.sl 1 (List.map encI y7))))), (9, .x (.one (.p (pi (0 : Int))))), (10, .x (.one (.p (pi last1)))), (11, .x (.one (.vw 152))), (12, .x (.one (.p (pi (IntKind.i64.wrap (m + (1 : Int)))))))], mkH [(104, .var [.p (.sl 1 (List.map encI y3.Counts))]), (152, .arr 1 (List.map encI w3))]⟩) ?_
              try simp only [thenL, blockL, ↓reduceIte, reduceCtorEq]
              exact ⟨(last1, (IntKind.i64.wrap (m + (1 : Int))), w3), (Option.some.inj H1).symm, imp_au⟩
            case hxlaw35_BoundaryGrades_j4 =>
              refine lok_block ?_
              replace H1 := bind_some H1
              obtain ⟨y10, h_13, H1⟩ := H1
              refine lok_rt (Env.of E0 [⟨some 60, 14, [.one (.p (.sl 1 (List.map encI y5))), .one (.p (pi m))], [], [.one (.p (pi y10))], [], True, fun _ => ok_boundary_Grade y5 m y10 h_13, []⟩]) (⟨118, mkS [(4, .x (.one (.ptr 104 0))), (5, .x (.one (.p (pi (IntKind.i64.wrap ((y3.Counts.length : Int) - (1 : Int))))))), (6, .x (.one (.p (.sl 1 (List.map encI y5))))), (7, .x (.one (.p (.sl 1 (List.map encI y7))))), (9, .x (.one (.p (pi (0 : Int))))), (10, .x (.one (.p (pi last)))), (11, .x (.one (.vw 152))), (12, .x (.one (.p (pi m)))), (13, .x (.one (.p (pi y10))))], mkH [(104, .var [.p (.sl 1 (List.map encI y3.Counts))]), (152, .arr 1 (List.map encI w1))]⟩) ?_
              refine lok_seq ?_
              refine lok_rt E0 (⟨118, mkS [(4, .x (.one (.ptr 104 0))), (5, .x (.one (.p (pi (IntKind.i64.wrap ((y3.Counts.length : Int) - (1 : Int))))))), (6, .x (.one (.p (.sl 1 (List.map encI y5))))), (7, .x (.one (.p (.sl 1 (List.map encI y7))))), (9, .x (.one (.p (pi (0 : Int))))), (11, .x (.one (.vw 152))), (12, .x (.one (.p (pi m)))), (13, .x (.one (.p (pi y10)))), (67, .x (.one (.p (.val (.bool ((decide (last < y10)) || (decide (y10 < (0 : Int)))))))))], mkH [(104, .var [.p (.sl 1 (List.map encI y3.Counts))]), (152, .arr 1 (List.map encI w1))]⟩) ?_
              refine lok_c ((decide (last < y10)) || (decide (y10 < (0 : Int)))) ?_ ?_
              · intro b_20
                replace H1 := cpos H1 b_20
                refine lok_rt E0 (⟨118, mkS [(2, .x (.one (.p (.val (.bool false)))))], mkH []⟩) ?_
                refine lok_ret ?_
                try simp only [thenL, blockL, ↓reduceIte, reduceCtorEq]
                have e_1 := k_1 _ (Option.some.inj H1).symm
                subst e_1
                try dsimp only at H0
                obtain rfl := Option.some.inj H0
                try simp only [thenL, blockL]
                exact fin_au _ (.inr rfl) [] (⟨118, mkS [(2, .x (.one (.p (.val (.bool false)))))], mkH []⟩) rfl rfl imp_au
              · intro b_20
                replace H1 := cneg H1 b_20
                refine lok_skip ?_
                try simp only [thenL, blockL, ↓reduceIte, reduceCtorEq]
                refine lok_join (fun x_ : Unit => law35_BoundaryGrades_j5 y3 m w1 y10 = some o_1) (fun x_ => ⟨118, mkS [(4, .x (.one (.ptr 104 0))), (5, .x (.one (.p (pi (IntKind.i64.wrap ((y3.Counts.length : Int) - (1 : Int))))))), (6, .x (.one (.p (.sl 1 (List.map encI y5))))), (7, .x (.one (.p (.sl 1 (List.map encI y7))))), (9, .x (.one (.p (pi (0 : Int))))), (11, .x (.one (.vw 152))), (12, .x (.one (.p (pi m)))), (13, .x (.one (.p (pi y10))))], mkH [(104, .var [.p (.sl 1 (List.map encI y3.Counts))]), (152, .arr 1 (List.map encI w1))]⟩) ?hylaw35_BoundaryGrades_j5 ?hxlaw35_BoundaryGrades_j5
                case hylaw35_BoundaryGrades_j5 =>
                  rintro _ H1
                  try dsimp only at H1 ⊢
                  unfold law35_BoundaryGrades_j5 at H1
                  refine lok_rt E0 (⟨118, mkS [(4, .x (.one (.ptr 104 0))), (5, .x (.one (.p (pi (IntKind.i64.wrap ((y3.Counts.length : Int) - (1 : Int))))))), (6, .x (.one (.p (.sl 1 (List.map encI y5))))), (7, .x (.one (.p (.sl 1 (List.map encI y7))))), (9, .x (.one (.p (pi (0 : Int))))), (10, .x (.one (.p (pi y10)))), (11, .x (.one (.vw 152))), (12, .x (.one (.p (pi m)))), (13, .x (.one (.p (pi y10))))], mkH [(104, .var [.p (.sl 1 (List.map encI y3.Counts))]), (152, .arr 1 (List.map encI w1))]⟩) ?_
                  replace H1 := req_some H1
                  obtain ⟨⟨q_14, q_15⟩, H1⟩ := H1
                  refine lok_dl E0 9 (⟨118, mkS [(4, .x (.one (.ptr 104 0))), (5, .x (.one (.p (pi (IntKind.i64.wrap ((y3.Counts.length : Int) - (1 : Int))))))), (6, .x (.one (.p (.sl 1 (List.map encI y5))))), (7, .x (.one (.p (.sl 1 (List.map encI y7))))), (9, .x (.one (.p (pi (0 : Int))))), (10, .x (.one (.p (pi y10)))), (11, .x (.one (.vw 152))), (12, .x (.one (.p (pi m))))], mkH [(104, .var [.p (.sl 1 (List.map encI y3.Counts))]), (152, .arr 1 (List.map encI (setI w1 y10 (IntKind.i64.wrap ((ix w1 y10) + (ix y3.Counts m))))))]⟩) (by kernel_rfl) (by kernel_rfl) ?_
                  try simp only [thenL, blockL, ↓reduceIte, reduceCtorEq]
                  exact ⟨(y10, (setI w1 y10 (IntKind.i64.wrap ((ix w1 y10) + (ix y3.Counts m))))), H1, imp_au⟩
                case hxlaw35_BoundaryGrades_j5 =>
                  refine lok_rt E0 (⟨118, mkS [(4, .x (.one (.ptr 104 0))), (5, .x (.one (.p (pi (IntKind.i64.wrap ((y3.Counts.length : Int) - (1 : Int))))))), (6, .x (.one (.p (.sl 1 (List.map encI y5))))), (7, .x (.one (.p (.sl 1 (List.map encI y7))))), (9, .x (.one (.p (pi (0 : Int))))), (11, .x (.one (.vw 152))), (12, .x (.one (.p (pi m)))), (13, .x (.one (.p (pi y10)))), (69, .x (.one (.p (pi (y5.length : Int))))), (70, .x (.one (.p (pi (0 : Int)))))], mkH [(104, .var [.p (.sl 1 (List.map encI y3.Counts))]), (152, .arr 1 (List.map encI w1))]⟩) ?_
                  refine lok_block ?_
                  replace H1 := bind_some H1
                  obtain ⟨v_16, hv_16, H1⟩ := H1
                  refine lok_iter (fun x_ => ⟨118, mkS [(4, .x (.one (.ptr 104 0))), (5, .x (.one (.p (pi (IntKind.i64.wrap ((y3.Counts.length : Int) - (1 : Int))))))), (6, .x (.one (.p (.sl 1 (List.map encI y5))))), (7, .x (.one (.p (.sl 1 (List.map encI y7))))), (9, .x (.one (.p (pi (0 : Int))))), (11, .x (.one (.vw 152))), (12, .x (.one (.p (pi m)))), (13, .x (.one (.p (pi y10)))), (69, .x (.one (.p (pi (y5.length : Int))))), (70, .x (.one (.p (pi x_))))], mkH [(104, .var [.p (.sl 1 (List.map encI y3.Counts))]), (152, .arr 1 (List.map encI w1))]⟩) hv_16 imp_au ?_
                  · rintro v1 o_2 H2 k_2
                    unfold law35_BoundaryGrades_l6 at H2
                    try dsimp only at H2 ⊢
                    refine lok_rt E0 (⟨118, mkS [(4, .x (.one (.ptr 104 0))), (5, .x (.one (.p (pi (IntKind.i64.wrap ((y3.Counts.length : Int) - (1 : Int))))))), (6, .x (.one (.p (.sl 1 (List.map encI y5))))), (7, .x (.one (.p (.sl 1 (List.map encI y7))))), (9, .x (.one (.p (pi (0 : Int))))), (11, .x (.one (.vw 152))), (12, .x (.one (.p (pi m)))), (13, .x (.one (.p (pi y10)))), (69, .x (.one (.p (pi (y5.length : Int))))), (70, .x (.one (.p (pi v1)))), (71, .x (.one (.p (.val (.bool (decide (v1 < (y5.length : Int))))))))], mkH [(104, .var [.p (.sl 1 (List.map encI y3.Counts))]), (152, .arr 1 (List.map encI w1))]⟩) ?_
                    refine lok_seq ?_
                    refine lok_c (decide (v1 < (y5.length : Int))) ?_ ?_
                    · intro b_19
                      replace H2 := cpos H2 b_19
                      refine lok_skip ?_
                      try simp only [thenL, blockL, ↓reduceIte, reduceCtorEq]
                      refine lok_seq ?_
                      refine lok_block ?_
                      refine lok_rt E0 (⟨118, mkS [(4, .x (.one (.ptr 104 0))), (5, .x (.one (.p (pi (IntKind.i64.wrap ((y3.Counts.length : Int) - (1 : Int))))))), (6, .x (.one (.p (.sl 1 (List.map encI y5))))), (7, .x (.one (.p (.sl 1 (List.map encI y7))))), (9, .x (.one (.p (pi (0 : Int))))), (11, .x (.one (.vw 152))), (12, .x (.one (.p (pi m)))), (13, .x (.one (.p (pi y10)))), (14, .x (.one (.p (pi v1)))), (69, .x (.one (.p (pi (y5.length : Int))))), (70, .x (.one (.p (pi v1))))], mkH [(104, .var [.p (.sl 1 (List.map encI y3.Counts))]), (152, .arr 1 (List.map encI w1))]⟩) ?_
                      replace H2 := req_some H2
                      obtain ⟨q_18, H2⟩ := H2
                      refine lok_rt E0 (⟨118, mkS [(4, .x (.one (.ptr 104 0))), (5, .x (.one (.p (pi (IntKind.i64.wrap ((y3.Counts.length : Int) - (1 : Int))))))), (6, .x (.one (.p (.sl 1 (List.map encI y5))))), (7, .x (.one (.p (.sl 1 (List.map encI y7))))), (9, .x (.one (.p (pi (0 : Int))))), (11, .x (.one (.vw 152))), (12, .x (.one (.p (pi m)))), (13, .x (.one (.p (pi y10)))), (69, .x (.one (.p (pi (y5.length : Int))))), (70, .x (.one (.p (pi v1)))), (82, .x (.one (.p (.val (.bool (!((decide ((ix y5 v1) ≤ m)) == (decide (y10 ≤ v1)))))))))], mkH [(104, .var [.p (.sl 1 (List.map encI y3.Counts))]), (152, .arr 1 (List.map encI w1))]⟩) ?_
                      refine lok_c (!((decide ((ix y5 v1) ≤ m)) == (decide (y10 ≤ v1)))) ?_ ?_
                      · intro b_17
                        replace H2 := cpos H2 b_17
                        refine lok_rt E0 (⟨118, mkS [(2, .x (.one (.p (.val (.bool false)))))], mkH []⟩) ?_
                        refine lok_ret ?_
                        try simp only [thenL, blockL, ↓reduceIte, reduceCtorEq]
                        have e_2 := k_2 _ (Option.some.inj H2).symm
                        subst e_2
                        try dsimp only at H1
                        try simp only [thenL, blockL, ↓reduceIte, reduceCtorEq]
                        have e_1 := k_1 _ (Option.some.inj H1).symm
                        subst e_1
                        try dsimp only at H0
                        obtain rfl := Option.some.inj H0
                        try simp only [thenL, blockL]
                        exact fin_au _ (.inr rfl) [] (⟨118, mkS [(2, .x (.one (.p (.val (.bool false)))))], mkH []⟩) rfl rfl imp_au
                      · intro b_17
                        replace H2 := cneg H2 b_17
                        refine lok_skip ?_
                        try simp only [thenL, blockL, ↓reduceIte, reduceCtorEq]
                        refine lok_rl E0 (⟨118, mkS [(4, .x (.one (.ptr 104 0))), (5, .x (.one (.p (pi (IntKind.i64.wrap ((y3.Counts.length : Int) - (1 : Int))))))), (6, .x (.one (.p (.sl 1 (List.map encI y5))))), (7, .x (.one (.p (.sl 1 (List.map encI y7))))), (9, .x (.one (.p (pi (0 : Int))))), (11, .x (.one (.vw 152))), (12, .x (.one (.p (pi m)))), (13, .x (.one (.p (pi y10)))), (69, .x (.one (.p (pi (y5.length : Int))))), (70, .x (.one (.p (pi (IntKind.i64.wrap (v1 + (1 : Int)))))))], mkH [(104, .var [.p (.sl 1 (List.map encI y3.Counts))]), (152, .arr 1 (List.map encI w1))]⟩) ?_
                        try simp only [thenL, blockL, ↓reduceIte, reduceCtorEq]
                        exact ⟨(IntKind.i64.wrap (v1 + (1 : Int))), (Option.some.inj H2).symm, imp_au⟩
                    · intro b_19
                      replace H2 := cneg H2 b_19
                      refine lok_exit ?_
                      try simp only [thenL, blockL, ↓reduceIte, reduceCtorEq]
                      have e_2 := k_2 _ (Option.some.inj H2).symm
                      subst e_2
                      try dsimp only at H1
                      try simp only [thenL, blockL, ↓reduceIte, reduceCtorEq]
                      exact ⟨(), H1, imp_au⟩
          · intro b_21
            replace H1 := cneg H1 b_21
            refine lok_exit ?_
            try simp only [thenL, blockL, ↓reduceIte, reduceCtorEq]
            have e_1 := k_1 _ (Option.some.inj H1).symm
            subst e_1
            try dsimp only at H0
            try simp only [thenL, blockL, ↓reduceIte, reduceCtorEq]
            exact ⟨w1, H0, imp_au⟩
theorem ok_law35_BoundaryInterpolates (high : Int) (low : Int) (steps : Int) (r_ : Bool) (H0 : law35_BoundaryInterpolates high low steps = some r_) : CallOK Try.prog 4 [.one (.p (.val (.int .u8 high))), .one (.p (.val (.int .u8 low))), .one (.p (.val (.int .u8 steps)))] [] [.one (.p (.val (.bool r_)))] [] := by
  refine callOK (n := 98) (rs := [.tmp 6]) (nb := 0) (V := []) Try.func4 rfl (by kernel_rfl) rfl rfl rfl rfl (Nat.le_of_ble_eq_true rfl) (by decide) ?_
  unfold law35_BoundaryInterpolates at H0
  refine lok_rt E0 (⟨98, mkS [(0, .x (.one (.p (.val (.int .u8 high))))), (1, .x (.one (.p (.val (.int .u8 low))))), (2, .x (.one (.p (.val (.int .u8 steps)))))], mkH []⟩) ?_
  replace H0 := bindV_some H0
  obtain ⟨n, a_0, H0⟩ := H0
  refine lok_rtg E0 a_0 (⟨98, mkS [(0, .x (.one (.p (.val (.int .u8 high))))), (7, .x (.one (.p (pi (Int.tmod (IntKind.i64.wrap low) (100 : Int)))))), (8, .x (.one (.p (pi n))))], mkH []⟩) ?_
  replace H0 := bindV_some H0
  obtain ⟨hi, a_1, H0⟩ := H0
  refine lok_rtg E0 a_1 (⟨98, mkS [(7, .x (.one (.p (pi (Int.tmod (IntKind.i64.wrap low) (100 : Int)))))), (8, .x (.one (.p (pi n)))), (9, .x (.one (.p (pi hi))))], mkH []⟩) ?_
  replace H0 := bind_some H0
  obtain ⟨⟨y, y1⟩, h_2, H0⟩ := H0
  try dsimp only at H0
  refine lok_rt (Env.of E0 [⟨some 31, 17, [.one (.p (pi hi)), .one (.p (pi (Int.tmod (IntKind.i64.wrap low) (100 : Int)))), .one (.p (pi n))], [], [.one (.p (.sl 1 (List.map encI y))), .one (.p (pi y1))], [], True, fun _ => ok_boundary_Interpolate hi (Int.tmod (IntKind.i64.wrap low) (100 : Int)) n (y, y1) h_2, []⟩]) (⟨98, mkS [(7, .x (.one (.p (pi (Int.tmod (IntKind.i64.wrap low) (100 : Int)))))), (8, .x (.one (.p (pi n)))), (9, .x (.one (.p (pi hi)))), (10, .x (.one (.p (.sl 1 (List.map encI y))))), (11, .x (.one (.p (pi y1))))], mkH []⟩) ?_
  refine lok_seq ?_
  replace H0 := req_some H0
  obtain ⟨⟨q_11, q_12⟩, H0⟩ := H0
  refine lok_rt E0 (⟨98, mkS [(8, .x (.one (.p (pi n)))), (10, .x (.one (.p (.sl 1 (List.map encI y))))), (57, .x (.one (.p (.val (.bool ((((y1 != (0 : Int)) || ((y.length : Int) != (IntKind.i64.wrap (n + (1 : Int))))) || ((ix y (0 : Int)) != hi)) || ((ix y n) != (Int.tmod (IntKind.i64.wrap low) (100 : Int)))))))))], mkH []⟩) ?_
  refine lok_c ((((y1 != (0 : Int)) || ((y.length : Int) != (IntKind.i64.wrap (n + (1 : Int))))) || ((ix y (0 : Int)) != hi)) || ((ix y n) != (Int.tmod (IntKind.i64.wrap low) (100 : Int)))) ?_ ?_
  · intro b_10
    replace H0 := cpos H0 b_10
    refine lok_rt E0 (⟨98, mkS [(6, .x (.one (.p (.val (.bool false)))))], mkH []⟩) ?_
    refine lok_ret ?_
    obtain rfl := Option.some.inj H0
    try simp only [thenL, blockL]
    exact fin_au _ (.inr rfl) [] (⟨98, mkS [(6, .x (.one (.p (.val (.bool false)))))], mkH []⟩) rfl rfl imp_au
  · intro b_10
    replace H0 := cneg H0 b_10
    refine lok_skip ?_
    try simp only [thenL, blockL, ↓reduceIte, reduceCtorEq]
    refine lok_rt E0 (⟨98, mkS [(8, .x (.one (.p (pi n)))), (10, .x (.one (.p (.sl 1 (List.map encI y))))), (12, .x (.one (.p (pi (200 : Int))))), (13, .x (.one (.p (pi (0 : Int)))))], mkH []⟩) ?_
    refine lok_join (fun x_ : Int × Int => law35_BoundaryInterpolates_j1 x_.1 x_.2 = some r_) (fun x_ => ⟨98, mkS [(12, .x (.one (.p (pi x_.1)))), (13, .x (.one (.p (pi x_.2))))], mkH []⟩) ?hylaw35_BoundaryInterpolates_j1 ?hxlaw35_BoundaryInterpolates_j1
    case hylaw35_BoundaryInterpolates_j1 =>
      rintro ⟨least, most⟩ H0
      try dsimp only at H0 ⊢
      unfold law35_BoundaryInterpolates_j1 at H0
      replace H0 := req_some H0
      obtain ⟨q_3, H0⟩ := H0
      refine lok_rt (Env.of E0 [⟨some 96, 9, [], [], [.one (.p (.val (.bool ((law35_sane).getD default))))], [], (law35_sane).isSome = true, fun h => ok_law35_sane _ (isSome_get h), []⟩]) (⟨98, mkS [(6, .x (.one (.p (.val (.bool (((decide ((0 : Int) ≤ least)) && (decide ((IntKind.i64.wrap (most - least)) ≤ (1 : Int)))) && ((law35_sane).getD default)))))))], mkH []⟩) ?_
      refine lok_ret ?_
      obtain rfl := Option.some.inj H0
      try simp only [thenL, blockL]
      exact fin_au _ (.inr rfl) [] (⟨98, mkS [(6, .x (.one (.p (.val (.bool (((decide ((0 : Int) ≤ least)) && (decide ((IntKind.i64.wrap (most - least)) ≤ (1 : Int)))) && ((law35_sane).getD default)))))))], mkH []⟩) rfl rfl imp_au
    case hxlaw35_BoundaryInterpolates_j1 =>
      refine lok_rt E0 (⟨98, mkS [(8, .x (.one (.p (pi n)))), (10, .x (.one (.p (.sl 1 (List.map encI y))))), (12, .x (.one (.p (pi (200 : Int))))), (13, .x (.one (.p (pi (0 : Int))))), (14, .x (.one (.p (pi (1 : Int)))))], mkH []⟩) ?_
      refine lok_block ?_
      replace H0 := bind_some H0
      obtain ⟨v_4, hv_4, H0⟩ := H0
      refine lok_iter (fun x_ => ⟨98, mkS [(8, .x (.one (.p (pi n)))), (10, .x (.one (.p (.sl 1 (List.map encI y))))), (12, .x (.one (.p (pi x_.1)))), (13, .x (.one (.p (pi x_.2.1)))), (14, .x (.one (.p (pi x_.2.2))))], mkH []⟩) hv_4 imp_au ?_
      · rintro ⟨least1, most1, i⟩ o_1 H1 k_1
        unfold law35_BoundaryInterpolates_l2 at H1
        try dsimp only at H1 ⊢
        refine lok_seq ?_
        refine lok_rt E0 (⟨98, mkS [(8, .x (.one (.p (pi n)))), (10, .x (.one (.p (.sl 1 (List.map encI y))))), (12, .x (.one (.p (pi least1)))), (13, .x (.one (.p (pi most1)))), (14, .x (.one (.p (pi i)))), (60, .x (.one (.p (.val (.bool (decide (i ≤ n)))))))], mkH []⟩) ?_
        refine lok_c (decide (i ≤ n)) ?_ ?_
        · intro b_9
          replace H1 := cpos H1 b_9
          refine lok_skip ?_
          try simp only [thenL, blockL, ↓reduceIte, reduceCtorEq]
          refine lok_seq ?_
          refine lok_block ?_
          replace H1 := req_some H1
          obtain ⟨⟨q_7, q_8⟩, H1⟩ := H1
          replace H1 := bindV_some H1
          obtain ⟨most3, a_5, H1⟩ := H1
          replace H1 := bindV_some H1
          obtain ⟨least3, a_6, H1⟩ := H1
          refine lok_dlg E0 25 (And.intro a_5 a_6) (⟨98, mkS [(8, .x (.one (.p (pi n)))), (10, .x (.one (.p (.sl 1 (List.map encI y))))), (12, .x (.one (.p (pi least3)))), (13, .x (.one (.p (pi most3)))), (14, .x (.one (.p (pi i))))], mkH []⟩) (by kernel_rfl) (by kernel_rfl) ?_
          try simp only [thenL, blockL, ↓reduceIte, reduceCtorEq]
          refine lok_rl E0 (⟨98, mkS [(8, .x (.one (.p (pi n)))), (10, .x (.one (.p (.sl 1 (List.map encI y))))), (12, .x (.one (.p (pi least3)))), (13, .x (.one (.p (pi most3)))), (14, .x (.one (.p (pi (IntKind.i64.wrap (i + (1 : Int)))))))], mkH []⟩) ?_
          try simp only [thenL, blockL, ↓reduceIte, reduceCtorEq]
          exact ⟨(least3, most3, (IntKind.i64.wrap (i + (1 : Int)))), (Option.some.inj H1).symm, imp_au⟩
        · intro b_9
          replace H1 := cneg H1 b_9
          refine lok_exit ?_
          try simp only [thenL, blockL, ↓reduceIte, reduceCtorEq]
          have e_1 := k_1 _ (Option.some.inj H1).symm
          subst e_1
          try dsimp only at H0
          try simp only [thenL, blockL, ↓reduceIte, reduceCtorEq]
          exact ⟨(least1, most1), H0, imp_au⟩
theorem ok_law35_BoundaryShares_f1 (b : Int) (c : Int) (c_1 : api_Distribution) (r_ : Int) (H0 : law35_BoundaryShares_f1 b c c_1 = some r_) : CallOK Try.prog 21 [.one (.p (pi b)), .one (.ptr 0 0), .one (.ptr 1 0)] [.var [.p (pi c)], .var [.p (.sl 1 (List.map encI c_1.Counts))]] [.one (.p (pi r_))] [some (.var [.p (pi c)]), some (.var [.p (.sl 1 (List.map encI c_1.Counts))])] := by
  refine callOK (n := 10) (rs := [.tmp 4]) (nb := 2) (V := [0, 1]) Try.func21 rfl (by kernel_rfl) rfl rfl rfl rfl (Nat.le_of_ble_eq_true rfl) (by decide) ?_
  unfold law35_BoundaryShares_f1 at H0
  refine lok_rt E0 (⟨10, mkS [(0, .x (.one (.p (pi b)))), (1, .x (.one (.ptr 0 0))), (2, .x (.one (.ptr 1 0)))], mkH [(0, .var [.p (pi c)]), (1, .var [.p (.sl 1 (List.map encI c_1.Counts))])]⟩) ?_
  replace H0 := bind_some H0
  obtain ⟨y, h_0, H0⟩ := H0
  refine lok_dt (Env.of E0 [⟨some 8, 22, [.agg [.p (.sl 1 (List.map encI c_1.Counts))], .one (.p (pi b))], [], [.one (.p (pi y))], [], True, fun _ => ok_ref32_Below c_1 b y h_0, []⟩]) 4 (⟨10, mkS [(4, .x (.one (.p (pi (IntKind.i64.wrap (c - y))))))], mkH [(0, .var [.p (pi c)]), (1, .var [.p (.sl 1 (List.map encI c_1.Counts))])]⟩) (by kernel_rfl) (by kernel_rfl) ?_
  refine lok_ret ?_
  obtain rfl := Option.some.inj H0
  try simp only [thenL, blockL]
  exact fin_au _ (.inr rfl) [0, 1] (⟨10, mkS [(4, .x (.one (.p (pi (IntKind.i64.wrap (c - y))))))], mkH [(0, .var [.p (pi c)]), (1, .var [.p (.sl 1 (List.map encI c_1.Counts))])]⟩) rfl rfl imp_au
theorem ok_law35_BoundaryShares_f2 (b : Int) (c_1 : Int) (c_2 : Int) (c_3 : api_Distribution) (r_ : Int) (H0 : law35_BoundaryShares_f2 b c_1 c_2 c_3 = some r_) : CallOK Try.prog 23 [.one (.p (pi b)), .one (.ptr 0 0), .one (.ptr 1 0), .one (.ptr 2 0)] [.var [.fn 21 [2, 3]], .var [.p (pi c_1)], .var [.p (pi c_2)], .var [.p (.sl 1 (List.map encI c_3.Counts))]] [.one (.p (pi r_))] [some (.var [.fn 21 [2, 3]]), some (.var [.p (pi c_1)]), some (.var [.p (pi c_2)]), some (.var [.p (.sl 1 (List.map encI c_3.Counts))])] := by
  refine callOK (n := 23) (rs := [.tmp 5]) (nb := 4) (V := [0, 1, 2, 3]) Try.func23 rfl (by kernel_rfl) rfl rfl rfl rfl (Nat.le_of_ble_eq_true rfl) (by decide) ?_
  unfold law35_BoundaryShares_f2 at H0
  refine lok_rt E0 (⟨23, mkS [(0, .x (.one (.p (pi b)))), (1, .x (.one (.ptr 0 0))), (2, .x (.one (.ptr 1 0))), (3, .x (.one (.ptr 2 0)))], mkH [(0, .var [.fn 21 [2, 3]]), (1, .var [.p (pi c_1)]), (2, .var [.p (pi c_2)]), (3, .var [.p (.sl 1 (List.map encI c_3.Counts))])]⟩) ?_
  replace H0 := bind_some H0
  obtain ⟨y, h_0, H0⟩ := H0
  replace H0 := bind_some H0
  obtain ⟨y1, h_1, H0⟩ := H0
  replace H0 := bindV_some H0
  obtain ⟨v, a_2, H0⟩ := H0
  refine lok_etg (Env.of E0 [⟨some 8, 21, [.one (.p (pi b)), .one (.ptr 0 0), .one (.ptr 1 0)], [.var [.p (pi c_2)], .var [.p (.sl 1 (List.map encI c_3.Counts))]], [.one (.p (pi y))], [some (.var [.p (pi c_2)]), some (.var [.p (.sl 1 (List.map encI c_3.Counts))])], True, fun _ => ok_law35_BoundaryShares_f1 b c_2 c_3 y h_0, []⟩,
      ⟨some 19, 21, [.one (.p (pi b)), .one (.ptr 0 0), .one (.ptr 1 0)], [.var [.p (pi c_2)], .var [.p (.sl 1 (List.map encI c_3.Counts))]], [.one (.p (pi y1))], [some (.var [.p (pi c_2)]), some (.var [.p (.sl 1 (List.map encI c_3.Counts))])], True, fun _ => ok_law35_BoundaryShares_f1 b c_2 c_3 y1 h_1, []⟩]) 23 [⟨[(1, .x (.one (.ptr 0 0)))], [(0, some (.var [.fn 21 [2, 3]]))], [(6, .x (.one (.fn 21 [2, 3])))], [], none⟩,
      ⟨[(0, .x (.one (.p (pi b))))], [], [(7, .x (.one (.p (pi b))))], [], none⟩,
      ⟨[(6, .x (.one (.fn 21 [2, 3]))), (7, .x (.one (.p (pi b))))], [(3, some (.var [.p (.sl 1 (List.map encI c_3.Counts))])), (2, some (.var [.p (pi c_2)]))], [(8, .x (.one (.p (pi y))))], [], none⟩,
      ⟨[(8, .x (.one (.p (pi y))))], [], [(9, .x (.one (.p (pi (IntKind.i64.wrap (y * (12 : Int)))))))], [], none⟩,
      ⟨[(2, .x (.one (.ptr 1 0)))], [(1, some (.var [.p (pi c_1)]))], [(10, .x (.one (.p (pi c_1))))], [], none⟩,
      ⟨[(3, .x (.one (.ptr 2 0)))], [(2, some (.var [.p (pi c_2)]))], [(11, .x (.one (.p (pi c_2))))], [], none⟩,
      ⟨[(10, .x (.one (.p (pi c_1)))), (11, .x (.one (.p (pi c_2))))], [], [(12, .x (.one (.p (pi (IntKind.i64.wrap (c_1 * c_2))))))], [], none⟩,
      ⟨[(9, .x (.one (.p (pi (IntKind.i64.wrap (y * (12 : Int))))))), (12, .x (.one (.p (pi (IntKind.i64.wrap (c_1 * c_2))))))], [], [(13, .x (.one (.p (pi (IntKind.i64.wrap ((IntKind.i64.wrap (y * (12 : Int))) - (IntKind.i64.wrap (c_1 * c_2))))))))], [], none⟩,
      ⟨[(2, .x (.one (.ptr 1 0)))], [(1, some (.var [.p (pi c_1)]))], [(14, .x (.one (.p (pi c_1))))], [], none⟩,
      ⟨[(3, .x (.one (.ptr 2 0)))], [(2, some (.var [.p (pi c_2)]))], [(15, .x (.one (.p (pi c_2))))], [], none⟩,
      ⟨[(14, .x (.one (.p (pi c_1)))), (15, .x (.one (.p (pi c_2))))], [], [(16, .x (.one (.p (pi (IntKind.i64.wrap (c_1 * c_2))))))], [], none⟩,
      ⟨[(1, .x (.one (.ptr 0 0)))], [(0, some (.var [.fn 21 [2, 3]]))], [(17, .x (.one (.fn 21 [2, 3])))], [], none⟩,
      ⟨[(0, .x (.one (.p (pi b))))], [], [(18, .x (.one (.p (pi b))))], [], none⟩,
      ⟨[(17, .x (.one (.fn 21 [2, 3]))), (18, .x (.one (.p (pi b))))], [(3, some (.var [.p (.sl 1 (List.map encI c_3.Counts))])), (2, some (.var [.p (pi c_2)]))], [(19, .x (.one (.p (pi y1))))], [], none⟩,
      ⟨[(19, .x (.one (.p (pi y1))))], [], [(20, .x (.one (.p (pi (IntKind.i64.wrap (y1 * (12 : Int)))))))], [], none⟩,
      ⟨[(16, .x (.one (.p (pi (IntKind.i64.wrap (c_1 * c_2)))))), (20, .x (.one (.p (pi (IntKind.i64.wrap (y1 * (12 : Int)))))))], [], [(21, .x (.one (.p (pi (IntKind.i64.wrap ((IntKind.i64.wrap (c_1 * c_2)) - (IntKind.i64.wrap (y1 * (12 : Int)))))))))], [], none⟩] a_2 (⟨23, mkS [(5, .x (.one (.p (pi v))))], mkH [(0, .var [.fn 21 [2, 3]]), (1, .var [.p (pi c_1)]), (2, .var [.p (pi c_2)]), (3, .var [.p (.sl 1 (List.map encI c_3.Counts))])]⟩) (by kernel_rfl) (by kernel_rfl) (by kernel_rfl) rfl rfl rfl ?_
  refine lok_ret ?_
  obtain rfl := Option.some.inj H0
  try simp only [thenL, blockL]
  exact fin_au _ (.inr rfl) [0, 1, 2, 3] (⟨23, mkS [(5, .x (.one (.p (pi v))))], mkH [(0, .var [.fn 21 [2, 3]]), (1, .var [.p (pi c_1)]), (2, .var [.p (pi c_2)]), (3, .var [.p (.sl 1 (List.map encI c_3.Counts))])]⟩) rfl rfl imp_au
theorem ok_ref01_Twice (a : ref01_Wide) (r_ : ref01_Wide) (H0 : ref01_Twice a = some r_) : CallOK Try.prog 57 [.agg [.p (.val (.int .u64 a.Hi)), .p (.val (.int .u64 a.Lo))]] [] [.agg [.p (.val (.int .u64 r_.Hi)), .p (.val (.int .u64 r_.Lo))]] [] := by
  refine callOK (n := 14) (rs := [.cell 2 64]) (nb := 0) (V := []) Try.func57 rfl (by kernel_rfl) rfl rfl rfl rfl (Nat.le_of_ble_eq_true rfl) (by decide) ?_
  unfold ref01_Twice at H0
  refine lok_rt E0 (⟨14, mkS [(1, .x (.one (.ptr 101 0))), (2, .x (.one (.ptr 102 0)))], mkH [(101, .var [.p (.val (.int .u64 a.Hi)), .p (.val (.int .u64 a.Lo))]), (102, .var [.p (.val (.int .u64 (0 : Int))), .p (.val (.int .u64 (0 : Int)))])]⟩) ?_
  refine lok_rt E0 (⟨14, mkS [(2, .x (.one (.ptr 102 0)))], mkH [(102, .var [.p (.val (.int .u64 (bOr .u64 (bShl .u64 a.Hi (1 : Int)) (bShr .u64 a.Lo (63 : Int))))), .p (.val (.int .u64 (bShl .u64 a.Lo (1 : Int))))])]⟩) ?_
  refine lok_ret ?_
  obtain rfl := Option.some.inj H0
  try simp only [thenL, blockL]
  exact fin_au _ (.inr rfl) [] (⟨14, mkS [(2, .x (.one (.ptr 102 0)))], mkH [(102, .var [.p (.val (.int .u64 (bOr .u64 (bShl .u64 a.Hi (1 : Int)) (bShr .u64 a.Lo (63 : Int))))), .p (.val (.int .u64 (bShl .u64 a.Lo (1 : Int))))])]⟩) rfl rfl imp_au
end Go.LS
