/-
  The walks: the functions compute what the plain ones say. Condition: the plain function has a value.
-/
import Derived.Test.YtdhhopobephbnaaK2
import Derived.Test.YtdhhopobephbnaaD3
namespace Go.LS
open Go.Proofs
set_option linter.all false
set_option linter.unusedSimpArgs false
set_option linter.unusedVariables false
set_option maxRecDepth 20000

theorem ok_ref14_Grant (rules : List api_AccessRule) (l : List api_Evidence) (candidate : Int) (time : Int) (r_ : api_Access × Int) (H0 : ref14_Grant rules l candidate time = some r_) : CallOK Try.prog 20 [.one (.p (.sl 4 (List.map enc_api_AccessRule rules))), .one (.p (.sl 5 (List.map enc_api_Evidence l))), .one (.p (pi candidate)), .one (.p (pi time))] [] [.agg [.p (pi r_.1.Extra), .p (pi r_.1.Needs)], .one (.p (pi r_.2))] [] := by
  refine callOK (n := 48) (rs := [.cell 8 38, .tmp 9]) (nb := 0) (V := []) Try.func20 rfl (by kernel_rfl) rfl rfl rfl rfl (Nat.le_of_ble_eq_true rfl) rfl (by decide) ?_
  unfold ref14_Grant at H0
  refine lok_rt E0 (⟨48, mkS [(0, .x (.one (.p (.sl 4 (List.map enc_api_AccessRule rules))))), (1, .x (.one (.p (.sl 5 (List.map enc_api_Evidence l))))), (2, .x (.one (.p (pi candidate)))), (3, .x (.one (.p (pi time)))), (8, .x (.one (.ptr 108 0)))], mkH [(108, .var [.p (pi (0 : Int)), .p (pi (0 : Int))])]⟩) ?_
  refine lok_seq ?_
  obtain ⟨y, h_0, H0⟩ := bind_some H0
  refine lok_rt (Env.of E0 [⟨some 14, 15, [.one (.p (.sl 4 (List.map enc_api_AccessRule rules)))], [], [.one (.p (pi y))], [], True, fun _ => ok_ref14_Check rules y h_0⟩]) (⟨48, mkS [(0, .x (.one (.p (.sl 4 (List.map enc_api_AccessRule rules))))), (1, .x (.one (.p (.sl 5 (List.map enc_api_Evidence l))))), (2, .x (.one (.p (pi candidate)))), (3, .x (.one (.p (pi time)))), (8, .x (.one (.ptr 108 0))), (10, .x (.one (.p (pi y))))], mkH [(108, .var [.p (pi (0 : Int)), .p (pi (0 : Int))])]⟩) ?_
  refine lok_rt E0 (⟨48, mkS [(0, .x (.one (.p (.sl 4 (List.map enc_api_AccessRule rules))))), (1, .x (.one (.p (.sl 5 (List.map enc_api_Evidence l))))), (2, .x (.one (.p (pi candidate)))), (3, .x (.one (.p (pi time)))), (8, .x (.one (.ptr 108 0))), (10, .x (.one (.p (pi y)))), (16, .x (.one (.p (.val (.bool (y != (0 : Int)))))))], mkH [(108, .var [.p (pi (0 : Int)), .p (pi (0 : Int))])]⟩) ?_
  refine lok_c (y != (0 : Int)) ?_ ?_
  · intro b_9
    replace H0 := cpos H0 b_9
    refine lok_rt E0 (⟨48, mkS [(8, .x (.one (.ptr 108 0))), (9, .x (.one (.p (pi y))))], mkH [(108, .var [.p (pi (0 : Int)), .p (pi (0 : Int))])]⟩) ?_
    refine lok_ret ?_
    obtain rfl := Option.some.inj H0
    try simp only [thenL, blockL]
    exact fin_au _ (.inr rfl) [] (⟨48, mkS [(8, .x (.one (.ptr 108 0))), (9, .x (.one (.p (pi y))))], mkH [(108, .var [.p (pi (0 : Int)), .p (pi (0 : Int))])]⟩) rfl rfl imp_au
  · intro b_9
    replace H0 := cneg H0 b_9
    refine lok_skip ?_
    try simp only [thenL, blockL, ↓reduceIte, reduceCtorEq]
    refine lok_rt E0 (⟨48, mkS [(0, .x (.one (.p (.sl 4 (List.map enc_api_AccessRule rules))))), (1, .x (.one (.p (.sl 5 (List.map enc_api_Evidence l))))), (2, .x (.one (.p (pi candidate)))), (3, .x (.one (.p (pi time)))), (8, .x (.one (.ptr 108 0))), (11, .x (.one (.ptr 111 0)))], mkH [(108, .var [.p (pi (0 : Int)), .p (pi (0 : Int))]), (111, .var [.p (pi (0 : Int)), .p (pi (0 : Int))])]⟩) ?_
    refine lok_join (fun x_ : Int × Int => ref14_Grant_j1 x_.1 x_.2 = some r_) (fun x_ => ⟨48, mkS [(8, .x (.one (.ptr 108 0))), (11, .x (.one (.ptr 111 0)))], mkH [(108, .var [.p (pi (0 : Int)), .p (pi (0 : Int))]), (111, .var [.p (pi x_.1), .p (pi x_.2)])]⟩) ?hyref14_Grant_j1 ?hxref14_Grant_j1
    case hyref14_Grant_j1 =>
      rintro ⟨a, a1⟩ H0
      try dsimp only at H0 ⊢
      unfold ref14_Grant_j1 at H0
      obtain ⟨y1, h_1, H0⟩ := bind_some H0
      refine lok_rt (Env.of E0 [⟨some 47, 33, [.agg [.p (pi a), .p (pi a1)]], [], [.agg [.p (pi y1.Extra), .p (pi y1.Needs)]], [], True, fun _ => ok_ref14_Imply (api_Access.mk a a1) y1 h_1⟩]) (⟨48, mkS [(8, .x (.one (.ptr 108 0))), (9, .x (.one (.p (pi (0 : Int)))))], mkH [(108, .var [.p (pi y1.Extra), .p (pi y1.Needs)])]⟩) ?_
      refine lok_ret ?_
      obtain rfl := Option.some.inj H0
      try simp only [thenL, blockL]
      exact fin_au _ (.inr rfl) [] (⟨48, mkS [(8, .x (.one (.ptr 108 0))), (9, .x (.one (.p (pi (0 : Int)))))], mkH [(108, .var [.p (pi y1.Extra), .p (pi y1.Needs)])]⟩) rfl rfl imp_au
    case hxref14_Grant_j1 =>
      refine lok_rt E0 (⟨48, mkS [(0, .x (.one (.p (.sl 4 (List.map enc_api_AccessRule rules))))), (1, .x (.one (.p (.sl 5 (List.map enc_api_Evidence l))))), (2, .x (.one (.p (pi candidate)))), (3, .x (.one (.p (pi time)))), (8, .x (.one (.ptr 108 0))), (11, .x (.one (.ptr 111 0))), (12, .x (.one (.p (pi (0 : Int)))))], mkH [(108, .var [.p (pi (0 : Int)), .p (pi (0 : Int))]), (111, .var [.p (pi (0 : Int)), .p (pi (0 : Int))])]⟩) ?_
      refine lok_block ?_
      obtain ⟨v_2, hv_2, H0⟩ := bind_some H0
      refine lok_iter (fun x_ => ⟨48, mkS [(0, .x (.one (.p (.sl 4 (List.map enc_api_AccessRule rules))))), (1, .x (.one (.p (.sl 5 (List.map enc_api_Evidence l))))), (2, .x (.one (.p (pi candidate)))), (3, .x (.one (.p (pi time)))), (8, .x (.one (.ptr 108 0))), (11, .x (.one (.ptr 111 0))), (12, .x (.one (.p (pi x_.1))))], mkH [(108, .var [.p (pi (0 : Int)), .p (pi (0 : Int))]), (111, .var [.p (pi x_.2.1), .p (pi x_.2.2)])]⟩) hv_2 imp_au ?_
      · rintro ⟨i, a2, a3⟩ o_1 H1 k_1
        unfold ref14_Grant_l3 at H1
        try dsimp only at H1 ⊢
        refine lok_seq ?_
        refine lok_rt E0 (⟨48, mkS [(0, .x (.one (.p (.sl 4 (List.map enc_api_AccessRule rules))))), (1, .x (.one (.p (.sl 5 (List.map enc_api_Evidence l))))), (2, .x (.one (.p (pi candidate)))), (3, .x (.one (.p (pi time)))), (8, .x (.one (.ptr 108 0))), (11, .x (.one (.ptr 111 0))), (12, .x (.one (.p (pi i)))), (22, .x (.one (.p (.val (.bool (decide (i < (rules.length : Int))))))))], mkH [(108, .var [.p (pi (0 : Int)), .p (pi (0 : Int))]), (111, .var [.p (pi a2), .p (pi a3)])]⟩) ?_
        refine lok_c (decide (i < (rules.length : Int))) ?_ ?_
        · intro b_8
          replace H1 := cpos H1 b_8
          refine lok_skip ?_
          try simp only [thenL, blockL, ↓reduceIte, reduceCtorEq]
          refine lok_join (fun x_ : Int × Int => ref14_Grant_j2 i x_.1 x_.2 = some o_1) (fun x_ => ⟨48, mkS [(0, .x (.one (.p (.sl 4 (List.map enc_api_AccessRule rules))))), (1, .x (.one (.p (.sl 5 (List.map enc_api_Evidence l))))), (2, .x (.one (.p (pi candidate)))), (3, .x (.one (.p (pi time)))), (8, .x (.one (.ptr 108 0))), (11, .x (.one (.ptr 111 0))), (12, .x (.one (.p (pi i))))], mkH [(108, .var [.p (pi (0 : Int)), .p (pi (0 : Int))]), (111, .var [.p (pi x_.1), .p (pi x_.2)])]⟩) ?hyref14_Grant_j2 ?hxref14_Grant_j2
          case hyref14_Grant_j2 =>
            rintro ⟨a6, a7⟩ H1
            try dsimp only at H1 ⊢
            unfold ref14_Grant_j2 at H1
            refine lok_rl E0 (⟨48, mkS [(0, .x (.one (.p (.sl 4 (List.map enc_api_AccessRule rules))))), (1, .x (.one (.p (.sl 5 (List.map enc_api_Evidence l))))), (2, .x (.one (.p (pi candidate)))), (3, .x (.one (.p (pi time)))), (8, .x (.one (.ptr 108 0))), (11, .x (.one (.ptr 111 0))), (12, .x (.one (.p (pi (IntKind.i64.wrap (i + (1 : Int)))))))], mkH [(108, .var [.p (pi (0 : Int)), .p (pi (0 : Int))]), (111, .var [.p (pi a6), .p (pi a7)])]⟩) ?_
            try simp only [thenL, blockL, ↓reduceIte, reduceCtorEq]
            exact ⟨((IntKind.i64.wrap (i + (1 : Int))), a6, a7), (Option.some.inj H1).symm, imp_au⟩
          case hxref14_Grant_j2 =>
            refine lok_block ?_
            obtain ⟨q_7, H1⟩ := req_some H1
            obtain ⟨y2, h_3, H1⟩ := bind_some H1
            refine lok_rt (Env.of E0 [⟨some 32, 44, [.agg [.p (pi ((ix rules i).Kind)), .p (pi ((ix rules i).Least)), .p (pi ((ix rules i).Extra)), .p (pi ((ix rules i).Needs))], .one (.p (.sl 5 (List.map enc_api_Evidence l))), .one (.p (pi candidate)), .one (.p (pi time))], [], [.one (.p (.val (.bool y2)))], [], True, fun _ => ok_ref14_applies (ix rules i) l candidate time y2 h_3⟩]) (⟨48, mkS [(0, .x (.one (.p (.sl 4 (List.map enc_api_AccessRule rules))))), (1, .x (.one (.p (.sl 5 (List.map enc_api_Evidence l))))), (2, .x (.one (.p (pi candidate)))), (3, .x (.one (.p (pi time)))), (8, .x (.one (.ptr 108 0))), (11, .x (.one (.ptr 111 0))), (12, .x (.one (.p (pi i)))), (32, .x (.one (.p (.val (.bool y2)))))], mkH [(108, .var [.p (pi (0 : Int)), .p (pi (0 : Int))]), (111, .var [.p (pi a2), .p (pi a3)])]⟩) ?_
            refine lok_c y2 ?_ ?_
            · intro b_6
              replace H1 := cpos H1 b_6
              obtain ⟨q_5, H1⟩ := req_some H1
              obtain ⟨y3, h_4, H1⟩ := bind_some H1
              refine lok_dl (Env.of E0 [⟨some 45, 31, [.agg [.p (pi a2), .p (pi a3)], .agg [.p (pi ((ix rules i).Extra)), .p (pi ((ix rules i).Needs))]], [], [.agg [.p (pi y3.Extra), .p (pi y3.Needs)]], [], True, fun _ => ok_ref14_Join (api_Access.mk a2 a3) (api_Access.mk ((ix rules i).Extra) ((ix rules i).Needs)) y3 h_4⟩]) 12 (⟨48, mkS [(0, .x (.one (.p (.sl 4 (List.map enc_api_AccessRule rules))))), (1, .x (.one (.p (.sl 5 (List.map enc_api_Evidence l))))), (2, .x (.one (.p (pi candidate)))), (3, .x (.one (.p (pi time)))), (8, .x (.one (.ptr 108 0))), (11, .x (.one (.ptr 111 0))), (12, .x (.one (.p (pi i))))], mkH [(108, .var [.p (pi (0 : Int)), .p (pi (0 : Int))]), (111, .var [.p (pi y3.Extra), .p (pi y3.Needs)])]⟩) (by kernel_rfl) (by kernel_rfl) ?_
              try simp only [thenL, blockL, ↓reduceIte, reduceCtorEq]
              exact ⟨(y3.Extra, y3.Needs), H1, imp_au⟩
            · intro b_6
              replace H1 := cneg H1 b_6
              refine lok_skip ?_
              try simp only [thenL, blockL, ↓reduceIte, reduceCtorEq]
              exact ⟨(a2, a3), H1, imp_au⟩
        · intro b_8
          replace H1 := cneg H1 b_8
          refine lok_exit ?_
          try simp only [thenL, blockL, ↓reduceIte, reduceCtorEq]
          have e_1 := k_1 _ (Option.some.inj H1).symm
          subst e_1
          try dsimp only at H0
          try simp only [thenL, blockL, ↓reduceIte, reduceCtorEq]
          exact ⟨(a2, a3), H0, imp_au⟩
theorem ok_ref06_Ints (a : List Int) (b : List Int) (r_ : Bool) (H0 : ref06_Ints a b = some r_) : CallOK Try.prog 21 [.one (.p (.sl 1 (List.map encI a))), .one (.p (.sl 1 (List.map encI b)))] [] [.one (.p (.val (.bool r_)))] [] := by
  refine callOK (n := 26) (rs := [.tmp 4]) (nb := 0) (V := []) Try.func21 rfl (by kernel_rfl) rfl rfl rfl rfl (Nat.le_of_ble_eq_true rfl) rfl (by decide) ?_
  unfold ref06_Ints at H0
  refine lok_rt E0 (⟨26, mkS [(0, .x (.one (.p (.sl 1 (List.map encI a))))), (1, .x (.one (.p (.sl 1 (List.map encI b)))))], mkH []⟩) ?_
  refine lok_seq ?_
  refine lok_rt E0 (⟨26, mkS [(0, .x (.one (.p (.sl 1 (List.map encI a))))), (1, .x (.one (.p (.sl 1 (List.map encI b))))), (10, .x (.one (.p (.val (.bool ((a.length : Int) != (b.length : Int)))))))], mkH []⟩) ?_
  refine lok_c ((a.length : Int) != (b.length : Int)) ?_ ?_
  · intro b_5
    replace H0 := cpos H0 b_5
    refine lok_rt E0 (⟨26, mkS [(4, .x (.one (.p (.val (.bool false)))))], mkH []⟩) ?_
    refine lok_ret ?_
    obtain rfl := Option.some.inj H0
    try simp only [thenL, blockL]
    exact fin_au _ (.inr rfl) [] (⟨26, mkS [(4, .x (.one (.p (.val (.bool false)))))], mkH []⟩) rfl rfl imp_au
  · intro b_5
    replace H0 := cneg H0 b_5
    refine lok_skip ?_
    try simp only [thenL, blockL, ↓reduceIte, reduceCtorEq]
    refine lok_join (fun x_ : Unit => ref06_Ints_j1 = some r_) (fun x_ => ⟨26, mkS [], mkH []⟩) ?hyref06_Ints_j1 ?hxref06_Ints_j1
    case hyref06_Ints_j1 =>
      rintro _ H0
      try dsimp only at H0 ⊢
      unfold ref06_Ints_j1 at H0
      refine lok_rt E0 (⟨26, mkS [(4, .x (.one (.p (.val (.bool true)))))], mkH []⟩) ?_
      refine lok_ret ?_
      obtain rfl := Option.some.inj H0
      try simp only [thenL, blockL]
      exact fin_au _ (.inr rfl) [] (⟨26, mkS [(4, .x (.one (.p (.val (.bool true)))))], mkH []⟩) rfl rfl imp_au
    case hxref06_Ints_j1 =>
      refine lok_rt E0 (⟨26, mkS [(0, .x (.one (.p (.sl 1 (List.map encI a))))), (1, .x (.one (.p (.sl 1 (List.map encI b))))), (5, .x (.one (.p (pi (0 : Int)))))], mkH []⟩) ?_
      refine lok_block ?_
      obtain ⟨v_0, hv_0, H0⟩ := bind_some H0
      refine lok_iter (fun x_ => ⟨26, mkS [(0, .x (.one (.p (.sl 1 (List.map encI a))))), (1, .x (.one (.p (.sl 1 (List.map encI b))))), (5, .x (.one (.p (pi x_))))], mkH []⟩) hv_0 imp_au ?_
      · rintro i o_1 H1 k_1
        unfold ref06_Ints_l2 at H1
        try dsimp only at H1 ⊢
        refine lok_seq ?_
        refine lok_rt E0 (⟨26, mkS [(0, .x (.one (.p (.sl 1 (List.map encI a))))), (1, .x (.one (.p (.sl 1 (List.map encI b))))), (5, .x (.one (.p (pi i)))), (14, .x (.one (.p (.val (.bool (decide (i < (a.length : Int))))))))], mkH []⟩) ?_
        refine lok_c (decide (i < (a.length : Int))) ?_ ?_
        · intro b_4
          replace H1 := cpos H1 b_4
          refine lok_skip ?_
          try simp only [thenL, blockL, ↓reduceIte, reduceCtorEq]
          refine lok_seq ?_
          refine lok_block ?_
          obtain ⟨⟨q_2, q_3⟩, H1⟩ := req_some H1
          refine lok_dt E0 8 (⟨26, mkS [(0, .x (.one (.p (.sl 1 (List.map encI a))))), (1, .x (.one (.p (.sl 1 (List.map encI b))))), (5, .x (.one (.p (pi i)))), (25, .x (.one (.p (.val (.bool ((ix a i) != (ix b i)))))))], mkH []⟩) (by kernel_rfl) (by kernel_rfl) ?_
          refine lok_c ((ix a i) != (ix b i)) ?_ ?_
          · intro b_1
            replace H1 := cpos H1 b_1
            refine lok_rt E0 (⟨26, mkS [(4, .x (.one (.p (.val (.bool false)))))], mkH []⟩) ?_
            refine lok_ret ?_
            try simp only [thenL, blockL, ↓reduceIte, reduceCtorEq]
            have e_1 := k_1 _ (Option.some.inj H1).symm
            subst e_1
            try dsimp only at H0
            obtain rfl := Option.some.inj H0
            try simp only [thenL, blockL]
            exact fin_au _ (.inr rfl) [] (⟨26, mkS [(4, .x (.one (.p (.val (.bool false)))))], mkH []⟩) rfl rfl imp_au
          · intro b_1
            replace H1 := cneg H1 b_1
            refine lok_skip ?_
            try simp only [thenL, blockL, ↓reduceIte, reduceCtorEq]
            refine lok_rl E0 (⟨26, mkS [(0, .x (.one (.p (.sl 1 (List.map encI a))))), (1, .x (.one (.p (.sl 1 (List.map encI b))))), (5, .x (.one (.p (pi (IntKind.i64.wrap (i + (1 : Int)))))))], mkH []⟩) ?_
            try simp only [thenL, blockL, ↓reduceIte, reduceCtorEq]
            exact ⟨(IntKind.i64.wrap (i + (1 : Int))), (Option.some.inj H1).symm, imp_au⟩
        · intro b_4
          replace H1 := cneg H1 b_4
          refine lok_exit ?_
          try simp only [thenL, blockL, ↓reduceIte, reduceCtorEq]
          have e_1 := k_1 _ (Option.some.inj H1).symm
          subst e_1
          try dsimp only at H0
          try simp only [thenL, blockL, ↓reduceIte, reduceCtorEq]
          exact ⟨(), H0, imp_au⟩
theorem ok_ref14_Reasons (rules : List api_AccessRule) (l : List api_Evidence) (candidate : Int) (time : Int) (r_ : (List Int)) (H0 : ref14_Reasons rules l candidate time = some r_) : CallOK Try.prog 23 [.one (.p (.sl 4 (List.map enc_api_AccessRule rules))), .one (.p (.sl 5 (List.map enc_api_Evidence l))), .one (.p (pi candidate)), .one (.p (pi time))] [] [.one (.p (.sl 1 (List.map encI r_)))] [] := by
  refine callOK (n := 33) (rs := [.tmp 8]) (nb := 0) (V := []) Try.func23 rfl (by kernel_rfl) rfl rfl rfl rfl (Nat.le_of_ble_eq_true rfl) rfl (by decide) ?_
  unfold ref14_Reasons at H0
  refine lok_rt E0 (⟨33, mkS [(0, .x (.one (.p (.sl 4 (List.map enc_api_AccessRule rules))))), (1, .x (.one (.p (.sl 5 (List.map enc_api_Evidence l))))), (2, .x (.one (.p (pi candidate)))), (3, .x (.one (.p (pi time))))], mkH []⟩) ?_
  refine lok_seq ?_
  obtain ⟨y, h_0, H0⟩ := bind_some H0
  refine lok_rt (Env.of E0 [⟨some 12, 15, [.one (.p (.sl 4 (List.map enc_api_AccessRule rules)))], [], [.one (.p (pi y))], [], True, fun _ => ok_ref14_Check rules y h_0⟩]) (⟨33, mkS [(0, .x (.one (.p (.sl 4 (List.map enc_api_AccessRule rules))))), (1, .x (.one (.p (.sl 5 (List.map enc_api_Evidence l))))), (2, .x (.one (.p (pi candidate)))), (3, .x (.one (.p (pi time)))), (13, .x (.one (.p (.val (.bool (y != (0 : Int)))))))], mkH []⟩) ?_
  refine lok_c (y != (0 : Int)) ?_ ?_
  · intro b_7
    replace H0 := cpos H0 b_7
    refine lok_rt E0 (⟨33, mkS [(8, .x (.one (.vw 108)))], mkH [(108, .arr 1 (List.map encI ([] : List Int)))]⟩) ?_
    refine lok_ret ?_
    obtain rfl := Option.some.inj H0
    try simp only [thenL, blockL]
    exact fin_au _ (.inr rfl) [] (⟨33, mkS [(8, .x (.one (.p (.sl 1 (List.map encI ([] : List Int))))))], mkH []⟩) rfl rfl (Imp.trans (imp_frz 108 1 (List.map encI ([] : List Int))) imp_au)
  · intro b_7
    replace H0 := cneg H0 b_7
    refine lok_skip ?_
    try simp only [thenL, blockL, ↓reduceIte, reduceCtorEq]
    refine lok_rt E0 (⟨33, mkS [(0, .x (.one (.p (.sl 4 (List.map enc_api_AccessRule rules))))), (1, .x (.one (.p (.sl 5 (List.map enc_api_Evidence l))))), (2, .x (.one (.p (pi candidate)))), (3, .x (.one (.p (pi time)))), (9, .x (.one (.vw 109)))], mkH [(109, .arr 1 (List.map encI ([] : List Int)))]⟩) ?_
    refine lok_join (fun x_ : (List Int) => ref14_Reasons_j1 x_ = some r_) (fun x_ => ⟨33, mkS [(9, .x (.one (.vw 109)))], mkH [(109, .arr 1 (List.map encI x_))]⟩) ?hyref14_Reasons_j1 ?hxref14_Reasons_j1
    case hyref14_Reasons_j1 =>
      rintro out H0
      try dsimp only at H0 ⊢
      unfold ref14_Reasons_j1 at H0
      refine lok_rt E0 (⟨33, mkS [(8, .x (.one (.vw 109)))], mkH [(109, .arr 1 (List.map encI out))]⟩) ?_
      refine lok_ret ?_
      obtain rfl := Option.some.inj H0
      try simp only [thenL, blockL]
      exact fin_au _ (.inr rfl) [] (⟨33, mkS [(8, .x (.one (.p (.sl 1 (List.map encI out)))))], mkH []⟩) rfl rfl (Imp.trans (imp_frz 109 1 (List.map encI out)) imp_au)
    case hxref14_Reasons_j1 =>
      refine lok_rt E0 (⟨33, mkS [(0, .x (.one (.p (.sl 4 (List.map enc_api_AccessRule rules))))), (1, .x (.one (.p (.sl 5 (List.map enc_api_Evidence l))))), (2, .x (.one (.p (pi candidate)))), (3, .x (.one (.p (pi time)))), (9, .x (.one (.vw 109))), (10, .x (.one (.p (pi (0 : Int)))))], mkH [(109, .arr 1 (List.map encI ([] : List Int)))]⟩) ?_
      refine lok_block ?_
      obtain ⟨v_1, hv_1, H0⟩ := bind_some H0
      refine lok_iter (fun x_ => ⟨33, mkS [(0, .x (.one (.p (.sl 4 (List.map enc_api_AccessRule rules))))), (1, .x (.one (.p (.sl 5 (List.map enc_api_Evidence l))))), (2, .x (.one (.p (pi candidate)))), (3, .x (.one (.p (pi time)))), (9, .x (.one (.vw 109))), (10, .x (.one (.p (pi x_.1))))], mkH [(109, .arr 1 (List.map encI x_.2))]⟩) hv_1 imp_au ?_
      · rintro ⟨i, out1⟩ o_1 H1 k_1
        unfold ref14_Reasons_l3 at H1
        try dsimp only at H1 ⊢
        refine lok_seq ?_
        refine lok_rt E0 (⟨33, mkS [(0, .x (.one (.p (.sl 4 (List.map enc_api_AccessRule rules))))), (1, .x (.one (.p (.sl 5 (List.map enc_api_Evidence l))))), (2, .x (.one (.p (pi candidate)))), (3, .x (.one (.p (pi time)))), (9, .x (.one (.vw 109))), (10, .x (.one (.p (pi i)))), (17, .x (.one (.p (.val (.bool (decide (i < (rules.length : Int))))))))], mkH [(109, .arr 1 (List.map encI out1))]⟩) ?_
        refine lok_c (decide (i < (rules.length : Int))) ?_ ?_
        · intro b_6
          replace H1 := cpos H1 b_6
          refine lok_skip ?_
          try simp only [thenL, blockL, ↓reduceIte, reduceCtorEq]
          refine lok_join (fun x_ : (List Int) => ref14_Reasons_j2 i x_ = some o_1) (fun x_ => ⟨33, mkS [(0, .x (.one (.p (.sl 4 (List.map enc_api_AccessRule rules))))), (1, .x (.one (.p (.sl 5 (List.map enc_api_Evidence l))))), (2, .x (.one (.p (pi candidate)))), (3, .x (.one (.p (pi time)))), (9, .x (.one (.vw 109))), (10, .x (.one (.p (pi i))))], mkH [(109, .arr 1 (List.map encI x_))]⟩) ?hyref14_Reasons_j2 ?hxref14_Reasons_j2
          case hyref14_Reasons_j2 =>
            rintro out3 H1
            try dsimp only at H1 ⊢
            unfold ref14_Reasons_j2 at H1
            refine lok_rl E0 (⟨33, mkS [(0, .x (.one (.p (.sl 4 (List.map enc_api_AccessRule rules))))), (1, .x (.one (.p (.sl 5 (List.map enc_api_Evidence l))))), (2, .x (.one (.p (pi candidate)))), (3, .x (.one (.p (pi time)))), (9, .x (.one (.vw 109))), (10, .x (.one (.p (pi (IntKind.i64.wrap (i + (1 : Int)))))))], mkH [(109, .arr 1 (List.map encI out3))]⟩) ?_
            try simp only [thenL, blockL, ↓reduceIte, reduceCtorEq]
            exact ⟨((IntKind.i64.wrap (i + (1 : Int))), out3), (Option.some.inj H1).symm, imp_au⟩
          case hxref14_Reasons_j2 =>
            refine lok_block ?_
            obtain ⟨q_5, H1⟩ := req_some H1
            obtain ⟨y1, h_2, H1⟩ := bind_some H1
            refine lok_rt (Env.of E0 [⟨some 27, 44, [.agg [.p (pi ((ix rules i).Kind)), .p (pi ((ix rules i).Least)), .p (pi ((ix rules i).Extra)), .p (pi ((ix rules i).Needs))], .one (.p (.sl 5 (List.map enc_api_Evidence l))), .one (.p (pi candidate)), .one (.p (pi time))], [], [.one (.p (.val (.bool y1)))], [], True, fun _ => ok_ref14_applies (ix rules i) l candidate time y1 h_2⟩]) (⟨33, mkS [(0, .x (.one (.p (.sl 4 (List.map enc_api_AccessRule rules))))), (1, .x (.one (.p (.sl 5 (List.map enc_api_Evidence l))))), (2, .x (.one (.p (pi candidate)))), (3, .x (.one (.p (pi time)))), (9, .x (.one (.vw 109))), (10, .x (.one (.p (pi i)))), (27, .x (.one (.p (.val (.bool y1)))))], mkH [(109, .arr 1 (List.map encI out1))]⟩) ?_
            refine lok_c y1 ?_ ?_
            · intro b_4
              replace H1 := cpos H1 b_4
              obtain ⟨q_3, H1⟩ := req_some H1
              refine lok_rl E0 (⟨33, mkS [(0, .x (.one (.p (.sl 4 (List.map enc_api_AccessRule rules))))), (1, .x (.one (.p (.sl 5 (List.map enc_api_Evidence l))))), (2, .x (.one (.p (pi candidate)))), (3, .x (.one (.p (pi time)))), (9, .x (.one (.vw 109))), (10, .x (.one (.p (pi i))))], mkH [(109, .arr 1 (List.map encI (out1 ++ [i])))]⟩) ?_
              try simp only [thenL, blockL, ↓reduceIte, reduceCtorEq]
              exact ⟨(out1 ++ [i]), H1, imp_au⟩
            · intro b_4
              replace H1 := cneg H1 b_4
              refine lok_skip ?_
              try simp only [thenL, blockL, ↓reduceIte, reduceCtorEq]
              exact ⟨out1, H1, imp_au⟩
        · intro b_6
          replace H1 := cneg H1 b_6
          refine lok_exit ?_
          try simp only [thenL, blockL, ↓reduceIte, reduceCtorEq]
          have e_1 := k_1 _ (Option.some.inj H1).symm
          subst e_1
          try dsimp only at H0
          try simp only [thenL, blockL, ↓reduceIte, reduceCtorEq]
          exact ⟨out1, H0, imp_au⟩
theorem ok_law14_AccessGrants (t : List Int) (time : Int) (r_ : Bool) (H0 : law14_AccessGrants t time = some r_) : CallOK Try.prog 5 [.one (.p (.sl 1 (List.map encI t))), .one (.p (pi time))] [] [.one (.p (.val (.bool r_)))] [] := by
  refine callOK (n := 64) (rs := [.tmp 4]) (nb := 0) (V := []) Try.func5 rfl (by kernel_rfl) rfl rfl rfl rfl (Nat.le_of_ble_eq_true rfl) rfl (by decide) ?_
  unfold law14_AccessGrants at H0
  refine lok_rt E0 (⟨64, mkS [(0, .x (.one (.p (.sl 1 (List.map encI t))))), (1, .x (.one (.p (pi time))))], mkH []⟩) ?_
  obtain ⟨y, h_0, H0⟩ := bind_some H0
  refine lok_rt (Env.of E0 [⟨some 14, 12, [.one (.p (.sl 1 (List.map encI t)))], [], [.one (.ptr 0 0)], [some (.var [.p (.sl 1 (List.map encI y.L)), .p (pi y.At)])], True, fun _ => ok_make_New t y h_0⟩]) (⟨64, mkS [(1, .x (.one (.p (pi time)))), (5, .x (.one (.ptr 1014 0)))], mkH [(1014, .var [.p (.sl 1 (List.map encI y.L)), .p (pi y.At)])]⟩) ?_
  obtain ⟨⟨y1, y2⟩, h_1, H0⟩ := bind_some H0
  try dsimp only at H0
  obtain ⟨⟨y3, y4⟩, h_2, H0⟩ := bind_some H0
  try dsimp only at H0
  refine lok_rt (Env.of E0 [⟨some 16, 13, [.one (.ptr 0 0), .one (.p (pi (8 : Int)))], [.var [.p (.sl 1 (List.map encI y.L)), .p (pi y.At)]], [.one (.p (.sl 4 (List.map enc_api_AccessRule y1)))], [some (.var [.p (.sl 1 (List.map encI y2.L)), .p (pi y2.At)])], True, fun _ => ok_make_Tape_Rules y (8 : Int) (y1, y2) h_1⟩,
      ⟨some 18, 18, [.one (.ptr 0 0)], [.var [.p (.sl 1 (List.map encI y2.L)), .p (pi y2.At)]], [.one (.p (.sl 5 (List.map enc_api_Evidence y3)))], [some (.var [.p (.sl 1 (List.map encI y4.L)), .p (pi y4.At)])], True, fun _ => ok_make_Tape_Evidence y2 (y3, y4) h_2⟩]) (⟨64, mkS [(1, .x (.one (.p (pi time)))), (5, .x (.one (.ptr 1014 0))), (6, .x (.one (.p (.sl 4 (List.map enc_api_AccessRule y1))))), (7, .x (.one (.p (.sl 5 (List.map enc_api_Evidence y3)))))], mkH [(1014, .var [.p (.sl 1 (List.map encI y4.L)), .p (pi y4.At)])]⟩) ?_
  refine lok_join (fun x_ : Unit => law14_AccessGrants_j1 = some r_) (fun x_ => ⟨64, mkS [], mkH []⟩) ?hylaw14_AccessGrants_j1 ?hxlaw14_AccessGrants_j1
  case hylaw14_AccessGrants_j1 =>
    rintro _ H0
    try dsimp only at H0 ⊢
    unfold law14_AccessGrants_j1 at H0
    obtain ⟨y5, h_3, H0⟩ := bind_some H0
    refine lok_rt (Env.of E0 [⟨some 63, 16, [], [], [.one (.p (.val (.bool y5)))], [], True, fun _ => ok_law14_awake y5 h_3⟩]) (⟨64, mkS [(4, .x (.one (.p (.val (.bool y5)))))], mkH []⟩) ?_
    refine lok_ret ?_
    obtain rfl := Option.some.inj H0
    try simp only [thenL, blockL]
    exact fin_au _ (.inr rfl) [] (⟨64, mkS [(4, .x (.one (.p (.val (.bool y5)))))], mkH []⟩) rfl rfl imp_au
  case hxlaw14_AccessGrants_j1 =>
    refine lok_rt E0 (⟨64, mkS [(1, .x (.one (.p (pi time)))), (5, .x (.one (.ptr 1014 0))), (6, .x (.one (.p (.sl 4 (List.map enc_api_AccessRule y1))))), (7, .x (.one (.p (.sl 5 (List.map enc_api_Evidence y3))))), (8, .x (.one (.p (pi (0 : Int)))))], mkH [(1014, .var [.p (.sl 1 (List.map encI y4.L)), .p (pi y4.At)])]⟩) ?_
    refine lok_block ?_
    obtain ⟨v_4, hv_4, H0⟩ := bind_some H0
    refine lok_iter (fun x_ => ⟨64, mkS [(1, .x (.one (.p (pi x_.1)))), (5, .x (.one (.ptr 1014 0))), (6, .x (.one (.p (.sl 4 (List.map enc_api_AccessRule y1))))), (7, .x (.one (.p (.sl 5 (List.map enc_api_Evidence y3))))), (8, .x (.one (.p (pi x_.2.1))))], mkH [(1014, .var [.p (.sl 1 (List.map encI x_.2.2.1)), .p (pi x_.2.2.2)])]⟩) hv_4 imp_au ?_
    · rintro ⟨time1, i, w, w1⟩ o_1 H1 k_1
      unfold law14_AccessGrants_l2 at H1
      try dsimp only at H1 ⊢
      refine lok_seq ?_
      refine lok_rt E0 (⟨64, mkS [(1, .x (.one (.p (pi time1)))), (5, .x (.one (.ptr 1014 0))), (6, .x (.one (.p (.sl 4 (List.map enc_api_AccessRule y1))))), (7, .x (.one (.p (.sl 5 (List.map enc_api_Evidence y3))))), (8, .x (.one (.p (pi i)))), (20, .x (.one (.p (.val (.bool (decide (i < (2 : Int))))))))], mkH [(1014, .var [.p (.sl 1 (List.map encI w)), .p (pi w1)])]⟩) ?_
      refine lok_c (decide (i < (2 : Int))) ?_ ?_
      · intro b_12
        replace H1 := cpos H1 b_12
        refine lok_skip ?_
        try simp only [thenL, blockL, ↓reduceIte, reduceCtorEq]
        refine lok_seq ?_
        refine lok_block ?_
        obtain ⟨⟨y6, y7⟩, h_5, H1⟩ := bind_some H1
        try dsimp only at H1
        refine lok_rt (Env.of E0 [⟨some 28, 19, [.one (.p (.sl 4 (List.map enc_api_AccessRule y1))), .one (.p (.sl 5 (List.map enc_api_Evidence y3))), .one (.p (pi i)), .one (.p (pi time1))], [], [.agg [.p (pi y6.Extra), .p (pi y6.Needs)], .one (.p (pi y7))], [], True, fun _ => ok_access_Grant y1 y3 i time1 (y6, y7) h_5⟩]) (⟨64, mkS [(1, .x (.one (.p (pi time1)))), (5, .x (.one (.ptr 1014 0))), (6, .x (.one (.p (.sl 4 (List.map enc_api_AccessRule y1))))), (7, .x (.one (.p (.sl 5 (List.map enc_api_Evidence y3))))), (8, .x (.one (.p (pi i)))), (9, .x (.one (.ptr 109 0))), (10, .x (.one (.p (pi y7))))], mkH [(109, .var [.p (pi y6.Extra), .p (pi y6.Needs)]), (1014, .var [.p (.sl 1 (List.map encI w)), .p (pi w1)])]⟩) ?_
        obtain ⟨⟨y8, y9⟩, h_6, H1⟩ := bind_some H1
        try dsimp only at H1
        refine lok_rt (Env.of E0 [⟨some 36, 20, [.one (.p (.sl 4 (List.map enc_api_AccessRule y1))), .one (.p (.sl 5 (List.map enc_api_Evidence y3))), .one (.p (pi i)), .one (.p (pi time1))], [], [.agg [.p (pi y8.Extra), .p (pi y8.Needs)], .one (.p (pi y9))], [], True, fun _ => ok_ref14_Grant y1 y3 i time1 (y8, y9) h_6⟩]) (⟨64, mkS [(1, .x (.one (.p (pi time1)))), (5, .x (.one (.ptr 1014 0))), (6, .x (.one (.p (.sl 4 (List.map enc_api_AccessRule y1))))), (7, .x (.one (.p (.sl 5 (List.map enc_api_Evidence y3))))), (8, .x (.one (.p (pi i)))), (9, .x (.one (.ptr 109 0))), (10, .x (.one (.p (pi y7)))), (11, .x (.one (.ptr 111 0))), (12, .x (.one (.p (pi y9))))], mkH [(109, .var [.p (pi y6.Extra), .p (pi y6.Needs)]), (111, .var [.p (pi y8.Extra), .p (pi y8.Needs)]), (1014, .var [.p (.sl 1 (List.map encI w)), .p (pi w1)])]⟩) ?_
        refine lok_seq ?_
        obtain ⟨⟨q_9, q_10, q_11⟩, H1⟩ := req_some H1
        refine lok_rt (Env.of E0 [⟨some 52, 22, [.one (.p (.sl 4 (List.map enc_api_AccessRule y1))), .one (.p (.sl 5 (List.map enc_api_Evidence y3))), .one (.p (pi i)), .one (.p (pi time1))], [], [.one (.p (.sl 1 (List.map encI ((access_Reasons y1 y3 i time1).getD default))))], [], (access_Reasons y1 y3 i time1).isSome = true, fun h => ok_access_Reasons y1 y3 i time1 _ (isSome_get h)⟩,
      ⟨some 57, 23, [.one (.p (.sl 4 (List.map enc_api_AccessRule y1))), .one (.p (.sl 5 (List.map enc_api_Evidence y3))), .one (.p (pi i)), .one (.p (pi time1))], [], [.one (.p (.sl 1 (List.map encI ((ref14_Reasons y1 y3 i time1).getD default))))], [], (ref14_Reasons y1 y3 i time1).isSome = true, fun h => ok_ref14_Reasons y1 y3 i time1 _ (isSome_get h)⟩,
      ⟨some 58, 21, [.one (.p (.sl 1 (List.map encI ((access_Reasons y1 y3 i time1).getD default)))), .one (.p (.sl 1 (List.map encI ((ref14_Reasons y1 y3 i time1).getD default))))], [], [.one (.p (.val (.bool ((ref06_Ints ((access_Reasons y1 y3 i time1).getD default) ((ref14_Reasons y1 y3 i time1).getD default)).getD default))))], [], (ref06_Ints ((access_Reasons y1 y3 i time1).getD default) ((ref14_Reasons y1 y3 i time1).getD default)).isSome = true, fun h => ok_ref06_Ints ((access_Reasons y1 y3 i time1).getD default) ((ref14_Reasons y1 y3 i time1).getD default) _ (isSome_get h)⟩]) (⟨64, mkS [(5, .x (.one (.ptr 1014 0))), (6, .x (.one (.p (.sl 4 (List.map enc_api_AccessRule y1))))), (7, .x (.one (.p (.sl 5 (List.map enc_api_Evidence y3))))), (8, .x (.one (.p (pi i)))), (60, .x (.one (.p (.val (.bool (((!((y6.Extra == y8.Extra) && (y6.Needs == y8.Needs))) || (y7 != y9)) || (!((ref06_Ints ((access_Reasons y1 y3 i time1).getD default) ((ref14_Reasons y1 y3 i time1).getD default)).getD default))))))))], mkH [(1014, .var [.p (.sl 1 (List.map encI w)), .p (pi w1)])]⟩) ?_
        refine lok_c (((!((y6.Extra == y8.Extra) && (y6.Needs == y8.Needs))) || (y7 != y9)) || (!((ref06_Ints ((access_Reasons y1 y3 i time1).getD default) ((ref14_Reasons y1 y3 i time1).getD default)).getD default))) ?_ ?_
        · intro b_8
          replace H1 := cpos H1 b_8
          refine lok_rt E0 (⟨64, mkS [(4, .x (.one (.p (.val (.bool false)))))], mkH []⟩) ?_
          refine lok_ret ?_
          try simp only [thenL, blockL, ↓reduceIte, reduceCtorEq]
          have e_1 := k_1 _ (Option.some.inj H1).symm
          subst e_1
          try dsimp only at H0
          obtain rfl := Option.some.inj H0
          try simp only [thenL, blockL]
          exact fin_au _ (.inr rfl) [] (⟨64, mkS [(4, .x (.one (.p (.val (.bool false)))))], mkH []⟩) rfl rfl imp_au
        · intro b_8
          replace H1 := cneg H1 b_8
          refine lok_skip ?_
          try simp only [thenL, blockL, ↓reduceIte, reduceCtorEq]
          obtain ⟨⟨y10, y11⟩, h_7, H1⟩ := bind_some H1
          try dsimp only at H1
          refine lok_rl (Env.of E0 [⟨some 62, 24, [.one (.ptr 0 0), .one (.p (pi (0 : Int))), .one (.p (pi (30 : Int)))], [.var [.p (.sl 1 (List.map encI w)), .p (pi w1)]], [.one (.p (pi y10))], [some (.var [.p (.sl 1 (List.map encI y11.L)), .p (pi y11.At)])], True, fun _ => ok_make_Tape_Range (make_Tape.mk w w1) (0 : Int) (30 : Int) (y10, y11) h_7⟩]) (⟨64, mkS [(1, .x (.one (.p (pi y10)))), (5, .x (.one (.ptr 1014 0))), (6, .x (.one (.p (.sl 4 (List.map enc_api_AccessRule y1))))), (7, .x (.one (.p (.sl 5 (List.map enc_api_Evidence y3))))), (8, .x (.one (.p (pi i))))], mkH [(1014, .var [.p (.sl 1 (List.map encI y11.L)), .p (pi y11.At)])]⟩) ?_
          try simp only [thenL, blockL, ↓reduceIte, reduceCtorEq]
          refine lok_rl E0 (⟨64, mkS [(1, .x (.one (.p (pi y10)))), (5, .x (.one (.ptr 1014 0))), (6, .x (.one (.p (.sl 4 (List.map enc_api_AccessRule y1))))), (7, .x (.one (.p (.sl 5 (List.map enc_api_Evidence y3))))), (8, .x (.one (.p (pi (IntKind.i64.wrap (i + (1 : Int)))))))], mkH [(1014, .var [.p (.sl 1 (List.map encI y11.L)), .p (pi y11.At)])]⟩) ?_
          try simp only [thenL, blockL, ↓reduceIte, reduceCtorEq]
          exact ⟨(y10, (IntKind.i64.wrap (i + (1 : Int))), y11.L, y11.At), (Option.some.inj H1).symm, imp_au⟩
      · intro b_12
        replace H1 := cneg H1 b_12
        refine lok_exit ?_
        try simp only [thenL, blockL, ↓reduceIte, reduceCtorEq]
        have e_1 := k_1 _ (Option.some.inj H1).symm
        subst e_1
        try dsimp only at H0
        try simp only [thenL, blockL, ↓reduceIte, reduceCtorEq]
        exact ⟨(), H0, imp_au⟩
theorem ok_make_Tape_Order (t : make_Tape) (n : Int) (r_ : (List Int) × make_Tape) (H0 : make_Tape_Order t n = some r_) : CallOK Try.prog 27 [.one (.ptr 0 0), .one (.p (pi n))] [.var [.p (.sl 1 (List.map encI t.L)), .p (pi t.At)]] [.one (.p (.sl 1 (List.map encI r_.1)))] [some (.var [.p (.sl 1 (List.map encI r_.2.L)), .p (pi r_.2.At)])] := by
  refine callOK (n := 33) (rs := [.tmp 4]) (nb := 1) (V := [0]) Try.func27 rfl (by kernel_rfl) rfl rfl rfl rfl (Nat.le_of_ble_eq_true rfl) rfl (by decide) ?_
  unfold make_Tape_Order at H0
  refine lok_rt E0 (⟨33, mkS [(0, .x (.one (.ptr 0 0))), (1, .x (.one (.p (pi n))))], mkH [(0, .var [.p (.sl 1 (List.map encI t.L)), .p (pi t.At)])]⟩) ?_
  refine lok_rt E0 (⟨33, mkS [(0, .x (.one (.ptr 0 0))), (1, .x (.one (.p (pi n)))), (5, .x (.one (.vw 105)))], mkH [(0, .var [.p (.sl 1 (List.map encI t.L)), .p (pi t.At)]), (105, .arr 1 (List.map encI ([] : List Int)))]⟩) ?_
  refine lok_join (fun x_ : (List Int) × (List Int) × Int => make_Tape_Order_j1 x_.1 x_.2.1 x_.2.2 = some r_) (fun x_ => ⟨33, mkS [(5, .x (.one (.p (.sl 1 (List.map encI x_.1)))))], mkH [(0, .var [.p (.sl 1 (List.map encI x_.2.1)), .p (pi x_.2.2)])]⟩) ?hymake_Tape_Order_j1 ?hxmake_Tape_Order_j1
  case hymake_Tape_Order_j1 =>
    rintro ⟨out, t1, t2⟩ H0
    try dsimp only at H0 ⊢
    unfold make_Tape_Order_j1 at H0
    refine lok_rt E0 (⟨33, mkS [(4, .x (.one (.p (.sl 1 (List.map encI out)))))], mkH [(0, .var [.p (.sl 1 (List.map encI t1)), .p (pi t2)])]⟩) ?_
    refine lok_ret ?_
    obtain rfl := Option.some.inj H0
    try simp only [thenL, blockL]
    exact fin_au _ (.inr rfl) [0] (⟨33, mkS [(4, .x (.one (.p (.sl 1 (List.map encI out)))))], mkH [(0, .var [.p (.sl 1 (List.map encI t1)), .p (pi t2)])]⟩) rfl rfl imp_au
  case hxmake_Tape_Order_j1 =>
    refine lok_rt E0 (⟨33, mkS [(0, .x (.one (.ptr 0 0))), (1, .x (.one (.p (pi n)))), (5, .x (.one (.vw 105))), (6, .x (.one (.p (pi (0 : Int)))))], mkH [(0, .var [.p (.sl 1 (List.map encI t.L)), .p (pi t.At)]), (105, .arr 1 (List.map encI ([] : List Int)))]⟩) ?_
    refine lok_block ?_
    obtain ⟨v_0, hv_0, H0⟩ := bind_some H0
    refine lok_iter (fun x_ => ⟨33, mkS [(0, .x (.one (.ptr 0 0))), (1, .x (.one (.p (pi n)))), (5, .x (.one (.p (.sl 1 (List.map encI x_.1))))), (6, .x (.one (.p (pi x_.2.1))))], mkH [(0, .var [.p (.sl 1 (List.map encI x_.2.2.1)), .p (pi x_.2.2.2)])]⟩) hv_0 (Imp.trans (imp_frz 105 1 (List.map encI ([] : List Int))) imp_au) ?_
    · rintro ⟨out1, i, t3, t4⟩ o_1 H1 k_1
      unfold make_Tape_Order_l2 at H1
      try dsimp only at H1 ⊢
      refine lok_seq ?_
      refine lok_rt E0 (⟨33, mkS [(0, .x (.one (.ptr 0 0))), (1, .x (.one (.p (pi n)))), (5, .x (.one (.p (.sl 1 (List.map encI out1))))), (6, .x (.one (.p (pi i)))), (11, .x (.one (.p (.val (.bool (decide (i < n)))))))], mkH [(0, .var [.p (.sl 1 (List.map encI t3)), .p (pi t4)])]⟩) ?_
      refine lok_c (decide (i < n)) ?_ ?_
      · intro b_7
        replace H1 := cpos H1 b_7
        refine lok_skip ?_
        try simp only [thenL, blockL, ↓reduceIte, reduceCtorEq]
        refine lok_seq ?_
        refine lok_block ?_
        obtain ⟨⟨y, y1⟩, h_1, H1⟩ := bind_some H1
        try dsimp only at H1
        refine lok_rt (Env.of E0 [⟨some 17, 35, [.one (.ptr 0 0), .one (.p (pi (IntKind.i64.wrap (i + (1 : Int)))))], [.var [.p (.sl 1 (List.map encI t3)), .p (pi t4)]], [.one (.p (pi y))], [some (.var [.p (.sl 1 (List.map encI y1.L)), .p (pi y1.At)])], True, fun _ => ok_make_Tape_Next (make_Tape.mk t3 t4) (IntKind.i64.wrap (i + (1 : Int))) (y, y1) h_1⟩]) (⟨33, mkS [(0, .x (.one (.ptr 0 0))), (1, .x (.one (.p (pi n)))), (5, .x (.one (.p (.sl 1 (List.map encI out1))))), (6, .x (.one (.p (pi i)))), (7, .x (.one (.p (pi y))))], mkH [(0, .var [.p (.sl 1 (List.map encI y1.L)), .p (pi y1.At)])]⟩) ?_
        refine lok_rt E0 (⟨33, mkS [(0, .x (.one (.ptr 0 0))), (1, .x (.one (.p (pi n)))), (5, .x (.one (.p (.sl 1 (List.map encI out1))))), (6, .x (.one (.p (pi i)))), (7, .x (.one (.p (pi y)))), (8, .x (.one (.vw 108)))], mkH [(0, .var [.p (.sl 1 (List.map encI y1.L)), .p (pi y1.At)]), (108, .arr 1 (List.map encI ([] : List Int)))]⟩) ?_
        obtain ⟨⟨q_5, q_6⟩, H1⟩ := req_some H1
        refine lok_rt E0 (⟨33, mkS [(0, .x (.one (.ptr 0 0))), (1, .x (.one (.p (pi n)))), (5, .x (.one (.p (.sl 1 (List.map encI out1))))), (6, .x (.one (.p (pi i)))), (7, .x (.one (.p (pi y)))), (8, .x (.one (.vw 108)))], mkH [(0, .var [.p (.sl 1 (List.map encI y1.L)), .p (pi y1.At)]), (108, .arr 1 (List.map encI (([] : List Int) ++ (List.take y.toNat out1))))]⟩) ?_
        obtain ⟨q_4, H1⟩ := req_some H1
        refine lok_rt E0 (⟨33, mkS [(0, .x (.one (.ptr 0 0))), (1, .x (.one (.p (pi n)))), (5, .x (.one (.p (.sl 1 (List.map encI out1))))), (6, .x (.one (.p (pi i)))), (7, .x (.one (.p (pi y)))), (8, .x (.one (.vw 108)))], mkH [(0, .var [.p (.sl 1 (List.map encI y1.L)), .p (pi y1.At)]), (108, .arr 1 (List.map encI ((([] : List Int) ++ (List.take y.toNat out1)) ++ [i])))]⟩) ?_
        obtain ⟨⟨q_2, q_3⟩, H1⟩ := req_some H1
        refine lok_rl E0 (⟨33, mkS [(0, .x (.one (.ptr 0 0))), (1, .x (.one (.p (pi n)))), (5, .x (.one (.vw 108))), (6, .x (.one (.p (pi i))))], mkH [(0, .var [.p (.sl 1 (List.map encI y1.L)), .p (pi y1.At)]), (108, .arr 1 (List.map encI (((([] : List Int) ++ (List.take y.toNat out1)) ++ [i]) ++ (List.drop y.toNat out1))))]⟩) ?_
        try simp only [thenL, blockL, ↓reduceIte, reduceCtorEq]
        refine lok_rl E0 (⟨33, mkS [(0, .x (.one (.ptr 0 0))), (1, .x (.one (.p (pi n)))), (5, .x (.one (.vw 108))), (6, .x (.one (.p (pi (IntKind.i64.wrap (i + (1 : Int)))))))], mkH [(0, .var [.p (.sl 1 (List.map encI y1.L)), .p (pi y1.At)]), (108, .arr 1 (List.map encI (((([] : List Int) ++ (List.take y.toNat out1)) ++ [i]) ++ (List.drop y.toNat out1))))]⟩) ?_
        try simp only [thenL, blockL, ↓reduceIte, reduceCtorEq]
        exact ⟨((((([] : List Int) ++ (List.take y.toNat out1)) ++ [i]) ++ (List.drop y.toNat out1)), (IntKind.i64.wrap (i + (1 : Int))), y1.L, y1.At), (Option.some.inj H1).symm, (Imp.trans (imp_frz 108 1 (List.map encI (((([] : List Int) ++ (List.take y.toNat out1)) ++ [i]) ++ (List.drop y.toNat out1)))) imp_au)⟩
      · intro b_7
        replace H1 := cneg H1 b_7
        refine lok_exit ?_
        try simp only [thenL, blockL, ↓reduceIte, reduceCtorEq]
        have e_1 := k_1 _ (Option.some.inj H1).symm
        subst e_1
        try dsimp only at H0
        try simp only [thenL, blockL, ↓reduceIte, reduceCtorEq]
        exact ⟨(out1, t3, t4), H0, imp_au⟩
theorem ok_make_Tape_Mixed (t : make_Tape) (n : Int) (r_ : (List Int) × make_Tape) (H0 : make_Tape_Mixed t n = some r_) : CallOK Try.prog 28 [.one (.ptr 0 0), .one (.p (pi n))] [.var [.p (.sl 1 (List.map encI t.L)), .p (pi t.At)]] [.one (.p (.sl 1 (List.map encI r_.1)))] [some (.var [.p (.sl 1 (List.map encI r_.2.L)), .p (pi r_.2.At)])] := by
  refine callOK (n := 46) (rs := [.tmp 4]) (nb := 1) (V := [0]) Try.func28 rfl (by kernel_rfl) rfl rfl rfl rfl (Nat.le_of_ble_eq_true rfl) rfl (by decide) ?_
  unfold make_Tape_Mixed at H0
  refine lok_rt E0 (⟨46, mkS [(0, .x (.one (.ptr 0 0))), (1, .x (.one (.p (pi n))))], mkH [(0, .var [.p (.sl 1 (List.map encI t.L)), .p (pi t.At)])]⟩) ?_
  obtain ⟨⟨y, y1⟩, h_0, H0⟩ := bind_some H0
  try dsimp only at H0
  refine lok_rt (Env.of E0 [⟨some 12, 27, [.one (.ptr 0 0), .one (.p (pi n))], [.var [.p (.sl 1 (List.map encI t.L)), .p (pi t.At)]], [.one (.p (.sl 1 (List.map encI y)))], [some (.var [.p (.sl 1 (List.map encI y1.L)), .p (pi y1.At)])], True, fun _ => ok_make_Tape_Order t n (y, y1) h_0⟩]) (⟨46, mkS [(0, .x (.one (.ptr 0 0))), (1, .x (.one (.p (pi n)))), (5, .x (.one (.p (.sl 1 (List.map encI y)))))], mkH [(0, .var [.p (.sl 1 (List.map encI y1.L)), .p (pi y1.At)])]⟩) ?_
  refine lok_join (fun x_ : (List Int) × (List Int) × Int => make_Tape_Mixed_j1 x_.1 x_.2.1 x_.2.2 = some r_) (fun x_ => ⟨46, mkS [(5, .x (.one (.p (.sl 1 (List.map encI x_.1)))))], mkH [(0, .var [.p (.sl 1 (List.map encI x_.2.1)), .p (pi x_.2.2)])]⟩) ?hymake_Tape_Mixed_j1 ?hxmake_Tape_Mixed_j1
  case hymake_Tape_Mixed_j1 =>
    rintro ⟨out, t1, t2⟩ H0
    try dsimp only at H0 ⊢
    unfold make_Tape_Mixed_j1 at H0
    refine lok_rt E0 (⟨46, mkS [(4, .x (.one (.p (.sl 1 (List.map encI out)))))], mkH [(0, .var [.p (.sl 1 (List.map encI t1)), .p (pi t2)])]⟩) ?_
    refine lok_ret ?_
    obtain rfl := Option.some.inj H0
    try simp only [thenL, blockL]
    exact fin_au _ (.inr rfl) [0] (⟨46, mkS [(4, .x (.one (.p (.sl 1 (List.map encI out)))))], mkH [(0, .var [.p (.sl 1 (List.map encI t1)), .p (pi t2)])]⟩) rfl rfl imp_au
  case hxmake_Tape_Mixed_j1 =>
    obtain ⟨⟨y2, y3⟩, h_1, H0⟩ := bind_some H0
    try dsimp only at H0
    refine lok_rt (Env.of E0 [⟨some 14, 35, [.one (.ptr 0 0), .one (.p (pi (4 : Int)))], [.var [.p (.sl 1 (List.map encI y1.L)), .p (pi y1.At)]], [.one (.p (pi y2))], [some (.var [.p (.sl 1 (List.map encI y3.L)), .p (pi y3.At)])], True, fun _ => ok_make_Tape_Next y1 (4 : Int) (y2, y3) h_1⟩]) (⟨46, mkS [(0, .x (.one (.ptr 0 0))), (1, .x (.one (.p (pi n)))), (5, .x (.one (.p (.sl 1 (List.map encI y))))), (6, .x (.one (.p (pi y2))))], mkH [(0, .var [.p (.sl 1 (List.map encI y3.L)), .p (pi y3.At)])]⟩) ?_
    refine lok_block ?_
    obtain ⟨v_2, hv_2, H0⟩ := bind_some H0
    refine lok_iter (fun x_ => ⟨46, mkS [(0, .x (.one (.ptr 0 0))), (1, .x (.one (.p (pi n)))), (5, .x (.one (.p (.sl 1 (List.map encI x_.1))))), (6, .x (.one (.p (pi x_.2.1))))], mkH [(0, .var [.p (.sl 1 (List.map encI x_.2.2.1)), .p (pi x_.2.2.2)])]⟩) hv_2 imp_au ?_
    · rintro ⟨out1, i, t3, t4⟩ o_1 H1 k_1
      unfold make_Tape_Mixed_l2 at H1
      try dsimp only at H1 ⊢
      refine lok_seq ?_
      refine lok_rt E0 (⟨46, mkS [(0, .x (.one (.ptr 0 0))), (1, .x (.one (.p (pi n)))), (5, .x (.one (.p (.sl 1 (List.map encI out1))))), (6, .x (.one (.p (pi i)))), (20, .x (.one (.p (.val (.bool ((decide ((0 : Int) < i)) && (decide ((0 : Int) < n))))))))], mkH [(0, .var [.p (.sl 1 (List.map encI t3)), .p (pi t4)])]⟩) ?_
      refine lok_c ((decide ((0 : Int) < i)) && (decide ((0 : Int) < n))) ?_ ?_
      · intro b_10
        replace H1 := cpos H1 b_10
        refine lok_skip ?_
        try simp only [thenL, blockL, ↓reduceIte, reduceCtorEq]
        refine lok_seq ?_
        refine lok_block ?_
        obtain ⟨⟨y4, y5⟩, h_3, H1⟩ := bind_some H1
        try dsimp only at H1
        obtain ⟨⟨y6, y7⟩, h_4, H1⟩ := bind_some H1
        try dsimp only at H1
        refine lok_rt (Env.of E0 [⟨some 27, 35, [.one (.ptr 0 0), .one (.p (pi (IntKind.i64.wrap ((out1.length : Int) + (1 : Int)))))], [.var [.p (.sl 1 (List.map encI t3)), .p (pi t4)]], [.one (.p (pi y4))], [some (.var [.p (.sl 1 (List.map encI y5.L)), .p (pi y5.At)])], True, fun _ => ok_make_Tape_Next (make_Tape.mk t3 t4) (IntKind.i64.wrap ((out1.length : Int) + (1 : Int))) (y4, y5) h_3⟩,
      ⟨some 30, 35, [.one (.ptr 0 0), .one (.p (pi n))], [.var [.p (.sl 1 (List.map encI y5.L)), .p (pi y5.At)]], [.one (.p (pi y6))], [some (.var [.p (.sl 1 (List.map encI y7.L)), .p (pi y7.At)])], True, fun _ => ok_make_Tape_Next y5 n (y6, y7) h_4⟩]) (⟨46, mkS [(0, .x (.one (.ptr 0 0))), (1, .x (.one (.p (pi n)))), (5, .x (.one (.p (.sl 1 (List.map encI out1))))), (6, .x (.one (.p (pi i)))), (7, .x (.one (.p (pi y4)))), (8, .x (.one (.p (pi y6))))], mkH [(0, .var [.p (.sl 1 (List.map encI y7.L)), .p (pi y7.At)])]⟩) ?_
        refine lok_rt E0 (⟨46, mkS [(0, .x (.one (.ptr 0 0))), (1, .x (.one (.p (pi n)))), (5, .x (.one (.p (.sl 1 (List.map encI out1))))), (6, .x (.one (.p (pi i)))), (7, .x (.one (.p (pi y4)))), (8, .x (.one (.p (pi y6)))), (9, .x (.one (.vw 109)))], mkH [(0, .var [.p (.sl 1 (List.map encI y7.L)), .p (pi y7.At)]), (109, .arr 1 (List.map encI ([] : List Int)))]⟩) ?_
        obtain ⟨⟨q_8, q_9⟩, H1⟩ := req_some H1
        refine lok_rt E0 (⟨46, mkS [(0, .x (.one (.ptr 0 0))), (1, .x (.one (.p (pi n)))), (5, .x (.one (.p (.sl 1 (List.map encI out1))))), (6, .x (.one (.p (pi i)))), (7, .x (.one (.p (pi y4)))), (8, .x (.one (.p (pi y6)))), (9, .x (.one (.vw 109)))], mkH [(0, .var [.p (.sl 1 (List.map encI y7.L)), .p (pi y7.At)]), (109, .arr 1 (List.map encI (([] : List Int) ++ (List.take y4.toNat out1))))]⟩) ?_
        obtain ⟨q_7, H1⟩ := req_some H1
        refine lok_rt E0 (⟨46, mkS [(0, .x (.one (.ptr 0 0))), (1, .x (.one (.p (pi n)))), (5, .x (.one (.p (.sl 1 (List.map encI out1))))), (6, .x (.one (.p (pi i)))), (7, .x (.one (.p (pi y4)))), (9, .x (.one (.vw 109)))], mkH [(0, .var [.p (.sl 1 (List.map encI y7.L)), .p (pi y7.At)]), (109, .arr 1 (List.map encI ((([] : List Int) ++ (List.take y4.toNat out1)) ++ [y6])))]⟩) ?_
        obtain ⟨⟨q_5, q_6⟩, H1⟩ := req_some H1
        refine lok_rl E0 (⟨46, mkS [(0, .x (.one (.ptr 0 0))), (1, .x (.one (.p (pi n)))), (5, .x (.one (.vw 109))), (6, .x (.one (.p (pi i))))], mkH [(0, .var [.p (.sl 1 (List.map encI y7.L)), .p (pi y7.At)]), (109, .arr 1 (List.map encI (((([] : List Int) ++ (List.take y4.toNat out1)) ++ [y6]) ++ (List.drop y4.toNat out1))))]⟩) ?_
        try simp only [thenL, blockL, ↓reduceIte, reduceCtorEq]
        refine lok_rl E0 (⟨46, mkS [(0, .x (.one (.ptr 0 0))), (1, .x (.one (.p (pi n)))), (5, .x (.one (.vw 109))), (6, .x (.one (.p (pi (IntKind.i64.wrap (i - (1 : Int)))))))], mkH [(0, .var [.p (.sl 1 (List.map encI y7.L)), .p (pi y7.At)]), (109, .arr 1 (List.map encI (((([] : List Int) ++ (List.take y4.toNat out1)) ++ [y6]) ++ (List.drop y4.toNat out1))))]⟩) ?_
        try simp only [thenL, blockL, ↓reduceIte, reduceCtorEq]
        exact ⟨((((([] : List Int) ++ (List.take y4.toNat out1)) ++ [y6]) ++ (List.drop y4.toNat out1)), (IntKind.i64.wrap (i - (1 : Int))), y7.L, y7.At), (Option.some.inj H1).symm, (Imp.trans (imp_frz 109 1 (List.map encI (((([] : List Int) ++ (List.take y4.toNat out1)) ++ [y6]) ++ (List.drop y4.toNat out1)))) imp_au)⟩
      · intro b_10
        replace H1 := cneg H1 b_10
        refine lok_exit ?_
        try simp only [thenL, blockL, ↓reduceIte, reduceCtorEq]
        have e_1 := k_1 _ (Option.some.inj H1).symm
        subst e_1
        try dsimp only at H0
        try simp only [thenL, blockL, ↓reduceIte, reduceCtorEq]
        exact ⟨(out1, t3, t4), H0, imp_au⟩
theorem ok_law14_AccessAnyOrder (t : List Int) (time : Int) (r_ : Bool) (H0 : law14_AccessAnyOrder t time = some r_) : CallOK Try.prog 7 [.one (.p (.sl 1 (List.map encI t))), .one (.p (pi time))] [] [.one (.p (.val (.bool r_)))] [] := by
  refine callOK (n := 94) (rs := [.tmp 4]) (nb := 0) (V := []) Try.func7 rfl (by kernel_rfl) rfl rfl rfl rfl (Nat.le_of_ble_eq_true rfl) rfl (by decide) ?_
  unfold law14_AccessAnyOrder at H0
  refine lok_rt E0 (⟨94, mkS [(0, .x (.one (.p (.sl 1 (List.map encI t))))), (1, .x (.one (.p (pi time))))], mkH []⟩) ?_
  obtain ⟨y, h_0, H0⟩ := bind_some H0
  refine lok_rt (Env.of E0 [⟨some 19, 12, [.one (.p (.sl 1 (List.map encI t)))], [], [.one (.ptr 0 0)], [some (.var [.p (.sl 1 (List.map encI y.L)), .p (pi y.At)])], True, fun _ => ok_make_New t y h_0⟩]) (⟨94, mkS [(1, .x (.one (.p (pi time)))), (5, .x (.one (.ptr 1019 0)))], mkH [(1019, .var [.p (.sl 1 (List.map encI y.L)), .p (pi y.At)])]⟩) ?_
  obtain ⟨⟨y1, y2⟩, h_1, H0⟩ := bind_some H0
  try dsimp only at H0
  obtain ⟨⟨y3, y4⟩, h_2, H0⟩ := bind_some H0
  try dsimp only at H0
  refine lok_rt (Env.of E0 [⟨some 21, 13, [.one (.ptr 0 0), .one (.p (pi (0 : Int)))], [.var [.p (.sl 1 (List.map encI y.L)), .p (pi y.At)]], [.one (.p (.sl 4 (List.map enc_api_AccessRule y1)))], [some (.var [.p (.sl 1 (List.map encI y2.L)), .p (pi y2.At)])], True, fun _ => ok_make_Tape_Rules y (0 : Int) (y1, y2) h_1⟩,
      ⟨some 23, 18, [.one (.ptr 0 0)], [.var [.p (.sl 1 (List.map encI y2.L)), .p (pi y2.At)]], [.one (.p (.sl 5 (List.map enc_api_Evidence y3)))], [some (.var [.p (.sl 1 (List.map encI y4.L)), .p (pi y4.At)])], True, fun _ => ok_make_Tape_Evidence y2 (y3, y4) h_2⟩]) (⟨94, mkS [(1, .x (.one (.p (pi time)))), (5, .x (.one (.ptr 1019 0))), (6, .x (.one (.p (.sl 4 (List.map enc_api_AccessRule y1))))), (7, .x (.one (.p (.sl 5 (List.map enc_api_Evidence y3)))))], mkH [(1019, .var [.p (.sl 1 (List.map encI y4.L)), .p (pi y4.At)])]⟩) ?_
  obtain ⟨⟨y5, y6⟩, h_3, H0⟩ := bind_some H0
  try dsimp only at H0
  obtain ⟨⟨y7, y8⟩, h_4, H0⟩ := bind_some H0
  try dsimp only at H0
  refine lok_rt (Env.of E0 [⟨some 27, 27, [.one (.ptr 0 0), .one (.p (pi (y1.length : Int)))], [.var [.p (.sl 1 (List.map encI y4.L)), .p (pi y4.At)]], [.one (.p (.sl 1 (List.map encI y5)))], [some (.var [.p (.sl 1 (List.map encI y6.L)), .p (pi y6.At)])], True, fun _ => ok_make_Tape_Order y4 (y1.length : Int) (y5, y6) h_3⟩,
      ⟨some 31, 28, [.one (.ptr 0 0), .one (.p (pi (y3.length : Int)))], [.var [.p (.sl 1 (List.map encI y6.L)), .p (pi y6.At)]], [.one (.p (.sl 1 (List.map encI y7)))], [some (.var [.p (.sl 1 (List.map encI y8.L)), .p (pi y8.At)])], True, fun _ => ok_make_Tape_Mixed y6 (y3.length : Int) (y7, y8) h_4⟩]) (⟨94, mkS [(1, .x (.one (.p (pi time)))), (6, .x (.one (.p (.sl 4 (List.map enc_api_AccessRule y1))))), (7, .x (.one (.p (.sl 5 (List.map enc_api_Evidence y3))))), (8, .x (.one (.p (.sl 1 (List.map encI y5))))), (9, .x (.one (.p (.sl 1 (List.map encI y7)))))], mkH []⟩) ?_
  obtain ⟨y9, h_5, H0⟩ := bind_some H0
  refine lok_rt (Env.of E0 [⟨some 33, 17, [.one (.p (pi time)), .one (.p (pi (30 : Int)))], [], [.one (.p (pi y9))], [], True, fun _ => ok_make_Cut time (30 : Int) y9 h_5⟩]) (⟨94, mkS [(1, .x (.one (.p (pi y9)))), (6, .x (.one (.p (.sl 4 (List.map enc_api_AccessRule y1))))), (7, .x (.one (.p (.sl 5 (List.map enc_api_Evidence y3))))), (8, .x (.one (.p (.sl 1 (List.map encI y5))))), (9, .x (.one (.p (.sl 1 (List.map encI y7)))))], mkH []⟩) ?_
  refine lok_rt E0 (⟨94, mkS [(1, .x (.one (.p (pi y9)))), (6, .x (.one (.p (.sl 4 (List.map enc_api_AccessRule y1))))), (7, .x (.one (.p (.sl 5 (List.map enc_api_Evidence y3))))), (8, .x (.one (.p (.sl 1 (List.map encI y5))))), (9, .x (.one (.p (.sl 1 (List.map encI y7))))), (10, .x (.one (.vw 110)))], mkH [(110, .arr 4 (List.map enc_api_AccessRule ([] : List api_AccessRule)))]⟩) ?_
  refine lok_rt E0 (⟨94, mkS [(1, .x (.one (.p (pi y9)))), (6, .x (.one (.p (.sl 4 (List.map enc_api_AccessRule y1))))), (7, .x (.one (.p (.sl 5 (List.map enc_api_Evidence y3))))), (8, .x (.one (.p (.sl 1 (List.map encI y5))))), (9, .x (.one (.p (.sl 1 (List.map encI y7))))), (10, .x (.one (.vw 110))), (11, .x (.one (.vw 111)))], mkH [(110, .arr 4 (List.map enc_api_AccessRule ([] : List api_AccessRule))), (111, .arr 5 (List.map enc_api_Evidence ([] : List api_Evidence)))]⟩) ?_
  refine lok_join (fun x_ : (List api_AccessRule) => law14_AccessAnyOrder_j3 y1 y3 y7 y9 x_ = some r_) (fun x_ => ⟨94, mkS [(1, .x (.one (.p (pi y9)))), (6, .x (.one (.p (.sl 4 (List.map enc_api_AccessRule y1))))), (7, .x (.one (.p (.sl 5 (List.map enc_api_Evidence y3))))), (9, .x (.one (.p (.sl 1 (List.map encI y7))))), (10, .x (.one (.vw 110))), (11, .x (.one (.vw 111)))], mkH [(110, .arr 4 (List.map enc_api_AccessRule x_)), (111, .arr 5 (List.map enc_api_Evidence ([] : List api_Evidence)))]⟩) ?hylaw14_AccessAnyOrder_j3 ?hxlaw14_AccessAnyOrder_j3
  case hylaw14_AccessAnyOrder_j3 =>
    rintro m H0
    try dsimp only at H0 ⊢
    unfold law14_AccessAnyOrder_j3 at H0
    refine lok_join (fun x_ : (List api_Evidence) => law14_AccessAnyOrder_j1 y1 y3 y9 m x_ = some r_) (fun x_ => ⟨94, mkS [(1, .x (.one (.p (pi y9)))), (6, .x (.one (.p (.sl 4 (List.map enc_api_AccessRule y1))))), (7, .x (.one (.p (.sl 5 (List.map enc_api_Evidence y3))))), (10, .x (.one (.vw 110))), (11, .x (.one (.vw 111)))], mkH [(110, .arr 4 (List.map enc_api_AccessRule m)), (111, .arr 5 (List.map enc_api_Evidence x_))]⟩) ?hylaw14_AccessAnyOrder_j1 ?hxlaw14_AccessAnyOrder_j1
    case hylaw14_AccessAnyOrder_j1 =>
      rintro n H0
      try dsimp only at H0 ⊢
      unfold law14_AccessAnyOrder_j1 at H0
      obtain ⟨⟨y10, y11⟩, h_6, H0⟩ := bind_some H0
      try dsimp only at H0
      refine lok_rt (Env.of E0 [⟨some 70, 19, [.one (.p (.sl 4 (List.map enc_api_AccessRule y1))), .one (.p (.sl 5 (List.map enc_api_Evidence y3))), .one (.p (pi (0 : Int))), .one (.p (pi y9))], [], [.agg [.p (pi y10.Extra), .p (pi y10.Needs)], .one (.p (pi y11))], [], True, fun _ => ok_access_Grant y1 y3 (0 : Int) y9 (y10, y11) h_6⟩]) (⟨94, mkS [(1, .x (.one (.p (pi y9)))), (10, .x (.one (.vw 110))), (11, .x (.one (.vw 111))), (14, .x (.one (.ptr 114 0))), (15, .x (.one (.p (pi y11))))], mkH [(110, .arr 4 (List.map enc_api_AccessRule m)), (111, .arr 5 (List.map enc_api_Evidence n)), (114, .var [.p (pi y10.Extra), .p (pi y10.Needs)])]⟩) ?_
      obtain ⟨⟨y12, y13⟩, h_7, H0⟩ := bind_some H0
      try dsimp only at H0
      refine lok_rt (Env.of E0 [⟨some 77, 19, [.one (.p (.sl 4 (List.map enc_api_AccessRule m))), .one (.p (.sl 5 (List.map enc_api_Evidence n))), .one (.p (pi (0 : Int))), .one (.p (pi y9))], [], [.agg [.p (pi y12.Extra), .p (pi y12.Needs)], .one (.p (pi y13))], [], True, fun _ => ok_access_Grant m n (0 : Int) y9 (y12, y13) h_7⟩]) (⟨94, mkS [(14, .x (.one (.ptr 114 0))), (15, .x (.one (.p (pi y11)))), (16, .x (.one (.ptr 116 0))), (17, .x (.one (.p (pi y13))))], mkH [(114, .var [.p (pi y10.Extra), .p (pi y10.Needs)]), (116, .var [.p (pi y12.Extra), .p (pi y12.Needs)])]⟩) ?_
      obtain ⟨q_8, H0⟩ := req_some H0
      refine lok_rt (Env.of E0 [⟨some 92, 16, [], [], [.one (.p (.val (.bool ((law14_awake).getD default))))], [], (law14_awake).isSome = true, fun h => ok_law14_awake _ (isSome_get h)⟩]) (⟨94, mkS [(4, .x (.one (.p (.val (.bool ((((y11 == (0 : Int)) && (y13 == (0 : Int))) && ((y10.Extra == y12.Extra) && (y10.Needs == y12.Needs))) && ((law14_awake).getD default)))))))], mkH []⟩) ?_
      refine lok_ret ?_
      obtain rfl := Option.some.inj H0
      try simp only [thenL, blockL]
      exact fin_au _ (.inr rfl) [] (⟨94, mkS [(4, .x (.one (.p (.val (.bool ((((y11 == (0 : Int)) && (y13 == (0 : Int))) && ((y10.Extra == y12.Extra) && (y10.Needs == y12.Needs))) && ((law14_awake).getD default)))))))], mkH []⟩) rfl rfl imp_au
    case hxlaw14_AccessAnyOrder_j1 =>
      refine lok_rt E0 (⟨94, mkS [(1, .x (.one (.p (pi y9)))), (6, .x (.one (.p (.sl 4 (List.map enc_api_AccessRule y1))))), (7, .x (.one (.p (.sl 5 (List.map enc_api_Evidence y3))))), (9, .x (.one (.p (.sl 1 (List.map encI y7))))), (10, .x (.one (.vw 110))), (11, .x (.one (.vw 111))), (13, .x (.one (.p (pi (0 : Int)))))], mkH [(110, .arr 4 (List.map enc_api_AccessRule m)), (111, .arr 5 (List.map enc_api_Evidence ([] : List api_Evidence)))]⟩) ?_
      refine lok_block ?_
      obtain ⟨v_9, hv_9, H0⟩ := bind_some H0
      refine lok_iter (fun x_ => ⟨94, mkS [(1, .x (.one (.p (pi y9)))), (6, .x (.one (.p (.sl 4 (List.map enc_api_AccessRule y1))))), (7, .x (.one (.p (.sl 5 (List.map enc_api_Evidence y3))))), (9, .x (.one (.p (.sl 1 (List.map encI y7))))), (10, .x (.one (.vw 110))), (11, .x (.one (.vw 111))), (13, .x (.one (.p (pi x_.1))))], mkH [(110, .arr 4 (List.map enc_api_AccessRule m)), (111, .arr 5 (List.map enc_api_Evidence x_.2))]⟩) hv_9 imp_au ?_
      · rintro ⟨i, n1⟩ o_1 H1 k_1
        unfold law14_AccessAnyOrder_l2 at H1
        try dsimp only at H1 ⊢
        refine lok_seq ?_
        refine lok_rt E0 (⟨94, mkS [(1, .x (.one (.p (pi y9)))), (6, .x (.one (.p (.sl 4 (List.map enc_api_AccessRule y1))))), (7, .x (.one (.p (.sl 5 (List.map enc_api_Evidence y3))))), (9, .x (.one (.p (.sl 1 (List.map encI y7))))), (10, .x (.one (.vw 110))), (11, .x (.one (.vw 111))), (13, .x (.one (.p (pi i)))), (53, .x (.one (.p (.val (.bool (decide (i < (y7.length : Int))))))))], mkH [(110, .arr 4 (List.map enc_api_AccessRule m)), (111, .arr 5 (List.map enc_api_Evidence n1))]⟩) ?_
        refine lok_c (decide (i < (y7.length : Int))) ?_ ?_
        · intro b_13
          replace H1 := cpos H1 b_13
          refine lok_skip ?_
          try simp only [thenL, blockL, ↓reduceIte, reduceCtorEq]
          refine lok_seq ?_
          refine lok_block ?_
          obtain ⟨⟨q_10, q_11, q_12⟩, H1⟩ := req_some H1
          refine lok_rl E0 (⟨94, mkS [(1, .x (.one (.p (pi y9)))), (6, .x (.one (.p (.sl 4 (List.map enc_api_AccessRule y1))))), (7, .x (.one (.p (.sl 5 (List.map enc_api_Evidence y3))))), (9, .x (.one (.p (.sl 1 (List.map encI y7))))), (10, .x (.one (.vw 110))), (11, .x (.one (.vw 111))), (13, .x (.one (.p (pi i))))], mkH [(110, .arr 4 (List.map enc_api_AccessRule m)), (111, .arr 5 (List.map enc_api_Evidence (n1 ++ [(ix y3 (ix y7 i))])))]⟩) ?_
          try simp only [thenL, blockL, ↓reduceIte, reduceCtorEq]
          refine lok_rl E0 (⟨94, mkS [(1, .x (.one (.p (pi y9)))), (6, .x (.one (.p (.sl 4 (List.map enc_api_AccessRule y1))))), (7, .x (.one (.p (.sl 5 (List.map enc_api_Evidence y3))))), (9, .x (.one (.p (.sl 1 (List.map encI y7))))), (10, .x (.one (.vw 110))), (11, .x (.one (.vw 111))), (13, .x (.one (.p (pi (IntKind.i64.wrap (i + (1 : Int)))))))], mkH [(110, .arr 4 (List.map enc_api_AccessRule m)), (111, .arr 5 (List.map enc_api_Evidence (n1 ++ [(ix y3 (ix y7 i))])))]⟩) ?_
          try simp only [thenL, blockL, ↓reduceIte, reduceCtorEq]
          exact ⟨((IntKind.i64.wrap (i + (1 : Int))), (n1 ++ [(ix y3 (ix y7 i))])), (Option.some.inj H1).symm, imp_au⟩
        · intro b_13
          replace H1 := cneg H1 b_13
          refine lok_exit ?_
          try simp only [thenL, blockL, ↓reduceIte, reduceCtorEq]
          have e_1 := k_1 _ (Option.some.inj H1).symm
          subst e_1
          try dsimp only at H0
          try simp only [thenL, blockL, ↓reduceIte, reduceCtorEq]
          exact ⟨n1, H0, imp_au⟩
  case hxlaw14_AccessAnyOrder_j3 =>
    refine lok_rt E0 (⟨94, mkS [(1, .x (.one (.p (pi y9)))), (6, .x (.one (.p (.sl 4 (List.map enc_api_AccessRule y1))))), (7, .x (.one (.p (.sl 5 (List.map enc_api_Evidence y3))))), (8, .x (.one (.p (.sl 1 (List.map encI y5))))), (9, .x (.one (.p (.sl 1 (List.map encI y7))))), (10, .x (.one (.vw 110))), (11, .x (.one (.vw 111))), (12, .x (.one (.p (pi (0 : Int)))))], mkH [(110, .arr 4 (List.map enc_api_AccessRule ([] : List api_AccessRule))), (111, .arr 5 (List.map enc_api_Evidence ([] : List api_Evidence)))]⟩) ?_
    refine lok_block ?_
    obtain ⟨v_14, hv_14, H0⟩ := bind_some H0
    refine lok_iter (fun x_ => ⟨94, mkS [(1, .x (.one (.p (pi y9)))), (6, .x (.one (.p (.sl 4 (List.map enc_api_AccessRule y1))))), (7, .x (.one (.p (.sl 5 (List.map enc_api_Evidence y3))))), (8, .x (.one (.p (.sl 1 (List.map encI y5))))), (9, .x (.one (.p (.sl 1 (List.map encI y7))))), (10, .x (.one (.vw 110))), (11, .x (.one (.vw 111))), (12, .x (.one (.p (pi x_.1))))], mkH [(110, .arr 4 (List.map enc_api_AccessRule x_.2)), (111, .arr 5 (List.map enc_api_Evidence ([] : List api_Evidence)))]⟩) hv_14 imp_au ?_
    · rintro ⟨i1, m1⟩ o_1 H1 k_1
      unfold law14_AccessAnyOrder_l4 at H1
      try dsimp only at H1 ⊢
      refine lok_seq ?_
      refine lok_rt E0 (⟨94, mkS [(1, .x (.one (.p (pi y9)))), (6, .x (.one (.p (.sl 4 (List.map enc_api_AccessRule y1))))), (7, .x (.one (.p (.sl 5 (List.map enc_api_Evidence y3))))), (8, .x (.one (.p (.sl 1 (List.map encI y5))))), (9, .x (.one (.p (.sl 1 (List.map encI y7))))), (10, .x (.one (.vw 110))), (11, .x (.one (.vw 111))), (12, .x (.one (.p (pi i1)))), (37, .x (.one (.p (.val (.bool (decide (i1 < (y5.length : Int))))))))], mkH [(110, .arr 4 (List.map enc_api_AccessRule m1)), (111, .arr 5 (List.map enc_api_Evidence ([] : List api_Evidence)))]⟩) ?_
      refine lok_c (decide (i1 < (y5.length : Int))) ?_ ?_
      · intro b_18
        replace H1 := cpos H1 b_18
        refine lok_skip ?_
        try simp only [thenL, blockL, ↓reduceIte, reduceCtorEq]
        refine lok_seq ?_
        refine lok_block ?_
        obtain ⟨⟨q_15, q_16, q_17⟩, H1⟩ := req_some H1
        refine lok_rl E0 (⟨94, mkS [(1, .x (.one (.p (pi y9)))), (6, .x (.one (.p (.sl 4 (List.map enc_api_AccessRule y1))))), (7, .x (.one (.p (.sl 5 (List.map enc_api_Evidence y3))))), (8, .x (.one (.p (.sl 1 (List.map encI y5))))), (9, .x (.one (.p (.sl 1 (List.map encI y7))))), (10, .x (.one (.vw 110))), (11, .x (.one (.vw 111))), (12, .x (.one (.p (pi i1))))], mkH [(110, .arr 4 (List.map enc_api_AccessRule (m1 ++ [(ix y1 (ix y5 i1))]))), (111, .arr 5 (List.map enc_api_Evidence ([] : List api_Evidence)))]⟩) ?_
        try simp only [thenL, blockL, ↓reduceIte, reduceCtorEq]
        refine lok_rl E0 (⟨94, mkS [(1, .x (.one (.p (pi y9)))), (6, .x (.one (.p (.sl 4 (List.map enc_api_AccessRule y1))))), (7, .x (.one (.p (.sl 5 (List.map enc_api_Evidence y3))))), (8, .x (.one (.p (.sl 1 (List.map encI y5))))), (9, .x (.one (.p (.sl 1 (List.map encI y7))))), (10, .x (.one (.vw 110))), (11, .x (.one (.vw 111))), (12, .x (.one (.p (pi (IntKind.i64.wrap (i1 + (1 : Int)))))))], mkH [(110, .arr 4 (List.map enc_api_AccessRule (m1 ++ [(ix y1 (ix y5 i1))]))), (111, .arr 5 (List.map enc_api_Evidence ([] : List api_Evidence)))]⟩) ?_
        try simp only [thenL, blockL, ↓reduceIte, reduceCtorEq]
        exact ⟨((IntKind.i64.wrap (i1 + (1 : Int))), (m1 ++ [(ix y1 (ix y5 i1))])), (Option.some.inj H1).symm, imp_au⟩
      · intro b_18
        replace H1 := cneg H1 b_18
        refine lok_exit ?_
        try simp only [thenL, blockL, ↓reduceIte, reduceCtorEq]
        have e_1 := k_1 _ (Option.some.inj H1).symm
        subst e_1
        try dsimp only at H0
        try simp only [thenL, blockL, ↓reduceIte, reduceCtorEq]
        exact ⟨m1, H0, imp_au⟩
theorem ok_law14_AccessOthers (t : List Int) (time : Int) (r_ : Bool) (H0 : law14_AccessOthers t time = some r_) : CallOK Try.prog 9 [.one (.p (.sl 1 (List.map encI t))), .one (.p (pi time))] [] [.one (.p (.val (.bool r_)))] [] := by
  refine callOK (n := 66) (rs := [.tmp 4]) (nb := 0) (V := []) Try.func9 rfl (by kernel_rfl) rfl rfl rfl rfl (Nat.le_of_ble_eq_true rfl) rfl (by decide) ?_
  unfold law14_AccessOthers at H0
  refine lok_rt E0 (⟨66, mkS [(0, .x (.one (.p (.sl 1 (List.map encI t))))), (1, .x (.one (.p (pi time))))], mkH []⟩) ?_
  obtain ⟨y, h_0, H0⟩ := bind_some H0
  refine lok_rt (Env.of E0 [⟨some 14, 12, [.one (.p (.sl 1 (List.map encI t)))], [], [.one (.ptr 0 0)], [some (.var [.p (.sl 1 (List.map encI y.L)), .p (pi y.At)])], True, fun _ => ok_make_New t y h_0⟩]) (⟨66, mkS [(1, .x (.one (.p (pi time)))), (5, .x (.one (.ptr 1014 0)))], mkH [(1014, .var [.p (.sl 1 (List.map encI y.L)), .p (pi y.At)])]⟩) ?_
  obtain ⟨⟨y1, y2⟩, h_1, H0⟩ := bind_some H0
  try dsimp only at H0
  obtain ⟨⟨y3, y4⟩, h_2, H0⟩ := bind_some H0
  try dsimp only at H0
  refine lok_rt (Env.of E0 [⟨some 16, 13, [.one (.ptr 0 0), .one (.p (pi (0 : Int)))], [.var [.p (.sl 1 (List.map encI y.L)), .p (pi y.At)]], [.one (.p (.sl 4 (List.map enc_api_AccessRule y1)))], [some (.var [.p (.sl 1 (List.map encI y2.L)), .p (pi y2.At)])], True, fun _ => ok_make_Tape_Rules y (0 : Int) (y1, y2) h_1⟩,
      ⟨some 18, 18, [.one (.ptr 0 0)], [.var [.p (.sl 1 (List.map encI y2.L)), .p (pi y2.At)]], [.one (.p (.sl 5 (List.map enc_api_Evidence y3)))], [some (.var [.p (.sl 1 (List.map encI y4.L)), .p (pi y4.At)])], True, fun _ => ok_make_Tape_Evidence y2 (y3, y4) h_2⟩]) (⟨66, mkS [(1, .x (.one (.p (pi time)))), (6, .x (.one (.p (.sl 4 (List.map enc_api_AccessRule y1))))), (7, .x (.one (.p (.sl 5 (List.map enc_api_Evidence y3)))))], mkH []⟩) ?_
  obtain ⟨y5, h_3, H0⟩ := bind_some H0
  refine lok_rt (Env.of E0 [⟨some 20, 17, [.one (.p (pi time)), .one (.p (pi (30 : Int)))], [], [.one (.p (pi y5))], [], True, fun _ => ok_make_Cut time (30 : Int) y5 h_3⟩]) (⟨66, mkS [(1, .x (.one (.p (pi y5)))), (6, .x (.one (.p (.sl 4 (List.map enc_api_AccessRule y1))))), (7, .x (.one (.p (.sl 5 (List.map enc_api_Evidence y3)))))], mkH []⟩) ?_
  obtain ⟨⟨q_7, q_8⟩, H0⟩ := req_some H0
  refine lok_rt E0 (⟨66, mkS [(1, .x (.one (.p (pi y5)))), (6, .x (.one (.p (.sl 4 (List.map enc_api_AccessRule y1))))), (7, .x (.one (.p (.sl 5 (List.map enc_api_Evidence y3))))), (8, .x (.one (.p (.sl 5 (List.map enc_api_Evidence (y3 ++ [(api_Evidence.mk (1 : Int) (1 : Int) (9 : Int) (0 : Int) (99 : Int)), (api_Evidence.mk (0 : Int) (1 : Int) (9 : Int) (IntKind.i64.wrap (y5 + (1 : Int))) (99 : Int)), (api_Evidence.mk (0 : Int) (1 : Int) (10 : Int) (0 : Int) (99 : Int)), (api_Evidence.mk (0 : Int) (10 : Int) (9 : Int) (0 : Int) (99 : Int)), (api_Evidence.mk (0 : Int) (1 : Int) (9 : Int) (-9 : Int) (IntKind.i64.wrap (y5 - (1 : Int))))]))))))], mkH []⟩) ?_
  obtain ⟨⟨y6, y7⟩, h_4, H0⟩ := bind_some H0
  try dsimp only at H0
  refine lok_rt (Env.of E0 [⟨some 42, 19, [.one (.p (.sl 4 (List.map enc_api_AccessRule y1))), .one (.p (.sl 5 (List.map enc_api_Evidence y3))), .one (.p (pi (0 : Int))), .one (.p (pi y5))], [], [.agg [.p (pi y6.Extra), .p (pi y6.Needs)], .one (.p (pi y7))], [], True, fun _ => ok_access_Grant y1 y3 (0 : Int) y5 (y6, y7) h_4⟩]) (⟨66, mkS [(1, .x (.one (.p (pi y5)))), (6, .x (.one (.p (.sl 4 (List.map enc_api_AccessRule y1))))), (8, .x (.one (.p (.sl 5 (List.map enc_api_Evidence (y3 ++ [(api_Evidence.mk (1 : Int) (1 : Int) (9 : Int) (0 : Int) (99 : Int)), (api_Evidence.mk (0 : Int) (1 : Int) (9 : Int) (IntKind.i64.wrap (y5 + (1 : Int))) (99 : Int)), (api_Evidence.mk (0 : Int) (1 : Int) (10 : Int) (0 : Int) (99 : Int)), (api_Evidence.mk (0 : Int) (10 : Int) (9 : Int) (0 : Int) (99 : Int)), (api_Evidence.mk (0 : Int) (1 : Int) (9 : Int) (-9 : Int) (IntKind.i64.wrap (y5 - (1 : Int))))])))))), (9, .x (.one (.ptr 109 0))), (10, .x (.one (.p (pi y7))))], mkH [(109, .var [.p (pi y6.Extra), .p (pi y6.Needs)])]⟩) ?_
  obtain ⟨⟨y8, y9⟩, h_5, H0⟩ := bind_some H0
  try dsimp only at H0
  refine lok_rt (Env.of E0 [⟨some 49, 19, [.one (.p (.sl 4 (List.map enc_api_AccessRule y1))), .one (.p (.sl 5 (List.map enc_api_Evidence (y3 ++ [(api_Evidence.mk (1 : Int) (1 : Int) (9 : Int) (0 : Int) (99 : Int)), (api_Evidence.mk (0 : Int) (1 : Int) (9 : Int) (IntKind.i64.wrap (y5 + (1 : Int))) (99 : Int)), (api_Evidence.mk (0 : Int) (1 : Int) (10 : Int) (0 : Int) (99 : Int)), (api_Evidence.mk (0 : Int) (10 : Int) (9 : Int) (0 : Int) (99 : Int)), (api_Evidence.mk (0 : Int) (1 : Int) (9 : Int) (-9 : Int) (IntKind.i64.wrap (y5 - (1 : Int))))])))), .one (.p (pi (0 : Int))), .one (.p (pi y5))], [], [.agg [.p (pi y8.Extra), .p (pi y8.Needs)], .one (.p (pi y9))], [], True, fun _ => ok_access_Grant y1 (y3 ++ [(api_Evidence.mk (1 : Int) (1 : Int) (9 : Int) (0 : Int) (99 : Int)), (api_Evidence.mk (0 : Int) (1 : Int) (9 : Int) (IntKind.i64.wrap (y5 + (1 : Int))) (99 : Int)), (api_Evidence.mk (0 : Int) (1 : Int) (10 : Int) (0 : Int) (99 : Int)), (api_Evidence.mk (0 : Int) (10 : Int) (9 : Int) (0 : Int) (99 : Int)), (api_Evidence.mk (0 : Int) (1 : Int) (9 : Int) (-9 : Int) (IntKind.i64.wrap (y5 - (1 : Int))))]) (0 : Int) y5 (y8, y9) h_5⟩]) (⟨66, mkS [(9, .x (.one (.ptr 109 0))), (10, .x (.one (.p (pi y7)))), (11, .x (.one (.ptr 111 0))), (12, .x (.one (.p (pi y9))))], mkH [(109, .var [.p (pi y6.Extra), .p (pi y6.Needs)]), (111, .var [.p (pi y8.Extra), .p (pi y8.Needs)])]⟩) ?_
  obtain ⟨q_6, H0⟩ := req_some H0
  refine lok_rt (Env.of E0 [⟨some 64, 16, [], [], [.one (.p (.val (.bool ((law14_awake).getD default))))], [], (law14_awake).isSome = true, fun h => ok_law14_awake _ (isSome_get h)⟩]) (⟨66, mkS [(4, .x (.one (.p (.val (.bool ((((y7 == (0 : Int)) && (y9 == (0 : Int))) && ((y6.Extra == y8.Extra) && (y6.Needs == y8.Needs))) && ((law14_awake).getD default)))))))], mkH []⟩) ?_
  refine lok_ret ?_
  obtain rfl := Option.some.inj H0
  try simp only [thenL, blockL]
  exact fin_au _ (.inr rfl) [] (⟨66, mkS [(4, .x (.one (.p (.val (.bool ((((y7 == (0 : Int)) && (y9 == (0 : Int))) && ((y6.Extra == y8.Extra) && (y6.Needs == y8.Needs))) && ((law14_awake).getD default)))))))], mkH []⟩) rfl rfl imp_au
theorem ok_access_Join (a : api_Access) (b : api_Access) (r_ : api_Access) (H0 : access_Join a b = some r_) : CallOK Try.prog 30 [.agg [.p (pi a.Extra), .p (pi a.Needs)], .agg [.p (pi b.Extra), .p (pi b.Needs)]] [] [.agg [.p (pi r_.Extra), .p (pi r_.Needs)]] [] := by
  refine callOK (n := 18) (rs := [.cell 4 38]) (nb := 0) (V := []) Try.func30 rfl (by kernel_rfl) rfl rfl rfl rfl (Nat.le_of_ble_eq_true rfl) rfl (by decide) ?_
  unfold access_Join at H0
  refine lok_rt E0 (⟨18, mkS [(2, .x (.one (.ptr 102 0))), (3, .x (.one (.ptr 103 0))), (4, .x (.one (.ptr 104 0)))], mkH [(102, .var [.p (pi a.Extra), .p (pi a.Needs)]), (103, .var [.p (pi b.Extra), .p (pi b.Needs)]), (104, .var [.p (pi (0 : Int)), .p (pi (0 : Int))])]⟩) ?_
  refine lok_seq ?_
  obtain ⟨y, h_0, H0⟩ := bind_some H0
  obtain ⟨q_3, H0⟩ := req_some H0
  refine lok_rt (Env.of E0 [⟨some 6, 39, [.agg [.p (pi a.Extra), .p (pi a.Needs)]], [], [.one (.p (.val (.bool y)))], [], True, fun _ => ok_access_valid a y h_0⟩,
      ⟨some 10, 39, [.agg [.p (pi b.Extra), .p (pi b.Needs)]], [], [.one (.p (.val (.bool ((access_valid b).getD default))))], [], (access_valid b).isSome = true, fun h => ok_access_valid b _ (isSome_get h)⟩]) (⟨18, mkS [(2, .x (.one (.ptr 102 0))), (3, .x (.one (.ptr 103 0))), (4, .x (.one (.ptr 104 0))), (12, .x (.one (.p (.val (.bool ((!y) || (!((access_valid b).getD default))))))))], mkH [(102, .var [.p (pi a.Extra), .p (pi a.Needs)]), (103, .var [.p (pi b.Extra), .p (pi b.Needs)]), (104, .var [.p (pi (0 : Int)), .p (pi (0 : Int))])]⟩) ?_
  refine lok_c ((!y) || (!((access_valid b).getD default))) ?_ ?_
  · intro b_2
    replace H0 := cpos H0 b_2
    refine lok_rt E0 (⟨18, mkS [(4, .x (.one (.ptr 104 0)))], mkH [(104, .var [.p (pi (0 : Int)), .p (pi (0 : Int))])]⟩) ?_
    refine lok_ret ?_
    obtain rfl := Option.some.inj H0
    try simp only [thenL, blockL]
    exact fin_au _ (.inr rfl) [] (⟨18, mkS [(4, .x (.one (.ptr 104 0)))], mkH [(104, .var [.p (pi (0 : Int)), .p (pi (0 : Int))])]⟩) rfl rfl imp_au
  · intro b_2
    replace H0 := cneg H0 b_2
    refine lok_skip ?_
    try simp only [thenL, blockL, ↓reduceIte, reduceCtorEq]
    obtain ⟨y1, h_1, H0⟩ := bind_some H0
    refine lok_rt (Env.of E0 [⟨some 17, 43, [.one (.p (.sl 2 (List.map enc_api_Access ([a, b]))))], [], [.agg [.p (pi y1.Extra), .p (pi y1.Needs)]], [], True, fun _ => ok_access_joined ([a, b]) y1 h_1⟩]) (⟨18, mkS [(4, .x (.one (.ptr 104 0)))], mkH [(104, .var [.p (pi y1.Extra), .p (pi y1.Needs)])]⟩) ?_
    refine lok_ret ?_
    obtain rfl := Option.some.inj H0
    try simp only [thenL, blockL]
    exact fin_au _ (.inr rfl) [] (⟨18, mkS [(4, .x (.one (.ptr 104 0)))], mkH [(104, .var [.p (pi y1.Extra), .p (pi y1.Needs)])]⟩) rfl rfl imp_au
theorem ok_make_Tape_Access (t : make_Tape) (n : Int) (r_ : api_Access × make_Tape) (H0 : make_Tape_Access t n = some r_) : CallOK Try.prog 34 [.one (.ptr 0 0), .one (.p (pi n))] [.var [.p (.sl 1 (List.map encI t.L)), .p (pi t.At)]] [.agg [.p (pi r_.1.Extra), .p (pi r_.1.Needs)]] [some (.var [.p (.sl 1 (List.map encI r_.2.L)), .p (pi r_.2.At)])] := by
  refine callOK (n := 17) (rs := [.cell 4 38]) (nb := 1) (V := [0]) Try.func34 rfl (by kernel_rfl) rfl rfl rfl rfl (Nat.le_of_ble_eq_true rfl) rfl (by decide) ?_
  unfold make_Tape_Access at H0
  refine lok_rt E0 (⟨17, mkS [(0, .x (.one (.ptr 0 0))), (1, .x (.one (.p (pi n)))), (4, .x (.one (.ptr 104 0)))], mkH [(0, .var [.p (.sl 1 (List.map encI t.L)), .p (pi t.At)]), (104, .var [.p (pi (0 : Int)), .p (pi (0 : Int))])]⟩) ?_
  obtain ⟨⟨y, y1⟩, h_0, H0⟩ := bind_some H0
  try dsimp only at H0
  obtain ⟨⟨y2, y3⟩, h_1, H0⟩ := bind_some H0
  try dsimp only at H0
  obtain ⟨⟨y4, y5⟩, h_2, H0⟩ := bind_some H0
  try dsimp only at H0
  obtain ⟨⟨y6, y7⟩, h_3, H0⟩ := bind_some H0
  try dsimp only at H0
  refine lok_rt (Env.of E0 [⟨some 8, 36, [.one (.ptr 0 0), .one (.p (.sl 1 (List.map encI ([(0 : Int), (5 : Int), (25 : Int), (26 : Int), (50 : Int), (100 : Int)]))))], [.var [.p (.sl 1 (List.map encI t.L)), .p (pi t.At)]], [.one (.p (pi y))], [some (.var [.p (.sl 1 (List.map encI y1.L)), .p (pi y1.At)])], True, fun _ => ok_make_Tape_Pick t ([(0 : Int), (5 : Int), (25 : Int), (26 : Int), (50 : Int), (100 : Int)]) (y, y1) h_0⟩,
      ⟨some 10, 42, [.one (.ptr 0 0), .one (.p (pi y)), .one (.p (pi n))], [.var [.p (.sl 1 (List.map encI y1.L)), .p (pi y1.At)]], [.one (.p (pi y2))], [some (.var [.p (.sl 1 (List.map encI y3.L)), .p (pi y3.At)])], True, fun _ => ok_make_Tape_Spoil y1 y n (y2, y3) h_1⟩,
      ⟨some 13, 24, [.one (.ptr 0 0), .one (.p (pi (0 : Int))), .one (.p (pi (63 : Int)))], [.var [.p (.sl 1 (List.map encI y3.L)), .p (pi y3.At)]], [.one (.p (pi y4))], [some (.var [.p (.sl 1 (List.map encI y5.L)), .p (pi y5.At)])], True, fun _ => ok_make_Tape_Range y3 (0 : Int) (63 : Int) (y4, y5) h_2⟩,
      ⟨some 15, 42, [.one (.ptr 0 0), .one (.p (pi y4)), .one (.p (pi n))], [.var [.p (.sl 1 (List.map encI y5.L)), .p (pi y5.At)]], [.one (.p (pi y6))], [some (.var [.p (.sl 1 (List.map encI y7.L)), .p (pi y7.At)])], True, fun _ => ok_make_Tape_Spoil y5 y4 n (y6, y7) h_3⟩]) (⟨17, mkS [(4, .x (.one (.ptr 104 0)))], mkH [(0, .var [.p (.sl 1 (List.map encI y7.L)), .p (pi y7.At)]), (104, .var [.p (pi y2), .p (pi y6)])]⟩) ?_
  refine lok_ret ?_
  obtain rfl := Option.some.inj H0
  try simp only [thenL, blockL]
  exact fin_au _ (.inr rfl) [0] (⟨17, mkS [(4, .x (.one (.ptr 104 0)))], mkH [(0, .var [.p (.sl 1 (List.map encI y7.L)), .p (pi y7.At)]), (104, .var [.p (pi y2), .p (pi y6)])]⟩) rfl rfl imp_au
theorem ok_law14_AccessAlgebra (t : List Int) (r_ : Bool) (H0 : law14_AccessAlgebra t = some r_) : CallOK Try.prog 11 [.one (.p (.sl 1 (List.map encI t)))] [] [.one (.p (.val (.bool r_)))] [] := by
  refine callOK (n := 66) (rs := [.tmp 2]) (nb := 0) (V := []) Try.func11 rfl (by kernel_rfl) rfl rfl rfl rfl (Nat.le_of_ble_eq_true rfl) rfl (by decide) ?_
  unfold law14_AccessAlgebra at H0
  refine lok_rt E0 (⟨66, mkS [(0, .x (.one (.p (.sl 1 (List.map encI t)))))], mkH []⟩) ?_
  obtain ⟨y, h_0, H0⟩ := bind_some H0
  refine lok_rt (Env.of E0 [⟨some 9, 12, [.one (.p (.sl 1 (List.map encI t)))], [], [.one (.ptr 0 0)], [some (.var [.p (.sl 1 (List.map encI y.L)), .p (pi y.At)])], True, fun _ => ok_make_New t y h_0⟩]) (⟨66, mkS [(3, .x (.one (.ptr 1009 0)))], mkH [(1009, .var [.p (.sl 1 (List.map encI y.L)), .p (pi y.At)])]⟩) ?_
  obtain ⟨⟨y1, y2⟩, h_1, H0⟩ := bind_some H0
  try dsimp only at H0
  obtain ⟨⟨y3, y4⟩, h_2, H0⟩ := bind_some H0
  try dsimp only at H0
  obtain ⟨⟨y5, y6⟩, h_3, H0⟩ := bind_some H0
  try dsimp only at H0
  refine lok_rt (Env.of E0 [⟨some 11, 34, [.one (.ptr 0 0), .one (.p (pi (0 : Int)))], [.var [.p (.sl 1 (List.map encI y.L)), .p (pi y.At)]], [.agg [.p (pi y1.Extra), .p (pi y1.Needs)]], [some (.var [.p (.sl 1 (List.map encI y2.L)), .p (pi y2.At)])], True, fun _ => ok_make_Tape_Access y (0 : Int) (y1, y2) h_1⟩,
      ⟨some 13, 34, [.one (.ptr 0 0), .one (.p (pi (0 : Int)))], [.var [.p (.sl 1 (List.map encI y2.L)), .p (pi y2.At)]], [.agg [.p (pi y3.Extra), .p (pi y3.Needs)]], [some (.var [.p (.sl 1 (List.map encI y4.L)), .p (pi y4.At)])], True, fun _ => ok_make_Tape_Access y2 (0 : Int) (y3, y4) h_2⟩,
      ⟨some 15, 34, [.one (.ptr 0 0), .one (.p (pi (0 : Int)))], [.var [.p (.sl 1 (List.map encI y4.L)), .p (pi y4.At)]], [.agg [.p (pi y5.Extra), .p (pi y5.Needs)]], [some (.var [.p (.sl 1 (List.map encI y6.L)), .p (pi y6.At)])], True, fun _ => ok_make_Tape_Access y4 (0 : Int) (y5, y6) h_3⟩]) (⟨66, mkS [(4, .x (.one (.ptr 104 0))), (5, .x (.one (.ptr 105 0))), (6, .x (.one (.ptr 106 0)))], mkH [(104, .var [.p (pi y1.Extra), .p (pi y1.Needs)]), (105, .var [.p (pi y3.Extra), .p (pi y3.Needs)]), (106, .var [.p (pi y5.Extra), .p (pi y5.Needs)])]⟩) ?_
  obtain ⟨y7, h_4, H0⟩ := bind_some H0
  obtain ⟨y8, h_5, H0⟩ := bind_some H0
  refine lok_rt (Env.of E0 [⟨some 18, 30, [.agg [.p (pi y1.Extra), .p (pi y1.Needs)], .agg [.p (pi y3.Extra), .p (pi y3.Needs)]], [], [.agg [.p (pi y7.Extra), .p (pi y7.Needs)]], [], True, fun _ => ok_access_Join y1 y3 y7 h_4⟩,
      ⟨some 19, 32, [.agg [.p (pi y7.Extra), .p (pi y7.Needs)]], [], [.agg [.p (pi y8.Extra), .p (pi y8.Needs)]], [], True, fun _ => ok_access_Imply y7 y8 h_5⟩]) (⟨66, mkS [(4, .x (.one (.ptr 104 0))), (5, .x (.one (.ptr 105 0))), (6, .x (.one (.ptr 106 0))), (7, .x (.one (.ptr 107 0)))], mkH [(104, .var [.p (pi y1.Extra), .p (pi y1.Needs)]), (105, .var [.p (pi y3.Extra), .p (pi y3.Needs)]), (106, .var [.p (pi y5.Extra), .p (pi y5.Needs)]), (107, .var [.p (pi y8.Extra), .p (pi y8.Needs)])]⟩) ?_
  obtain ⟨y9, h_6, H0⟩ := bind_some H0
  obtain ⟨y10, h_7, H0⟩ := bind_some H0
  obtain ⟨⟨q_8, q_9, q_10, q_11, q_12, q_13, q_14, q_15, q_16, q_17, q_18⟩, H0⟩ := req_some H0
  refine lok_dt (Env.of E0 [⟨some 22, 30, [.agg [.p (pi y1.Extra), .p (pi y1.Needs)], .agg [.p (pi y3.Extra), .p (pi y3.Needs)]], [], [.agg [.p (pi y9.Extra), .p (pi y9.Needs)]], [], True, fun _ => ok_access_Join y1 y3 y9 h_6⟩,
      ⟨some 25, 30, [.agg [.p (pi y3.Extra), .p (pi y3.Needs)], .agg [.p (pi y1.Extra), .p (pi y1.Needs)]], [], [.agg [.p (pi y10.Extra), .p (pi y10.Needs)]], [], True, fun _ => ok_access_Join y3 y1 y10 h_7⟩,
      ⟨some 30, 30, [.agg [.p (pi y1.Extra), .p (pi y1.Needs)], .agg [.p (pi y3.Extra), .p (pi y3.Needs)]], [], [.agg [.p (pi (((access_Join y1 y3).getD default).Extra)), .p (pi (((access_Join y1 y3).getD default).Needs))]], [], (access_Join y1 y3).isSome = true, fun h => ok_access_Join y1 y3 _ (isSome_get h)⟩,
      ⟨some 32, 30, [.agg [.p (pi (((access_Join y1 y3).getD default).Extra)), .p (pi (((access_Join y1 y3).getD default).Needs))], .agg [.p (pi y5.Extra), .p (pi y5.Needs)]], [], [.agg [.p (pi (((access_Join ((access_Join y1 y3).getD default) y5).getD default).Extra)), .p (pi (((access_Join ((access_Join y1 y3).getD default) y5).getD default).Needs))]], [], (access_Join ((access_Join y1 y3).getD default) y5).isSome = true, fun h => ok_access_Join ((access_Join y1 y3).getD default) y5 _ (isSome_get h)⟩,
      ⟨some 36, 30, [.agg [.p (pi y3.Extra), .p (pi y3.Needs)], .agg [.p (pi y5.Extra), .p (pi y5.Needs)]], [], [.agg [.p (pi (((access_Join y3 y5).getD default).Extra)), .p (pi (((access_Join y3 y5).getD default).Needs))]], [], (access_Join y3 y5).isSome = true, fun h => ok_access_Join y3 y5 _ (isSome_get h)⟩,
      ⟨some 37, 30, [.agg [.p (pi y1.Extra), .p (pi y1.Needs)], .agg [.p (pi (((access_Join y3 y5).getD default).Extra)), .p (pi (((access_Join y3 y5).getD default).Needs))]], [], [.agg [.p (pi (((access_Join y1 ((access_Join y3 y5).getD default)).getD default).Extra)), .p (pi (((access_Join y1 ((access_Join y3 y5).getD default)).getD default).Needs))]], [], (access_Join y1 ((access_Join y3 y5).getD default)).isSome = true, fun h => ok_access_Join y1 ((access_Join y3 y5).getD default) _ (isSome_get h)⟩,
      ⟨some 43, 30, [.agg [.p (pi y1.Extra), .p (pi y1.Needs)], .agg [.p (pi y1.Extra), .p (pi y1.Needs)]], [], [.agg [.p (pi (((access_Join y1 y1).getD default).Extra)), .p (pi (((access_Join y1 y1).getD default).Needs))]], [], (access_Join y1 y1).isSome = true, fun h => ok_access_Join y1 y1 _ (isSome_get h)⟩,
      ⟨some 49, 32, [.agg [.p (pi y8.Extra), .p (pi y8.Needs)]], [], [.agg [.p (pi (((access_Imply y8).getD default).Extra)), .p (pi (((access_Imply y8).getD default).Needs))]], [], (access_Imply y8).isSome = true, fun h => ok_access_Imply y8 _ (isSome_get h)⟩,
      ⟨some 55, 32, [.agg [.p (pi y1.Extra), .p (pi y1.Needs)]], [], [.agg [.p (pi (((access_Imply y1).getD default).Extra)), .p (pi (((access_Imply y1).getD default).Needs))]], [], (access_Imply y1).isSome = true, fun h => ok_access_Imply y1 _ (isSome_get h)⟩,
      ⟨some 57, 32, [.agg [.p (pi y3.Extra), .p (pi y3.Needs)]], [], [.agg [.p (pi (((access_Imply y3).getD default).Extra)), .p (pi (((access_Imply y3).getD default).Needs))]], [], (access_Imply y3).isSome = true, fun h => ok_access_Imply y3 _ (isSome_get h)⟩,
      ⟨some 58, 30, [.agg [.p (pi (((access_Imply y1).getD default).Extra)), .p (pi (((access_Imply y1).getD default).Needs))], .agg [.p (pi (((access_Imply y3).getD default).Extra)), .p (pi (((access_Imply y3).getD default).Needs))]], [], [.agg [.p (pi (((access_Join ((access_Imply y1).getD default) ((access_Imply y3).getD default)).getD default).Extra)), .p (pi (((access_Join ((access_Imply y1).getD default) ((access_Imply y3).getD default)).getD default).Needs))]], [], (access_Join ((access_Imply y1).getD default) ((access_Imply y3).getD default)).isSome = true, fun h => ok_access_Join ((access_Imply y1).getD default) ((access_Imply y3).getD default) _ (isSome_get h)⟩,
      ⟨some 59, 32, [.agg [.p (pi (((access_Join ((access_Imply y1).getD default) ((access_Imply y3).getD default)).getD default).Extra)), .p (pi (((access_Join ((access_Imply y1).getD default) ((access_Imply y3).getD default)).getD default).Needs))]], [], [.agg [.p (pi (((access_Imply ((access_Join ((access_Imply y1).getD default) ((access_Imply y3).getD default)).getD default)).getD default).Extra)), .p (pi (((access_Imply ((access_Join ((access_Imply y1).getD default) ((access_Imply y3).getD default)).getD default)).getD default).Needs))]], [], (access_Imply ((access_Join ((access_Imply y1).getD default) ((access_Imply y3).getD default)).getD default)).isSome = true, fun h => ok_access_Imply ((access_Join ((access_Imply y1).getD default) ((access_Imply y3).getD default)).getD default) _ (isSome_get h)⟩,
      ⟨some 64, 16, [], [], [.one (.p (.val (.bool ((law14_awake).getD default))))], [], (law14_awake).isSome = true, fun h => ok_law14_awake _ (isSome_get h)⟩]) 41 (⟨66, mkS [(2, .x (.one (.p (.val (.bool (((((((y9.Extra == y10.Extra) && (y9.Needs == y10.Needs)) && ((((access_Join ((access_Join y1 y3).getD default) y5).getD default).Extra == ((access_Join y1 ((access_Join y3 y5).getD default)).getD default).Extra) && (((access_Join ((access_Join y1 y3).getD default) y5).getD default).Needs == ((access_Join y1 ((access_Join y3 y5).getD default)).getD default).Needs))) && ((((access_Join y1 y1).getD default).Extra == y1.Extra) && (((access_Join y1 y1).getD default).Needs == y1.Needs))) && ((((access_Imply y8).getD default).Extra == y8.Extra) && (((access_Imply y8).getD default).Needs == y8.Needs))) && ((((access_Imply ((access_Join ((access_Imply y1).getD default) ((access_Imply y3).getD default)).getD default)).getD default).Extra == y8.Extra) && (((access_Imply ((access_Join ((access_Imply y1).getD default) ((access_Imply y3).getD default)).getD default)).getD default).Needs == y8.Needs))) && ((law14_awake).getD default)))))))], mkH []⟩) (by kernel_rfl) (by kernel_rfl) ?_
  refine lok_ret ?_
  obtain rfl := Option.some.inj H0
  try simp only [thenL, blockL]
  exact fin_au _ (.inr rfl) [] (⟨66, mkS [(2, .x (.one (.p (.val (.bool (((((((y9.Extra == y10.Extra) && (y9.Needs == y10.Needs)) && ((((access_Join ((access_Join y1 y3).getD default) y5).getD default).Extra == ((access_Join y1 ((access_Join y3 y5).getD default)).getD default).Extra) && (((access_Join ((access_Join y1 y3).getD default) y5).getD default).Needs == ((access_Join y1 ((access_Join y3 y5).getD default)).getD default).Needs))) && ((((access_Join y1 y1).getD default).Extra == y1.Extra) && (((access_Join y1 y1).getD default).Needs == y1.Needs))) && ((((access_Imply y8).getD default).Extra == y8.Extra) && (((access_Imply y8).getD default).Needs == y8.Needs))) && ((((access_Imply ((access_Join ((access_Imply y1).getD default) ((access_Imply y3).getD default)).getD default)).getD default).Extra == y8.Extra) && (((access_Imply ((access_Join ((access_Imply y1).getD default) ((access_Imply y3).getD default)).getD default)).getD default).Needs == y8.Needs))) && ((law14_awake).getD default)))))))], mkH []⟩) rfl rfl imp_au
end Go.LS
