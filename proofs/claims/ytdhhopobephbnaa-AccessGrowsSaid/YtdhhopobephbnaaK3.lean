/-
  The walks: the functions compute what the plain ones say. Condition: the plain function has a value.
-/
import Derived.Test.YtdhhopobephbnaaK2
import Derived.Test.YtdhhopobephbnaaD3
namespace Go.LS
open Go.Proofs
set_option linter.all false
set_option linter.unusedSimpArgs false
set_option linter.unusedVariables false
set_option maxRecDepth 20000

theorem ok_ref14_applies (r : api_AccessRule) (l : List api_Evidence) (candidate : Int) (time : Int) (r_ : Bool) (H0 : ref14_applies r l candidate time = some r_) : CallOK Try.prog 44 [.agg [.p (pi r.Kind), .p (pi r.Least), .p (pi r.Extra), .p (pi r.Needs)], .one (.p (.sl 5 (List.map enc_api_Evidence l))), .one (.p (pi candidate)), .one (.p (pi time))] [] [.one (.p (.val (.bool r_)))] [] := by
  refine callOK (n := 61) (rs := [.tmp 8]) (nb := 0) (V := []) Try.func44 rfl (by kernel_rfl) rfl rfl rfl rfl (Nat.le_of_ble_eq_true rfl) rfl (by decide) ?_
  unfold ref14_applies at H0
  refine lok_rt E0 (⟨61, mkS [(1, .x (.one (.p (.sl 5 (List.map enc_api_Evidence l))))), (2, .x (.one (.p (pi candidate)))), (3, .x (.one (.p (pi time)))), (4, .x (.one (.ptr 104 0)))], mkH [(104, .var [.p (pi r.Kind), .p (pi r.Least), .p (pi r.Extra), .p (pi r.Needs)])]⟩) ?_
  refine lok_join (fun x_ : Unit => ref14_applies_j1 = some r_) (fun x_ => ⟨61, mkS [], mkH []⟩) ?hyref14_applies_j1 ?hxref14_applies_j1
  case hyref14_applies_j1 =>
    rintro _ H0
    try dsimp only at H0 ⊢
    unfold ref14_applies_j1 at H0
    refine lok_rt E0 (⟨61, mkS [(8, .x (.one (.p (.val (.bool false)))))], mkH []⟩) ?_
    refine lok_ret ?_
    obtain rfl := Option.some.inj H0
    try simp only [thenL, blockL]
    exact fin_au _ (.inr rfl) [] (⟨61, mkS [(8, .x (.one (.p (.val (.bool false)))))], mkH []⟩) rfl rfl imp_au
  case hxref14_applies_j1 =>
    refine lok_rt E0 (⟨61, mkS [(1, .x (.one (.p (.sl 5 (List.map enc_api_Evidence l))))), (2, .x (.one (.p (pi candidate)))), (3, .x (.one (.p (pi time)))), (4, .x (.one (.ptr 104 0))), (9, .x (.one (.p (pi (0 : Int)))))], mkH [(104, .var [.p (pi r.Kind), .p (pi r.Least), .p (pi r.Extra), .p (pi r.Needs)])]⟩) ?_
    refine lok_block ?_
    replace H0 := bind_some H0
    obtain ⟨v_0, hv_0, H0⟩ := H0
    refine lok_iter (fun x_ => ⟨61, mkS [(1, .x (.one (.p (.sl 5 (List.map enc_api_Evidence l))))), (2, .x (.one (.p (pi candidate)))), (3, .x (.one (.p (pi time)))), (4, .x (.one (.ptr 104 0))), (9, .x (.one (.p (pi x_))))], mkH [(104, .var [.p (pi r.Kind), .p (pi r.Least), .p (pi r.Extra), .p (pi r.Needs)])]⟩) hv_0 imp_au ?_
    · rintro i o_1 H1 k_1
      unfold ref14_applies_l2 at H1
      try dsimp only at H1 ⊢
      refine lok_seq ?_
      refine lok_rt E0 (⟨61, mkS [(1, .x (.one (.p (.sl 5 (List.map enc_api_Evidence l))))), (2, .x (.one (.p (pi candidate)))), (3, .x (.one (.p (pi time)))), (4, .x (.one (.ptr 104 0))), (9, .x (.one (.p (pi i)))), (14, .x (.one (.p (.val (.bool (decide (i < (l.length : Int))))))))], mkH [(104, .var [.p (pi r.Kind), .p (pi r.Least), .p (pi r.Extra), .p (pi r.Needs)])]⟩) ?_
      refine lok_c (decide (i < (l.length : Int))) ?_ ?_
      · intro b_5
        replace H1 := cpos H1 b_5
        refine lok_skip ?_
        try simp only [thenL, blockL, ↓reduceIte, reduceCtorEq]
        refine lok_seq ?_
        refine lok_block ?_
        replace H1 := req_some H1
        obtain ⟨q_4, H1⟩ := H1
        refine lok_rt E0 (⟨61, mkS [(1, .x (.one (.p (.sl 5 (List.map enc_api_Evidence l))))), (2, .x (.one (.p (pi candidate)))), (3, .x (.one (.p (pi time)))), (4, .x (.one (.ptr 104 0))), (9, .x (.one (.p (pi i)))), (10, .x (.one (.ptr 110 0)))], mkH [(104, .var [.p (pi r.Kind), .p (pi r.Least), .p (pi r.Extra), .p (pi r.Needs)]), (110, .var [.p (pi ((ix l i).Candidate)), .p (pi ((ix l i).Kind)), .p (pi ((ix l i).Level)), .p (pi ((ix l i).From)), .p (pi ((ix l i).Until))])]⟩) ?_
        replace H1 := req_some H1
        obtain ⟨⟨q_2, q_3⟩, H1⟩ := H1
        refine lok_rt (Env.of E0 [⟨some 28, 40, [.one (.p (pi ((ix l i).Kind)))], [], [.one (.p (.val (.bool ((ref14_level ((ix l i).Kind)).getD default))))], [], (ref14_level ((ix l i).Kind)).isSome = true, fun h => ok_ref14_level ((ix l i).Kind) _ (isSome_get h)⟩,
      ⟨some 33, 40, [.one (.p (pi ((ix l i).Level)))], [], [.one (.p (.val (.bool ((ref14_level ((ix l i).Level)).getD default))))], [], (ref14_level ((ix l i).Level)).isSome = true, fun h => ok_ref14_level ((ix l i).Level) _ (isSome_get h)⟩]) (⟨61, mkS [(1, .x (.one (.p (.sl 5 (List.map enc_api_Evidence l))))), (2, .x (.one (.p (pi candidate)))), (3, .x (.one (.p (pi time)))), (4, .x (.one (.ptr 104 0))), (9, .x (.one (.p (pi i)))), (60, .x (.one (.p (.val (.bool ((((((((ix l i).Candidate == candidate) && ((ref14_level ((ix l i).Kind)).getD default)) && ((ref14_level ((ix l i).Level)).getD default)) && (decide ((ix l i).From ≤ time))) && (decide (time ≤ (ix l i).Until))) && ((ix l i).Kind == r.Kind)) && (decide (r.Least ≤ (ix l i).Level))))))))], mkH [(104, .var [.p (pi r.Kind), .p (pi r.Least), .p (pi r.Extra), .p (pi r.Needs)])]⟩) ?_
        refine lok_c ((((((((ix l i).Candidate == candidate) && ((ref14_level ((ix l i).Kind)).getD default)) && ((ref14_level ((ix l i).Level)).getD default)) && (decide ((ix l i).From ≤ time))) && (decide (time ≤ (ix l i).Until))) && ((ix l i).Kind == r.Kind)) && (decide (r.Least ≤ (ix l i).Level))) ?_ ?_
        · intro b_1
          replace H1 := cpos H1 b_1
          refine lok_rt E0 (⟨61, mkS [(8, .x (.one (.p (.val (.bool true)))))], mkH []⟩) ?_
          refine lok_ret ?_
          try simp only [thenL, blockL, ↓reduceIte, reduceCtorEq]
          have e_1 := k_1 _ (Option.some.inj H1).symm
          subst e_1
          try dsimp only at H0
          obtain rfl := Option.some.inj H0
          try simp only [thenL, blockL]
          exact fin_au _ (.inr rfl) [] (⟨61, mkS [(8, .x (.one (.p (.val (.bool true)))))], mkH []⟩) rfl rfl imp_au
        · intro b_1
          replace H1 := cneg H1 b_1
          refine lok_skip ?_
          try simp only [thenL, blockL, ↓reduceIte, reduceCtorEq]
          refine lok_rl E0 (⟨61, mkS [(1, .x (.one (.p (.sl 5 (List.map enc_api_Evidence l))))), (2, .x (.one (.p (pi candidate)))), (3, .x (.one (.p (pi time)))), (4, .x (.one (.ptr 104 0))), (9, .x (.one (.p (pi (IntKind.i64.wrap (i + (1 : Int)))))))], mkH [(104, .var [.p (pi r.Kind), .p (pi r.Least), .p (pi r.Extra), .p (pi r.Needs)])]⟩) ?_
          try simp only [thenL, blockL, ↓reduceIte, reduceCtorEq]
          exact ⟨(IntKind.i64.wrap (i + (1 : Int))), (Option.some.inj H1).symm, imp_au⟩
      · intro b_5
        replace H1 := cneg H1 b_5
        refine lok_exit ?_
        try simp only [thenL, blockL, ↓reduceIte, reduceCtorEq]
        have e_1 := k_1 _ (Option.some.inj H1).symm
        subst e_1
        try dsimp only at H0
        try simp only [thenL, blockL, ↓reduceIte, reduceCtorEq]
        exact ⟨(), H0, imp_au⟩
theorem ok_ref14_Grant (rules : List api_AccessRule) (l : List api_Evidence) (candidate : Int) (time : Int) (r_ : api_Access × Int) (H0 : ref14_Grant rules l candidate time = some r_) : CallOK Try.prog 20 [.one (.p (.sl 4 (List.map enc_api_AccessRule rules))), .one (.p (.sl 5 (List.map enc_api_Evidence l))), .one (.p (pi candidate)), .one (.p (pi time))] [] [.agg [.p (pi r_.1.Extra), .p (pi r_.1.Needs)], .one (.p (pi r_.2))] [] := by
  refine callOK (n := 48) (rs := [.cell 8 38, .tmp 9]) (nb := 0) (V := []) Try.func20 rfl (by kernel_rfl) rfl rfl rfl rfl (Nat.le_of_ble_eq_true rfl) rfl (by decide) ?_
  unfold ref14_Grant at H0
  refine lok_rt E0 (⟨48, mkS [(0, .x (.one (.p (.sl 4 (List.map enc_api_AccessRule rules))))), (1, .x (.one (.p (.sl 5 (List.map enc_api_Evidence l))))), (2, .x (.one (.p (pi candidate)))), (3, .x (.one (.p (pi time)))), (8, .x (.one (.ptr 108 0)))], mkH [(108, .var [.p (pi (0 : Int)), .p (pi (0 : Int))])]⟩) ?_
  refine lok_seq ?_
  replace H0 := bind_some H0
  obtain ⟨y, h_0, H0⟩ := H0
  refine lok_rt (Env.of E0 [⟨some 14, 15, [.one (.p (.sl 4 (List.map enc_api_AccessRule rules)))], [], [.one (.p (pi y))], [], True, fun _ => ok_ref14_Check rules y h_0⟩]) (⟨48, mkS [(0, .x (.one (.p (.sl 4 (List.map enc_api_AccessRule rules))))), (1, .x (.one (.p (.sl 5 (List.map enc_api_Evidence l))))), (2, .x (.one (.p (pi candidate)))), (3, .x (.one (.p (pi time)))), (8, .x (.one (.ptr 108 0))), (10, .x (.one (.p (pi y))))], mkH [(108, .var [.p (pi (0 : Int)), .p (pi (0 : Int))])]⟩) ?_
  refine lok_rt E0 (⟨48, mkS [(0, .x (.one (.p (.sl 4 (List.map enc_api_AccessRule rules))))), (1, .x (.one (.p (.sl 5 (List.map enc_api_Evidence l))))), (2, .x (.one (.p (pi candidate)))), (3, .x (.one (.p (pi time)))), (8, .x (.one (.ptr 108 0))), (10, .x (.one (.p (pi y)))), (16, .x (.one (.p (.val (.bool (y != (0 : Int)))))))], mkH [(108, .var [.p (pi (0 : Int)), .p (pi (0 : Int))])]⟩) ?_
  refine lok_c (y != (0 : Int)) ?_ ?_
  · intro b_9
    replace H0 := cpos H0 b_9
    refine lok_rt E0 (⟨48, mkS [(8, .x (.one (.ptr 108 0))), (9, .x (.one (.p (pi y))))], mkH [(108, .var [.p (pi (0 : Int)), .p (pi (0 : Int))])]⟩) ?_
    refine lok_ret ?_
    obtain rfl := Option.some.inj H0
    try simp only [thenL, blockL]
    exact fin_au _ (.inr rfl) [] (⟨48, mkS [(8, .x (.one (.ptr 108 0))), (9, .x (.one (.p (pi y))))], mkH [(108, .var [.p (pi (0 : Int)), .p (pi (0 : Int))])]⟩) rfl rfl imp_au
  · intro b_9
    replace H0 := cneg H0 b_9
    refine lok_skip ?_
    try simp only [thenL, blockL, ↓reduceIte, reduceCtorEq]
    refine lok_rt E0 (⟨48, mkS [(0, .x (.one (.p (.sl 4 (List.map enc_api_AccessRule rules))))), (1, .x (.one (.p (.sl 5 (List.map enc_api_Evidence l))))), (2, .x (.one (.p (pi candidate)))), (3, .x (.one (.p (pi time)))), (8, .x (.one (.ptr 108 0))), (11, .x (.one (.ptr 111 0)))], mkH [(108, .var [.p (pi (0 : Int)), .p (pi (0 : Int))]), (111, .var [.p (pi (0 : Int)), .p (pi (0 : Int))])]⟩) ?_
    refine lok_join (fun x_ : Int × Int => ref14_Grant_j1 x_.1 x_.2 = some r_) (fun x_ => ⟨48, mkS [(8, .x (.one (.ptr 108 0))), (11, .x (.one (.ptr 111 0)))], mkH [(108, .var [.p (pi (0 : Int)), .p (pi (0 : Int))]), (111, .var [.p (pi x_.1), .p (pi x_.2)])]⟩) ?hyref14_Grant_j1 ?hxref14_Grant_j1
    case hyref14_Grant_j1 =>
      rintro ⟨a, a1⟩ H0
      try dsimp only at H0 ⊢
      unfold ref14_Grant_j1 at H0
      replace H0 := bind_some H0
      obtain ⟨y1, h_1, H0⟩ := H0
      refine lok_rt (Env.of E0 [⟨some 47, 33, [.agg [.p (pi a), .p (pi a1)]], [], [.agg [.p (pi y1.Extra), .p (pi y1.Needs)]], [], True, fun _ => ok_ref14_Imply (api_Access.mk a a1) y1 h_1⟩]) (⟨48, mkS [(8, .x (.one (.ptr 108 0))), (9, .x (.one (.p (pi (0 : Int)))))], mkH [(108, .var [.p (pi y1.Extra), .p (pi y1.Needs)])]⟩) ?_
      refine lok_ret ?_
      obtain rfl := Option.some.inj H0
      try simp only [thenL, blockL]
      exact fin_au _ (.inr rfl) [] (⟨48, mkS [(8, .x (.one (.ptr 108 0))), (9, .x (.one (.p (pi (0 : Int)))))], mkH [(108, .var [.p (pi y1.Extra), .p (pi y1.Needs)])]⟩) rfl rfl imp_au
    case hxref14_Grant_j1 =>
      refine lok_rt E0 (⟨48, mkS [(0, .x (.one (.p (.sl 4 (List.map enc_api_AccessRule rules))))), (1, .x (.one (.p (.sl 5 (List.map enc_api_Evidence l))))), (2, .x (.one (.p (pi candidate)))), (3, .x (.one (.p (pi time)))), (8, .x (.one (.ptr 108 0))), (11, .x (.one (.ptr 111 0))), (12, .x (.one (.p (pi (0 : Int)))))], mkH [(108, .var [.p (pi (0 : Int)), .p (pi (0 : Int))]), (111, .var [.p (pi (0 : Int)), .p (pi (0 : Int))])]⟩) ?_
      refine lok_block ?_
      replace H0 := bind_some H0
      obtain ⟨v_2, hv_2, H0⟩ := H0
      refine lok_iter (fun x_ => ⟨48, mkS [(0, .x (.one (.p (.sl 4 (List.map enc_api_AccessRule rules))))), (1, .x (.one (.p (.sl 5 (List.map enc_api_Evidence l))))), (2, .x (.one (.p (pi candidate)))), (3, .x (.one (.p (pi time)))), (8, .x (.one (.ptr 108 0))), (11, .x (.one (.ptr 111 0))), (12, .x (.one (.p (pi x_.1))))], mkH [(108, .var [.p (pi (0 : Int)), .p (pi (0 : Int))]), (111, .var [.p (pi x_.2.1), .p (pi x_.2.2)])]⟩) hv_2 imp_au ?_
      · rintro ⟨i, a2, a3⟩ o_1 H1 k_1
        unfold ref14_Grant_l3 at H1
        try dsimp only at H1 ⊢
        refine lok_seq ?_
        refine lok_rt E0 (⟨48, mkS [(0, .x (.one (.p (.sl 4 (List.map enc_api_AccessRule rules))))), (1, .x (.one (.p (.sl 5 (List.map enc_api_Evidence l))))), (2, .x (.one (.p (pi candidate)))), (3, .x (.one (.p (pi time)))), (8, .x (.one (.ptr 108 0))), (11, .x (.one (.ptr 111 0))), (12, .x (.one (.p (pi i)))), (22, .x (.one (.p (.val (.bool (decide (i < (rules.length : Int))))))))], mkH [(108, .var [.p (pi (0 : Int)), .p (pi (0 : Int))]), (111, .var [.p (pi a2), .p (pi a3)])]⟩) ?_
        refine lok_c (decide (i < (rules.length : Int))) ?_ ?_
        · intro b_8
          replace H1 := cpos H1 b_8
          refine lok_skip ?_
          try simp only [thenL, blockL, ↓reduceIte, reduceCtorEq]
          refine lok_join (fun x_ : Int × Int => ref14_Grant_j2 i x_.1 x_.2 = some o_1) (fun x_ => ⟨48, mkS [(0, .x (.one (.p (.sl 4 (List.map enc_api_AccessRule rules))))), (1, .x (.one (.p (.sl 5 (List.map enc_api_Evidence l))))), (2, .x (.one (.p (pi candidate)))), (3, .x (.one (.p (pi time)))), (8, .x (.one (.ptr 108 0))), (11, .x (.one (.ptr 111 0))), (12, .x (.one (.p (pi i))))], mkH [(108, .var [.p (pi (0 : Int)), .p (pi (0 : Int))]), (111, .var [.p (pi x_.1), .p (pi x_.2)])]⟩) ?hyref14_Grant_j2 ?hxref14_Grant_j2
          case hyref14_Grant_j2 =>
            rintro ⟨a6, a7⟩ H1
            try dsimp only at H1 ⊢
            unfold ref14_Grant_j2 at H1
            refine lok_rl E0 (⟨48, mkS [(0, .x (.one (.p (.sl 4 (List.map enc_api_AccessRule rules))))), (1, .x (.one (.p (.sl 5 (List.map enc_api_Evidence l))))), (2, .x (.one (.p (pi candidate)))), (3, .x (.one (.p (pi time)))), (8, .x (.one (.ptr 108 0))), (11, .x (.one (.ptr 111 0))), (12, .x (.one (.p (pi (IntKind.i64.wrap (i + (1 : Int)))))))], mkH [(108, .var [.p (pi (0 : Int)), .p (pi (0 : Int))]), (111, .var [.p (pi a6), .p (pi a7)])]⟩) ?_
            try simp only [thenL, blockL, ↓reduceIte, reduceCtorEq]
            exact ⟨((IntKind.i64.wrap (i + (1 : Int))), a6, a7), (Option.some.inj H1).symm, imp_au⟩
          case hxref14_Grant_j2 =>
            refine lok_block ?_
            replace H1 := req_some H1
            obtain ⟨q_7, H1⟩ := H1
            replace H1 := bind_some H1
            obtain ⟨y2, h_3, H1⟩ := H1
            refine lok_rt (Env.of E0 [⟨some 32, 44, [.agg [.p (pi ((ix rules i).Kind)), .p (pi ((ix rules i).Least)), .p (pi ((ix rules i).Extra)), .p (pi ((ix rules i).Needs))], .one (.p (.sl 5 (List.map enc_api_Evidence l))), .one (.p (pi candidate)), .one (.p (pi time))], [], [.one (.p (.val (.bool y2)))], [], True, fun _ => ok_ref14_applies (ix rules i) l candidate time y2 h_3⟩]) (⟨48, mkS [(0, .x (.one (.p (.sl 4 (List.map enc_api_AccessRule rules))))), (1, .x (.one (.p (.sl 5 (List.map enc_api_Evidence l))))), (2, .x (.one (.p (pi candidate)))), (3, .x (.one (.p (pi time)))), (8, .x (.one (.ptr 108 0))), (11, .x (.one (.ptr 111 0))), (12, .x (.one (.p (pi i)))), (32, .x (.one (.p (.val (.bool y2)))))], mkH [(108, .var [.p (pi (0 : Int)), .p (pi (0 : Int))]), (111, .var [.p (pi a2), .p (pi a3)])]⟩) ?_
            refine lok_c y2 ?_ ?_
            · intro b_6
              replace H1 := cpos H1 b_6
              replace H1 := req_some H1
              obtain ⟨q_5, H1⟩ := H1
              replace H1 := bind_some H1
              obtain ⟨y3, h_4, H1⟩ := H1
              refine lok_dl (Env.of E0 [⟨some 45, 31, [.agg [.p (pi a2), .p (pi a3)], .agg [.p (pi ((ix rules i).Extra)), .p (pi ((ix rules i).Needs))]], [], [.agg [.p (pi y3.Extra), .p (pi y3.Needs)]], [], True, fun _ => ok_ref14_Join (api_Access.mk a2 a3) (api_Access.mk ((ix rules i).Extra) ((ix rules i).Needs)) y3 h_4⟩]) 12 (⟨48, mkS [(0, .x (.one (.p (.sl 4 (List.map enc_api_AccessRule rules))))), (1, .x (.one (.p (.sl 5 (List.map enc_api_Evidence l))))), (2, .x (.one (.p (pi candidate)))), (3, .x (.one (.p (pi time)))), (8, .x (.one (.ptr 108 0))), (11, .x (.one (.ptr 111 0))), (12, .x (.one (.p (pi i))))], mkH [(108, .var [.p (pi (0 : Int)), .p (pi (0 : Int))]), (111, .var [.p (pi y3.Extra), .p (pi y3.Needs)])]⟩) (by kernel_rfl) (by kernel_rfl) ?_
              try simp only [thenL, blockL, ↓reduceIte, reduceCtorEq]
              exact ⟨(y3.Extra, y3.Needs), H1, imp_au⟩
            · intro b_6
              replace H1 := cneg H1 b_6
              refine lok_skip ?_
              try simp only [thenL, blockL, ↓reduceIte, reduceCtorEq]
              exact ⟨(a2, a3), H1, imp_au⟩
        · intro b_8
          replace H1 := cneg H1 b_8
          refine lok_exit ?_
          try simp only [thenL, blockL, ↓reduceIte, reduceCtorEq]
          have e_1 := k_1 _ (Option.some.inj H1).symm
          subst e_1
          try dsimp only at H0
          try simp only [thenL, blockL, ↓reduceIte, reduceCtorEq]
          exact ⟨(a2, a3), H0, imp_au⟩
theorem ok_ref06_Ints (a : List Int) (b : List Int) (r_ : Bool) (H0 : ref06_Ints a b = some r_) : CallOK Try.prog 21 [.one (.p (.sl 1 (List.map encI a))), .one (.p (.sl 1 (List.map encI b)))] [] [.one (.p (.val (.bool r_)))] [] := by
  refine callOK (n := 26) (rs := [.tmp 4]) (nb := 0) (V := []) Try.func21 rfl (by kernel_rfl) rfl rfl rfl rfl (Nat.le_of_ble_eq_true rfl) rfl (by decide) ?_
  unfold ref06_Ints at H0
  refine lok_rt E0 (⟨26, mkS [(0, .x (.one (.p (.sl 1 (List.map encI a))))), (1, .x (.one (.p (.sl 1 (List.map encI b)))))], mkH []⟩) ?_
  refine lok_seq ?_
  refine lok_rt E0 (⟨26, mkS [(0, .x (.one (.p (.sl 1 (List.map encI a))))), (1, .x (.one (.p (.sl 1 (List.map encI b))))), (10, .x (.one (.p (.val (.bool ((a.length : Int) != (b.length : Int)))))))], mkH []⟩) ?_
  refine lok_c ((a.length : Int) != (b.length : Int)) ?_ ?_
  · intro b_5
    replace H0 := cpos H0 b_5
    refine lok_rt E0 (⟨26, mkS [(4, .x (.one (.p (.val (.bool false)))))], mkH []⟩) ?_
    refine lok_ret ?_
    obtain rfl := Option.some.inj H0
    try simp only [thenL, blockL]
    exact fin_au _ (.inr rfl) [] (⟨26, mkS [(4, .x (.one (.p (.val (.bool false)))))], mkH []⟩) rfl rfl imp_au
  · intro b_5
    replace H0 := cneg H0 b_5
    refine lok_skip ?_
    try simp only [thenL, blockL, ↓reduceIte, reduceCtorEq]
    refine lok_join (fun x_ : Unit => ref06_Ints_j1 = some r_) (fun x_ => ⟨26, mkS [], mkH []⟩) ?hyref06_Ints_j1 ?hxref06_Ints_j1
    case hyref06_Ints_j1 =>
      rintro _ H0
      try dsimp only at H0 ⊢
      unfold ref06_Ints_j1 at H0
      refine lok_rt E0 (⟨26, mkS [(4, .x (.one (.p (.val (.bool true)))))], mkH []⟩) ?_
      refine lok_ret ?_
      obtain rfl := Option.some.inj H0
      try simp only [thenL, blockL]
      exact fin_au _ (.inr rfl) [] (⟨26, mkS [(4, .x (.one (.p (.val (.bool true)))))], mkH []⟩) rfl rfl imp_au
    case hxref06_Ints_j1 =>
      refine lok_rt E0 (⟨26, mkS [(0, .x (.one (.p (.sl 1 (List.map encI a))))), (1, .x (.one (.p (.sl 1 (List.map encI b))))), (5, .x (.one (.p (pi (0 : Int)))))], mkH []⟩) ?_
      refine lok_block ?_
      replace H0 := bind_some H0
      obtain ⟨v_0, hv_0, H0⟩ := H0
      refine lok_iter (fun x_ => ⟨26, mkS [(0, .x (.one (.p (.sl 1 (List.map encI a))))), (1, .x (.one (.p (.sl 1 (List.map encI b))))), (5, .x (.one (.p (pi x_))))], mkH []⟩) hv_0 imp_au ?_
      · rintro i o_1 H1 k_1
        unfold ref06_Ints_l2 at H1
        try dsimp only at H1 ⊢
        refine lok_seq ?_
        refine lok_rt E0 (⟨26, mkS [(0, .x (.one (.p (.sl 1 (List.map encI a))))), (1, .x (.one (.p (.sl 1 (List.map encI b))))), (5, .x (.one (.p (pi i)))), (14, .x (.one (.p (.val (.bool (decide (i < (a.length : Int))))))))], mkH []⟩) ?_
        refine lok_c (decide (i < (a.length : Int))) ?_ ?_
        · intro b_4
          replace H1 := cpos H1 b_4
          refine lok_skip ?_
          try simp only [thenL, blockL, ↓reduceIte, reduceCtorEq]
          refine lok_seq ?_
          refine lok_block ?_
          replace H1 := req_some H1
          obtain ⟨⟨q_2, q_3⟩, H1⟩ := H1
          refine lok_dt E0 8 (⟨26, mkS [(0, .x (.one (.p (.sl 1 (List.map encI a))))), (1, .x (.one (.p (.sl 1 (List.map encI b))))), (5, .x (.one (.p (pi i)))), (25, .x (.one (.p (.val (.bool ((ix a i) != (ix b i)))))))], mkH []⟩) (by kernel_rfl) (by kernel_rfl) ?_
          refine lok_c ((ix a i) != (ix b i)) ?_ ?_
          · intro b_1
            replace H1 := cpos H1 b_1
            refine lok_rt E0 (⟨26, mkS [(4, .x (.one (.p (.val (.bool false)))))], mkH []⟩) ?_
            refine lok_ret ?_
            try simp only [thenL, blockL, ↓reduceIte, reduceCtorEq]
            have e_1 := k_1 _ (Option.some.inj H1).symm
            subst e_1
            try dsimp only at H0
            obtain rfl := Option.some.inj H0
            try simp only [thenL, blockL]
            exact fin_au _ (.inr rfl) [] (⟨26, mkS [(4, .x (.one (.p (.val (.bool false)))))], mkH []⟩) rfl rfl imp_au
          · intro b_1
            replace H1 := cneg H1 b_1
            refine lok_skip ?_
            try simp only [thenL, blockL, ↓reduceIte, reduceCtorEq]
            refine lok_rl E0 (⟨26, mkS [(0, .x (.one (.p (.sl 1 (List.map encI a))))), (1, .x (.one (.p (.sl 1 (List.map encI b))))), (5, .x (.one (.p (pi (IntKind.i64.wrap (i + (1 : Int)))))))], mkH []⟩) ?_
            try simp only [thenL, blockL, ↓reduceIte, reduceCtorEq]
            exact ⟨(IntKind.i64.wrap (i + (1 : Int))), (Option.some.inj H1).symm, imp_au⟩
        · intro b_4
          replace H1 := cneg H1 b_4
          refine lok_exit ?_
          try simp only [thenL, blockL, ↓reduceIte, reduceCtorEq]
          have e_1 := k_1 _ (Option.some.inj H1).symm
          subst e_1
          try dsimp only at H0
          try simp only [thenL, blockL, ↓reduceIte, reduceCtorEq]
          exact ⟨(), H0, imp_au⟩
theorem ok_ref14_Reasons (rules : List api_AccessRule) (l : List api_Evidence) (candidate : Int) (time : Int) (r_ : (List Int)) (H0 : ref14_Reasons rules l candidate time = some r_) : CallOK Try.prog 23 [.one (.p (.sl 4 (List.map enc_api_AccessRule rules))), .one (.p (.sl 5 (List.map enc_api_Evidence l))), .one (.p (pi candidate)), .one (.p (pi time))] [] [.one (.p (.sl 1 (List.map encI r_)))] [] := by
  refine callOK (n := 33) (rs := [.tmp 8]) (nb := 0) (V := []) Try.func23 rfl (by kernel_rfl) rfl rfl rfl rfl (Nat.le_of_ble_eq_true rfl) rfl (by decide) ?_
  unfold ref14_Reasons at H0
  refine lok_rt E0 (⟨33, mkS [(0, .x (.one (.p (.sl 4 (List.map enc_api_AccessRule rules))))), (1, .x (.one (.p (.sl 5 (List.map enc_api_Evidence l))))), (2, .x (.one (.p (pi candidate)))), (3, .x (.one (.p (pi time))))], mkH []⟩) ?_
  refine lok_seq ?_
  replace H0 := bind_some H0
  obtain ⟨y, h_0, H0⟩ := H0
  refine lok_rt (Env.of E0 [⟨some 12, 15, [.one (.p (.sl 4 (List.map enc_api_AccessRule rules)))], [], [.one (.p (pi y))], [], True, fun _ => ok_ref14_Check rules y h_0⟩]) (⟨33, mkS [(0, .x (.one (.p (.sl 4 (List.map enc_api_AccessRule rules))))), (1, .x (.one (.p (.sl 5 (List.map enc_api_Evidence l))))), (2, .x (.one (.p (pi candidate)))), (3, .x (.one (.p (pi time)))), (13, .x (.one (.p (.val (.bool (y != (0 : Int)))))))], mkH []⟩) ?_
  refine lok_c (y != (0 : Int)) ?_ ?_
  · intro b_7
    replace H0 := cpos H0 b_7
    refine lok_rt E0 (⟨33, mkS [(8, .x (.one (.vw 108)))], mkH [(108, .arr 1 (List.map encI ([] : List Int)))]⟩) ?_
    refine lok_ret ?_
    obtain rfl := Option.some.inj H0
    try simp only [thenL, blockL]
    exact fin_au _ (.inr rfl) [] (⟨33, mkS [(8, .x (.one (.p (.sl 1 (List.map encI ([] : List Int))))))], mkH []⟩) rfl rfl (Imp.trans (imp_frz 108 1 (List.map encI ([] : List Int))) imp_au)
  · intro b_7
    replace H0 := cneg H0 b_7
    refine lok_skip ?_
    try simp only [thenL, blockL, ↓reduceIte, reduceCtorEq]
    refine lok_rt E0 (⟨33, mkS [(0, .x (.one (.p (.sl 4 (List.map enc_api_AccessRule rules))))), (1, .x (.one (.p (.sl 5 (List.map enc_api_Evidence l))))), (2, .x (.one (.p (pi candidate)))), (3, .x (.one (.p (pi time)))), (9, .x (.one (.vw 109)))], mkH [(109, .arr 1 (List.map encI ([] : List Int)))]⟩) ?_
    refine lok_join (fun x_ : (List Int) => ref14_Reasons_j1 x_ = some r_) (fun x_ => ⟨33, mkS [(9, .x (.one (.vw 109)))], mkH [(109, .arr 1 (List.map encI x_))]⟩) ?hyref14_Reasons_j1 ?hxref14_Reasons_j1
    case hyref14_Reasons_j1 =>
      rintro out H0
      try dsimp only at H0 ⊢
      unfold ref14_Reasons_j1 at H0
      refine lok_rt E0 (⟨33, mkS [(8, .x (.one (.vw 109)))], mkH [(109, .arr 1 (List.map encI out))]⟩) ?_
      refine lok_ret ?_
      obtain rfl := Option.some.inj H0
      try simp only [thenL, blockL]
      exact fin_au _ (.inr rfl) [] (⟨33, mkS [(8, .x (.one (.p (.sl 1 (List.map encI out)))))], mkH []⟩) rfl rfl (Imp.trans (imp_frz 109 1 (List.map encI out)) imp_au)
    case hxref14_Reasons_j1 =>
      refine lok_rt E0 (⟨33, mkS [(0, .x (.one (.p (.sl 4 (List.map enc_api_AccessRule rules))))), (1, .x (.one (.p (.sl 5 (List.map enc_api_Evidence l))))), (2, .x (.one (.p (pi candidate)))), (3, .x (.one (.p (pi time)))), (9, .x (.one (.vw 109))), (10, .x (.one (.p (pi (0 : Int)))))], mkH [(109, .arr 1 (List.map encI ([] : List Int)))]⟩) ?_
      refine lok_block ?_
      replace H0 := bind_some H0
      obtain ⟨v_1, hv_1, H0⟩ := H0
      refine lok_iter (fun x_ => ⟨33, mkS [(0, .x (.one (.p (.sl 4 (List.map enc_api_AccessRule rules))))), (1, .x (.one (.p (.sl 5 (List.map enc_api_Evidence l))))), (2, .x (.one (.p (pi candidate)))), (3, .x (.one (.p (pi time)))), (9, .x (.one (.vw 109))), (10, .x (.one (.p (pi x_.1))))], mkH [(109, .arr 1 (List.map encI x_.2))]⟩) hv_1 imp_au ?_
      · rintro ⟨i, out1⟩ o_1 H1 k_1
        unfold ref14_Reasons_l3 at H1
        try dsimp only at H1 ⊢
        refine lok_seq ?_
        refine lok_rt E0 (⟨33, mkS [(0, .x (.one (.p (.sl 4 (List.map enc_api_AccessRule rules))))), (1, .x (.one (.p (.sl 5 (List.map enc_api_Evidence l))))), (2, .x (.one (.p (pi candidate)))), (3, .x (.one (.p (pi time)))), (9, .x (.one (.vw 109))), (10, .x (.one (.p (pi i)))), (17, .x (.one (.p (.val (.bool (decide (i < (rules.length : Int))))))))], mkH [(109, .arr 1 (List.map encI out1))]⟩) ?_
        refine lok_c (decide (i < (rules.length : Int))) ?_ ?_
        · intro b_6
          replace H1 := cpos H1 b_6
          refine lok_skip ?_
          try simp only [thenL, blockL, ↓reduceIte, reduceCtorEq]
          refine lok_join (fun x_ : (List Int) => ref14_Reasons_j2 i x_ = some o_1) (fun x_ => ⟨33, mkS [(0, .x (.one (.p (.sl 4 (List.map enc_api_AccessRule rules))))), (1, .x (.one (.p (.sl 5 (List.map enc_api_Evidence l))))), (2, .x (.one (.p (pi candidate)))), (3, .x (.one (.p (pi time)))), (9, .x (.one (.vw 109))), (10, .x (.one (.p (pi i))))], mkH [(109, .arr 1 (List.map encI x_))]⟩) ?hyref14_Reasons_j2 ?hxref14_Reasons_j2
          case hyref14_Reasons_j2 =>
            rintro out3 H1
            try dsimp only at H1 ⊢
            unfold ref14_Reasons_j2 at H1
            refine lok_rl E0 (⟨33, mkS [(0, .x (.one (.p (.sl 4 (List.map enc_api_AccessRule rules))))), (1, .x (.one (.p (.sl 5 (List.map enc_api_Evidence l))))), (2, .x (.one (.p (pi candidate)))), (3, .x (.one (.p (pi time)))), (9, .x (.one (.vw 109))), (10, .x (.one (.p (pi (IntKind.i64.wrap (i + (1 : Int)))))))], mkH [(109, .arr 1 (List.map encI out3))]⟩) ?_
            try simp only [thenL, blockL, ↓reduceIte, reduceCtorEq]
            exact ⟨((IntKind.i64.wrap (i + (1 : Int))), out3), (Option.some.inj H1).symm, imp_au⟩
          case hxref14_Reasons_j2 =>
            refine lok_block ?_
            replace H1 := req_some H1
            obtain ⟨q_5, H1⟩ := H1
            replace H1 := bind_some H1
            obtain ⟨y1, h_2, H1⟩ := H1
            refine lok_rt (Env.of E0 [⟨some 27, 44, [.agg [.p (pi ((ix rules i).Kind)), .p (pi ((ix rules i).Least)), .p (pi ((ix rules i).Extra)), .p (pi ((ix rules i).Needs))], .one (.p (.sl 5 (List.map enc_api_Evidence l))), .one (.p (pi candidate)), .one (.p (pi time))], [], [.one (.p (.val (.bool y1)))], [], True, fun _ => ok_ref14_applies (ix rules i) l candidate time y1 h_2⟩]) (⟨33, mkS [(0, .x (.one (.p (.sl 4 (List.map enc_api_AccessRule rules))))), (1, .x (.one (.p (.sl 5 (List.map enc_api_Evidence l))))), (2, .x (.one (.p (pi candidate)))), (3, .x (.one (.p (pi time)))), (9, .x (.one (.vw 109))), (10, .x (.one (.p (pi i)))), (27, .x (.one (.p (.val (.bool y1)))))], mkH [(109, .arr 1 (List.map encI out1))]⟩) ?_
            refine lok_c y1 ?_ ?_
            · intro b_4
              replace H1 := cpos H1 b_4
              replace H1 := req_some H1
              obtain ⟨q_3, H1⟩ := H1
              refine lok_rl E0 (⟨33, mkS [(0, .x (.one (.p (.sl 4 (List.map enc_api_AccessRule rules))))), (1, .x (.one (.p (.sl 5 (List.map enc_api_Evidence l))))), (2, .x (.one (.p (pi candidate)))), (3, .x (.one (.p (pi time)))), (9, .x (.one (.vw 109))), (10, .x (.one (.p (pi i))))], mkH [(109, .arr 1 (List.map encI (out1 ++ [i])))]⟩) ?_
              try simp only [thenL, blockL, ↓reduceIte, reduceCtorEq]
              exact ⟨(out1 ++ [i]), H1, imp_au⟩
            · intro b_4
              replace H1 := cneg H1 b_4
              refine lok_skip ?_
              try simp only [thenL, blockL, ↓reduceIte, reduceCtorEq]
              exact ⟨out1, H1, imp_au⟩
        · intro b_6
          replace H1 := cneg H1 b_6
          refine lok_exit ?_
          try simp only [thenL, blockL, ↓reduceIte, reduceCtorEq]
          have e_1 := k_1 _ (Option.some.inj H1).symm
          subst e_1
          try dsimp only at H0
          try simp only [thenL, blockL, ↓reduceIte, reduceCtorEq]
          exact ⟨out1, H0, imp_au⟩
theorem ok_law14_AccessGrants (t : List Int) (time : Int) (r_ : Bool) (H0 : law14_AccessGrants t time = some r_) : CallOK Try.prog 5 [.one (.p (.sl 1 (List.map encI t))), .one (.p (pi time))] [] [.one (.p (.val (.bool r_)))] [] := by
  refine callOK (n := 64) (rs := [.tmp 4]) (nb := 0) (V := []) Try.func5 rfl (by kernel_rfl) rfl rfl rfl rfl (Nat.le_of_ble_eq_true rfl) rfl (by decide) ?_
  unfold law14_AccessGrants at H0
  refine lok_rt E0 (⟨64, mkS [(0, .x (.one (.p (.sl 1 (List.map encI t))))), (1, .x (.one (.p (pi time))))], mkH []⟩) ?_
  replace H0 := bind_some H0
  obtain ⟨y, h_0, H0⟩ := H0
  refine lok_rt (Env.of E0 [⟨some 14, 12, [.one (.p (.sl 1 (List.map encI t)))], [], [.one (.ptr 0 0)], [some (.var [.p (.sl 1 (List.map encI y.L)), .p (pi y.At)])], True, fun _ => ok_make_New t y h_0⟩]) (⟨64, mkS [(1, .x (.one (.p (pi time)))), (5, .x (.one (.ptr 1014 0)))], mkH [(1014, .var [.p (.sl 1 (List.map encI y.L)), .p (pi y.At)])]⟩) ?_
  replace H0 := bind_some H0
  obtain ⟨⟨y1, y2⟩, h_1, H0⟩ := H0
  try dsimp only at H0
  replace H0 := bind_some H0
  obtain ⟨⟨y3, y4⟩, h_2, H0⟩ := H0
  try dsimp only at H0
  refine lok_rt (Env.of E0 [⟨some 16, 13, [.one (.ptr 0 0), .one (.p (pi (8 : Int)))], [.var [.p (.sl 1 (List.map encI y.L)), .p (pi y.At)]], [.one (.p (.sl 4 (List.map enc_api_AccessRule y1)))], [some (.var [.p (.sl 1 (List.map encI y2.L)), .p (pi y2.At)])], True, fun _ => ok_make_Tape_Rules y (8 : Int) (y1, y2) h_1⟩,
      ⟨some 18, 18, [.one (.ptr 0 0)], [.var [.p (.sl 1 (List.map encI y2.L)), .p (pi y2.At)]], [.one (.p (.sl 5 (List.map enc_api_Evidence y3)))], [some (.var [.p (.sl 1 (List.map encI y4.L)), .p (pi y4.At)])], True, fun _ => ok_make_Tape_Evidence y2 (y3, y4) h_2⟩]) (⟨64, mkS [(1, .x (.one (.p (pi time)))), (5, .x (.one (.ptr 1014 0))), (6, .x (.one (.p (.sl 4 (List.map enc_api_AccessRule y1))))), (7, .x (.one (.p (.sl 5 (List.map enc_api_Evidence y3)))))], mkH [(1014, .var [.p (.sl 1 (List.map encI y4.L)), .p (pi y4.At)])]⟩) ?_
  refine lok_join (fun x_ : Unit => law14_AccessGrants_j1 = some r_) (fun x_ => ⟨64, mkS [], mkH []⟩) ?hylaw14_AccessGrants_j1 ?hxlaw14_AccessGrants_j1
  case hylaw14_AccessGrants_j1 =>
    rintro _ H0
    try dsimp only at H0 ⊢
    unfold law14_AccessGrants_j1 at H0
    replace H0 := bind_some H0
    obtain ⟨y5, h_3, H0⟩ := H0
    refine lok_rt (Env.of E0 [⟨some 63, 16, [], [], [.one (.p (.val (.bool y5)))], [], True, fun _ => ok_law14_awake y5 h_3⟩]) (⟨64, mkS [(4, .x (.one (.p (.val (.bool y5)))))], mkH []⟩) ?_
    refine lok_ret ?_
    obtain rfl := Option.some.inj H0
    try simp only [thenL, blockL]
    exact fin_au _ (.inr rfl) [] (⟨64, mkS [(4, .x (.one (.p (.val (.bool y5)))))], mkH []⟩) rfl rfl imp_au
  case hxlaw14_AccessGrants_j1 =>
    refine lok_rt E0 (⟨64, mkS [(1, .x (.one (.p (pi time)))), (5, .x (.one (.ptr 1014 0))), (6, .x (.one (.p (.sl 4 (List.map enc_api_AccessRule y1))))), (7, .x (.one (.p (.sl 5 (List.map enc_api_Evidence y3))))), (8, .x (.one (.p (pi (0 : Int)))))], mkH [(1014, .var [.p (.sl 1 (List.map encI y4.L)), .p (pi y4.At)])]⟩) ?_
    refine lok_block ?_
    replace H0 := bind_some H0
    obtain ⟨v_4, hv_4, H0⟩ := H0
    refine lok_iter (fun x_ => ⟨64, mkS [(1, .x (.one (.p (pi x_.1)))), (5, .x (.one (.ptr 1014 0))), (6, .x (.one (.p (.sl 4 (List.map enc_api_AccessRule y1))))), (7, .x (.one (.p (.sl 5 (List.map enc_api_Evidence y3))))), (8, .x (.one (.p (pi x_.2.1))))], mkH [(1014, .var [.p (.sl 1 (List.map encI x_.2.2.1)), .p (pi x_.2.2.2)])]⟩) hv_4 imp_au ?_
    · rintro ⟨time1, i, w, w1⟩ o_1 H1 k_1
      unfold law14_AccessGrants_l2 at H1
      try dsimp only at H1 ⊢
      refine lok_seq ?_
      refine lok_rt E0 (⟨64, mkS [(1, .x (.one (.p (pi time1)))), (5, .x (.one (.ptr 1014 0))), (6, .x (.one (.p (.sl 4 (List.map enc_api_AccessRule y1))))), (7, .x (.one (.p (.sl 5 (List.map enc_api_Evidence y3))))), (8, .x (.one (.p (pi i)))), (20, .x (.one (.p (.val (.bool (decide (i < (2 : Int))))))))], mkH [(1014, .var [.p (.sl 1 (List.map encI w)), .p (pi w1)])]⟩) ?_
      refine lok_c (decide (i < (2 : Int))) ?_ ?_
      · intro b_12
        replace H1 := cpos H1 b_12
        refine lok_skip ?_
        try simp only [thenL, blockL, ↓reduceIte, reduceCtorEq]
        refine lok_seq ?_
        refine lok_block ?_
        replace H1 := bind_some H1
        obtain ⟨⟨y6, y7⟩, h_5, H1⟩ := H1
        try dsimp only at H1
        refine lok_rt (Env.of E0 [⟨some 28, 19, [.one (.p (.sl 4 (List.map enc_api_AccessRule y1))), .one (.p (.sl 5 (List.map enc_api_Evidence y3))), .one (.p (pi i)), .one (.p (pi time1))], [], [.agg [.p (pi y6.Extra), .p (pi y6.Needs)], .one (.p (pi y7))], [], True, fun _ => ok_access_Grant y1 y3 i time1 (y6, y7) h_5⟩]) (⟨64, mkS [(1, .x (.one (.p (pi time1)))), (5, .x (.one (.ptr 1014 0))), (6, .x (.one (.p (.sl 4 (List.map enc_api_AccessRule y1))))), (7, .x (.one (.p (.sl 5 (List.map enc_api_Evidence y3))))), (8, .x (.one (.p (pi i)))), (9, .x (.one (.ptr 109 0))), (10, .x (.one (.p (pi y7))))], mkH [(109, .var [.p (pi y6.Extra), .p (pi y6.Needs)]), (1014, .var [.p (.sl 1 (List.map encI w)), .p (pi w1)])]⟩) ?_
        replace H1 := bind_some H1
        obtain ⟨⟨y8, y9⟩, h_6, H1⟩ := H1
        try dsimp only at H1
        refine lok_rt (Env.of E0 [⟨some 36, 20, [.one (.p (.sl 4 (List.map enc_api_AccessRule y1))), .one (.p (.sl 5 (List.map enc_api_Evidence y3))), .one (.p (pi i)), .one (.p (pi time1))], [], [.agg [.p (pi y8.Extra), .p (pi y8.Needs)], .one (.p (pi y9))], [], True, fun _ => ok_ref14_Grant y1 y3 i time1 (y8, y9) h_6⟩]) (⟨64, mkS [(1, .x (.one (.p (pi time1)))), (5, .x (.one (.ptr 1014 0))), (6, .x (.one (.p (.sl 4 (List.map enc_api_AccessRule y1))))), (7, .x (.one (.p (.sl 5 (List.map enc_api_Evidence y3))))), (8, .x (.one (.p (pi i)))), (9, .x (.one (.ptr 109 0))), (10, .x (.one (.p (pi y7)))), (11, .x (.one (.ptr 111 0))), (12, .x (.one (.p (pi y9))))], mkH [(109, .var [.p (pi y6.Extra), .p (pi y6.Needs)]), (111, .var [.p (pi y8.Extra), .p (pi y8.Needs)]), (1014, .var [.p (.sl 1 (List.map encI w)), .p (pi w1)])]⟩) ?_
        refine lok_seq ?_
        replace H1 := req_some H1
        obtain ⟨⟨q_9, q_10, q_11⟩, H1⟩ := H1
        refine lok_rt (Env.of E0 [⟨some 52, 22, [.one (.p (.sl 4 (List.map enc_api_AccessRule y1))), .one (.p (.sl 5 (List.map enc_api_Evidence y3))), .one (.p (pi i)), .one (.p (pi time1))], [], [.one (.p (.sl 1 (List.map encI ((access_Reasons y1 y3 i time1).getD default))))], [], (access_Reasons y1 y3 i time1).isSome = true, fun h => ok_access_Reasons y1 y3 i time1 _ (isSome_get h)⟩,
      ⟨some 57, 23, [.one (.p (.sl 4 (List.map enc_api_AccessRule y1))), .one (.p (.sl 5 (List.map enc_api_Evidence y3))), .one (.p (pi i)), .one (.p (pi time1))], [], [.one (.p (.sl 1 (List.map encI ((ref14_Reasons y1 y3 i time1).getD default))))], [], (ref14_Reasons y1 y3 i time1).isSome = true, fun h => ok_ref14_Reasons y1 y3 i time1 _ (isSome_get h)⟩,
      ⟨some 58, 21, [.one (.p (.sl 1 (List.map encI ((access_Reasons y1 y3 i time1).getD default)))), .one (.p (.sl 1 (List.map encI ((ref14_Reasons y1 y3 i time1).getD default))))], [], [.one (.p (.val (.bool ((ref06_Ints ((access_Reasons y1 y3 i time1).getD default) ((ref14_Reasons y1 y3 i time1).getD default)).getD default))))], [], (ref06_Ints ((access_Reasons y1 y3 i time1).getD default) ((ref14_Reasons y1 y3 i time1).getD default)).isSome = true, fun h => ok_ref06_Ints ((access_Reasons y1 y3 i time1).getD default) ((ref14_Reasons y1 y3 i time1).getD default) _ (isSome_get h)⟩]) (⟨64, mkS [(5, .x (.one (.ptr 1014 0))), (6, .x (.one (.p (.sl 4 (List.map enc_api_AccessRule y1))))), (7, .x (.one (.p (.sl 5 (List.map enc_api_Evidence y3))))), (8, .x (.one (.p (pi i)))), (60, .x (.one (.p (.val (.bool (((!((y6.Extra == y8.Extra) && (y6.Needs == y8.Needs))) || (y7 != y9)) || (!((ref06_Ints ((access_Reasons y1 y3 i time1).getD default) ((ref14_Reasons y1 y3 i time1).getD default)).getD default))))))))], mkH [(1014, .var [.p (.sl 1 (List.map encI w)), .p (pi w1)])]⟩) ?_
        refine lok_c (((!((y6.Extra == y8.Extra) && (y6.Needs == y8.Needs))) || (y7 != y9)) || (!((ref06_Ints ((access_Reasons y1 y3 i time1).getD default) ((ref14_Reasons y1 y3 i time1).getD default)).getD default))) ?_ ?_
        · intro b_8
          replace H1 := cpos H1 b_8
          refine lok_rt E0 (⟨64, mkS [(4, .x (.one (.p (.val (.bool false)))))], mkH []⟩) ?_
          refine lok_ret ?_
          try simp only [thenL, blockL, ↓reduceIte, reduceCtorEq]
          have e_1 := k_1 _ (Option.some.inj H1).symm
          subst e_1
          try dsimp only at H0
          obtain rfl := Option.some.inj H0
          try simp only [thenL, blockL]
          exact fin_au _ (.inr rfl) [] (⟨64, mkS [(4, .x (.one (.p (.val (.bool false)))))], mkH []⟩) rfl rfl imp_au
        · intro b_8
          replace H1 := cneg H1 b_8
          refine lok_skip ?_
          try simp only [thenL, blockL, ↓reduceIte, reduceCtorEq]
          replace H1 := bind_some H1
          obtain ⟨⟨y10, y11⟩, h_7, H1⟩ := H1
          try dsimp only at H1
          refine lok_rl (Env.of E0 [⟨some 62, 24, [.one (.ptr 0 0), .one (.p (pi (0 : Int))), .one (.p (pi (30 : Int)))], [.var [.p (.sl 1 (List.map encI w)), .p (pi w1)]], [.one (.p (pi y10))], [some (.var [.p (.sl 1 (List.map encI y11.L)), .p (pi y11.At)])], True, fun _ => ok_make_Tape_Range (make_Tape.mk w w1) (0 : Int) (30 : Int) (y10, y11) h_7⟩]) (⟨64, mkS [(1, .x (.one (.p (pi y10)))), (5, .x (.one (.ptr 1014 0))), (6, .x (.one (.p (.sl 4 (List.map enc_api_AccessRule y1))))), (7, .x (.one (.p (.sl 5 (List.map enc_api_Evidence y3))))), (8, .x (.one (.p (pi i))))], mkH [(1014, .var [.p (.sl 1 (List.map encI y11.L)), .p (pi y11.At)])]⟩) ?_
          try simp only [thenL, blockL, ↓reduceIte, reduceCtorEq]
          refine lok_rl E0 (⟨64, mkS [(1, .x (.one (.p (pi y10)))), (5, .x (.one (.ptr 1014 0))), (6, .x (.one (.p (.sl 4 (List.map enc_api_AccessRule y1))))), (7, .x (.one (.p (.sl 5 (List.map enc_api_Evidence y3))))), (8, .x (.one (.p (pi (IntKind.i64.wrap (i + (1 : Int)))))))], mkH [(1014, .var [.p (.sl 1 (List.map encI y11.L)), .p (pi y11.At)])]⟩) ?_
          try simp only [thenL, blockL, ↓reduceIte, reduceCtorEq]
          exact ⟨(y10, (IntKind.i64.wrap (i + (1 : Int))), y11.L, y11.At), (Option.some.inj H1).symm, imp_au⟩
      · intro b_12
        replace H1 := cneg H1 b_12
        refine lok_exit ?_
        try simp only [thenL, blockL, ↓reduceIte, reduceCtorEq]
        have e_1 := k_1 _ (Option.some.inj H1).symm
        subst e_1
        try dsimp only at H0
        try simp only [thenL, blockL, ↓reduceIte, reduceCtorEq]
        exact ⟨(), H0, imp_au⟩
theorem ok_ref14_Minutes (base : Int) (a : api_Access) (r_ : Int × Int) (H0 : ref14_Minutes base a = some r_) : CallOK Try.prog 26 [.one (.p (pi base)), .agg [.p (pi a.Extra), .p (pi a.Needs)]] [] [.one (.p (pi r_.1)), .one (.p (pi r_.2))] [] := by
  refine callOK (n := 35) (rs := [.tmp 4, .tmp 5]) (nb := 0) (V := []) Try.func26 rfl (by kernel_rfl) rfl rfl rfl rfl (Nat.le_of_ble_eq_true rfl) rfl (by decide) ?_
  unfold ref14_Minutes at H0
  refine lok_rt E0 (⟨35, mkS [(0, .x (.one (.p (pi base)))), (3, .x (.one (.ptr 103 0)))], mkH [(103, .var [.p (pi a.Extra), .p (pi a.Needs)])]⟩) ?_
  refine lok_seq ?_
  replace H0 := bind_some H0
  obtain ⟨y, h_0, H0⟩ := H0
  refine lok_rt (Env.of E0 [⟨some 8, 41, [.agg [.p (pi a.Extra), .p (pi a.Needs)]], [], [.one (.p (.val (.bool y)))], [], True, fun _ => ok_ref14_Valid a y h_0⟩]) (⟨35, mkS [(0, .x (.one (.p (pi base)))), (3, .x (.one (.ptr 103 0))), (9, .x (.one (.p (.val (.bool (!y))))))], mkH [(103, .var [.p (pi a.Extra), .p (pi a.Needs)])]⟩) ?_
  refine lok_c (!y) ?_ ?_
  · intro b_5
    replace H0 := cpos H0 b_5
    refine lok_rt E0 (⟨35, mkS [(4, .x (.one (.p (pi (0 : Int))))), (5, .x (.one (.p (pi (1 : Int)))))], mkH []⟩) ?_
    refine lok_ret ?_
    obtain rfl := Option.some.inj H0
    try simp only [thenL, blockL]
    exact fin_au _ (.inr rfl) [] (⟨35, mkS [(4, .x (.one (.p (pi (0 : Int))))), (5, .x (.one (.p (pi (1 : Int)))))], mkH []⟩) rfl rfl imp_au
  · intro b_5
    replace H0 := cneg H0 b_5
    refine lok_skip ?_
    try simp only [thenL, blockL, ↓reduceIte, reduceCtorEq]
    refine lok_seq ?_
    refine lok_rt E0 (⟨35, mkS [(0, .x (.one (.p (pi base)))), (3, .x (.one (.ptr 103 0))), (15, .x (.one (.p (.val (.bool ((decide (base < (1 : Int))) || (decide ((600 : Int) < base))))))))], mkH [(103, .var [.p (pi a.Extra), .p (pi a.Needs)])]⟩) ?_
    refine lok_c ((decide (base < (1 : Int))) || (decide ((600 : Int) < base))) ?_ ?_
    · intro b_4
      replace H0 := cpos H0 b_4
      refine lok_rt E0 (⟨35, mkS [(4, .x (.one (.p (pi (0 : Int))))), (5, .x (.one (.p (pi (2 : Int)))))], mkH []⟩) ?_
      refine lok_ret ?_
      obtain rfl := Option.some.inj H0
      try simp only [thenL, blockL]
      exact fin_au _ (.inr rfl) [] (⟨35, mkS [(4, .x (.one (.p (pi (0 : Int))))), (5, .x (.one (.p (pi (2 : Int)))))], mkH []⟩) rfl rfl imp_au
    · intro b_4
      replace H0 := cneg H0 b_4
      refine lok_skip ?_
      try simp only [thenL, blockL, ↓reduceIte, reduceCtorEq]
      replace H0 := bindV_some H0
      obtain ⟨n, a_1, H0⟩ := H0
      refine lok_rtg E0 a_1 (⟨35, mkS [(0, .x (.one (.p (pi base)))), (3, .x (.one (.ptr 103 0))), (6, .x (.one (.p (pi n))))], mkH [(103, .var [.p (pi a.Extra), .p (pi a.Needs)])]⟩) ?_
      refine lok_join (fun x_ : Int => ref14_Minutes_j1 x_ = some r_) (fun x_ => ⟨35, mkS [(6, .x (.one (.p (pi x_))))], mkH []⟩) ?hyref14_Minutes_j1 ?hxref14_Minutes_j1
      case hyref14_Minutes_j1 =>
        rintro n1 H0
        try dsimp only at H0 ⊢
        unfold ref14_Minutes_j1 at H0
        refine lok_rt E0 (⟨35, mkS [(4, .x (.one (.p (pi n1)))), (5, .x (.one (.p (pi (0 : Int)))))], mkH []⟩) ?_
        refine lok_ret ?_
        obtain rfl := Option.some.inj H0
        try simp only [thenL, blockL]
        exact fin_au _ (.inr rfl) [] (⟨35, mkS [(4, .x (.one (.p (pi n1)))), (5, .x (.one (.p (pi (0 : Int)))))], mkH []⟩) rfl rfl imp_au
      case hxref14_Minutes_j1 =>
        refine lok_rt E0 (⟨35, mkS [(0, .x (.one (.p (pi base)))), (6, .x (.one (.p (pi n)))), (27, .x (.one (.p (.val (.bool ((bAnd .i64 a.Needs (32 : Int)) != (0 : Int)))))))], mkH []⟩) ?_
        refine lok_c ((bAnd .i64 a.Needs (32 : Int)) != (0 : Int)) ?_ ?_
        · intro b_3
          replace H0 := cpos H0 b_3
          replace H0 := bindV_some H0
          obtain ⟨n2, a_2, H0⟩ := H0
          refine lok_rlg E0 a_2 (⟨35, mkS [(6, .x (.one (.p (pi n2))))], mkH []⟩) ?_
          try simp only [thenL, blockL, ↓reduceIte, reduceCtorEq]
          exact ⟨n2, H0, imp_au⟩
        · intro b_3
          replace H0 := cneg H0 b_3
          refine lok_skip ?_
          try simp only [thenL, blockL, ↓reduceIte, reduceCtorEq]
          exact ⟨n, H0, imp_au⟩
theorem ok_law14_AccessMinutes (base : Int) (extra : Int) (needs : Int) (r_ : Bool) (H0 : law14_AccessMinutes base extra needs = some r_) : CallOK Try.prog 6 [.one (.p (pi base)), .one (.p (pi extra)), .one (.p (pi needs))] [] [.one (.p (.val (.bool r_)))] [] := by
  refine callOK (n := 73) (rs := [.tmp 6]) (nb := 0) (V := []) Try.func6 rfl (by kernel_rfl) rfl rfl rfl rfl (Nat.le_of_ble_eq_true rfl) rfl (by decide) ?_
  unfold law14_AccessMinutes at H0
  refine lok_rt E0 (⟨73, mkS [(0, .x (.one (.p (pi base)))), (1, .x (.one (.p (pi extra)))), (2, .x (.one (.p (pi needs))))], mkH []⟩) ?_
  replace H0 := bind_some H0
  obtain ⟨y, h_0, H0⟩ := H0
  replace H0 := bind_some H0
  obtain ⟨y1, h_1, H0⟩ := H0
  refine lok_rt (Env.of E0 [⟨some 22, 17, [.one (.p (pi extra)), .one (.p (pi (102 : Int)))], [], [.one (.p (pi y))], [], True, fun _ => ok_make_Cut extra (102 : Int) y h_0⟩,
      ⟨some 24, 17, [.one (.p (pi needs)), .one (.p (pi (65 : Int)))], [], [.one (.p (pi y1))], [], True, fun _ => ok_make_Cut needs (65 : Int) y1 h_1⟩]) (⟨73, mkS [(0, .x (.one (.p (pi base)))), (7, .x (.one (.ptr 107 0))), (8, .x (.one (.ptr 108 0)))], mkH [(107, .var [.p (pi extra), .p (pi needs)]), (108, .var [.p (pi y), .p (pi y1)])]⟩) ?_
  replace H0 := bind_some H0
  obtain ⟨y2, h_2, H0⟩ := H0
  refine lok_rt (Env.of E0 [⟨some 27, 17, [.one (.p (pi base)), .one (.p (pi (603 : Int)))], [], [.one (.p (pi y2))], [], True, fun _ => ok_make_Cut base (603 : Int) y2 h_2⟩]) (⟨73, mkS [(0, .x (.one (.p (pi base)))), (7, .x (.one (.ptr 107 0))), (8, .x (.one (.ptr 108 0))), (9, .x (.one (.p (pi y2))))], mkH [(107, .var [.p (pi extra), .p (pi needs)]), (108, .var [.p (pi y), .p (pi y1)])]⟩) ?_
  replace H0 := bind_some H0
  obtain ⟨⟨y3, y4⟩, h_3, H0⟩ := H0
  try dsimp only at H0
  refine lok_rt (Env.of E0 [⟨some 31, 25, [.one (.p (pi base)), .agg [.p (pi extra), .p (pi needs)]], [], [.one (.p (pi y3)), .one (.p (pi y4))], [], True, fun _ => ok_access_Minutes base (api_Access.mk extra needs) (y3, y4) h_3⟩]) (⟨73, mkS [(0, .x (.one (.p (pi base)))), (7, .x (.one (.ptr 107 0))), (8, .x (.one (.ptr 108 0))), (9, .x (.one (.p (pi y2)))), (10, .x (.one (.p (pi y3)))), (11, .x (.one (.p (pi y4))))], mkH [(107, .var [.p (pi extra), .p (pi needs)]), (108, .var [.p (pi y), .p (pi y1)])]⟩) ?_
  replace H0 := bind_some H0
  obtain ⟨⟨y5, y6⟩, h_4, H0⟩ := H0
  try dsimp only at H0
  refine lok_rt (Env.of E0 [⟨some 37, 26, [.one (.p (pi base)), .agg [.p (pi extra), .p (pi needs)]], [], [.one (.p (pi y5)), .one (.p (pi y6))], [], True, fun _ => ok_ref14_Minutes base (api_Access.mk extra needs) (y5, y6) h_4⟩]) (⟨73, mkS [(8, .x (.one (.ptr 108 0))), (9, .x (.one (.p (pi y2)))), (10, .x (.one (.p (pi y3)))), (11, .x (.one (.p (pi y4)))), (12, .x (.one (.p (pi y5)))), (13, .x (.one (.p (pi y6))))], mkH [(108, .var [.p (pi y), .p (pi y1)])]⟩) ?_
  replace H0 := bind_some H0
  obtain ⟨⟨y7, y8⟩, h_5, H0⟩ := H0
  try dsimp only at H0
  refine lok_rt (Env.of E0 [⟨some 43, 25, [.one (.p (pi y2)), .agg [.p (pi y), .p (pi y1)]], [], [.one (.p (pi y7)), .one (.p (pi y8))], [], True, fun _ => ok_access_Minutes y2 (api_Access.mk y y1) (y7, y8) h_5⟩]) (⟨73, mkS [(8, .x (.one (.ptr 108 0))), (9, .x (.one (.p (pi y2)))), (10, .x (.one (.p (pi y3)))), (11, .x (.one (.p (pi y4)))), (12, .x (.one (.p (pi y5)))), (13, .x (.one (.p (pi y6)))), (14, .x (.one (.p (pi y7)))), (15, .x (.one (.p (pi y8))))], mkH [(108, .var [.p (pi y), .p (pi y1)])]⟩) ?_
  replace H0 := bind_some H0
  obtain ⟨⟨y9, y10⟩, h_6, H0⟩ := H0
  try dsimp only at H0
  refine lok_rt (Env.of E0 [⟨some 49, 26, [.one (.p (pi y2)), .agg [.p (pi y), .p (pi y1)]], [], [.one (.p (pi y9)), .one (.p (pi y10))], [], True, fun _ => ok_ref14_Minutes y2 (api_Access.mk y y1) (y9, y10) h_6⟩]) (⟨73, mkS [(10, .x (.one (.p (pi y3)))), (11, .x (.one (.p (pi y4)))), (12, .x (.one (.p (pi y5)))), (13, .x (.one (.p (pi y6)))), (14, .x (.one (.p (pi y7)))), (15, .x (.one (.p (pi y8)))), (16, .x (.one (.p (pi y9)))), (17, .x (.one (.p (pi y10))))], mkH []⟩) ?_
  replace H0 := req_some H0
  obtain ⟨q_7, H0⟩ := H0
  refine lok_rt (Env.of E0 [⟨some 71, 16, [], [], [.one (.p (.val (.bool ((law14_awake).getD default))))], [], (law14_awake).isSome = true, fun h => ok_law14_awake _ (isSome_get h)⟩]) (⟨73, mkS [(6, .x (.one (.p (.val (.bool (((((y3 == y5) && (y4 == y6)) && (y7 == y9)) && (y8 == y10)) && ((law14_awake).getD default)))))))], mkH []⟩) ?_
  refine lok_ret ?_
  obtain rfl := Option.some.inj H0
  try simp only [thenL, blockL]
  exact fin_au _ (.inr rfl) [] (⟨73, mkS [(6, .x (.one (.p (.val (.bool (((((y3 == y5) && (y4 == y6)) && (y7 == y9)) && (y8 == y10)) && ((law14_awake).getD default)))))))], mkH []⟩) rfl rfl imp_au
theorem ok_make_Tape_Order (t : make_Tape) (n : Int) (r_ : (List Int) × make_Tape) (H0 : make_Tape_Order t n = some r_) : CallOK Try.prog 27 [.one (.ptr 0 0), .one (.p (pi n))] [.var [.p (.sl 1 (List.map encI t.L)), .p (pi t.At)]] [.one (.p (.sl 1 (List.map encI r_.1)))] [some (.var [.p (.sl 1 (List.map encI r_.2.L)), .p (pi r_.2.At)])] := by
  refine callOK (n := 33) (rs := [.tmp 4]) (nb := 1) (V := [0]) Try.func27 rfl (by kernel_rfl) rfl rfl rfl rfl (Nat.le_of_ble_eq_true rfl) rfl (by decide) ?_
  unfold make_Tape_Order at H0
  refine lok_rt E0 (⟨33, mkS [(0, .x (.one (.ptr 0 0))), (1, .x (.one (.p (pi n))))], mkH [(0, .var [.p (.sl 1 (List.map encI t.L)), .p (pi t.At)])]⟩) ?_
  refine lok_rt E0 (⟨33, mkS [(0, .x (.one (.ptr 0 0))), (1, .x (.one (.p (pi n)))), (5, .x (.one (.vw 105)))], mkH [(0, .var [.p (.sl 1 (List.map encI t.L)), .p (pi t.At)]), (105, .arr 1 (List.map encI ([] : List Int)))]⟩) ?_
  refine lok_join (fun x_ : (List Int) × (List Int) × Int => make_Tape_Order_j1 x_.1 x_.2.1 x_.2.2 = some r_) (fun x_ => ⟨33, mkS [(5, .x (.one (.p (.sl 1 (List.map encI x_.1)))))], mkH [(0, .var [.p (.sl 1 (List.map encI x_.2.1)), .p (pi x_.2.2)])]⟩) ?hymake_Tape_Order_j1 ?hxmake_Tape_Order_j1
  case hymake_Tape_Order_j1 =>
    rintro ⟨out, t1, t2⟩ H0
    try dsimp only at H0 ⊢
    unfold make_Tape_Order_j1 at H0
    refine lok_rt E0 (⟨33, mkS [(4, .x (.one (.p (.sl 1 (List.map encI out)))))], mkH [(0, .var [.p (.sl 1 (List.map encI t1)), .p (pi t2)])]⟩) ?_
    refine lok_ret ?_
    obtain rfl := Option.some.inj H0
    try simp only [thenL, blockL]
    exact fin_au _ (.inr rfl) [0] (⟨33, mkS [(4, .x (.one (.p (.sl 1 (List.map encI out)))))], mkH [(0, .var [.p (.sl 1 (List.map encI t1)), .p (pi t2)])]⟩) rfl rfl imp_au
  case hxmake_Tape_Order_j1 =>
    refine lok_rt E0 (⟨33, mkS [(0, .x (.one (.ptr 0 0))), (1, .x (.one (.p (pi n)))), (5, .x (.one (.vw 105))), (6, .x (.one (.p (pi (0 : Int)))))], mkH [(0, .var [.p (.sl 1 (List.map encI t.L)), .p (pi t.At)]), (105, .arr 1 (List.map encI ([] : List Int)))]⟩) ?_
    refine lok_block ?_
    replace H0 := bind_some H0
    obtain ⟨v_0, hv_0, H0⟩ := H0
    refine lok_iter (fun x_ => ⟨33, mkS [(0, .x (.one (.ptr 0 0))), (1, .x (.one (.p (pi n)))), (5, .x (.one (.p (.sl 1 (List.map encI x_.1))))), (6, .x (.one (.p (pi x_.2.1))))], mkH [(0, .var [.p (.sl 1 (List.map encI x_.2.2.1)), .p (pi x_.2.2.2)])]⟩) hv_0 (Imp.trans (imp_frz 105 1 (List.map encI ([] : List Int))) imp_au) ?_
    · rintro ⟨out1, i, t3, t4⟩ o_1 H1 k_1
      unfold make_Tape_Order_l2 at H1
      try dsimp only at H1 ⊢
      refine lok_seq ?_
      refine lok_rt E0 (⟨33, mkS [(0, .x (.one (.ptr 0 0))), (1, .x (.one (.p (pi n)))), (5, .x (.one (.p (.sl 1 (List.map encI out1))))), (6, .x (.one (.p (pi i)))), (11, .x (.one (.p (.val (.bool (decide (i < n)))))))], mkH [(0, .var [.p (.sl 1 (List.map encI t3)), .p (pi t4)])]⟩) ?_
      refine lok_c (decide (i < n)) ?_ ?_
      · intro b_8
        replace H1 := cpos H1 b_8
        refine lok_skip ?_
        try simp only [thenL, blockL, ↓reduceIte, reduceCtorEq]
        refine lok_seq ?_
        refine lok_block ?_
        replace H1 := bind_some H1
        obtain ⟨⟨y, y1⟩, h_1, H1⟩ := H1
        try dsimp only at H1
        refine lok_rt (Env.of E0 [⟨some 17, 35, [.one (.ptr 0 0), .one (.p (pi (IntKind.i64.wrap (i + (1 : Int)))))], [.var [.p (.sl 1 (List.map encI t3)), .p (pi t4)]], [.one (.p (pi y))], [some (.var [.p (.sl 1 (List.map encI y1.L)), .p (pi y1.At)])], True, fun _ => ok_make_Tape_Next (make_Tape.mk t3 t4) (IntKind.i64.wrap (i + (1 : Int))) (y, y1) h_1⟩]) (⟨33, mkS [(0, .x (.one (.ptr 0 0))), (1, .x (.one (.p (pi n)))), (5, .x (.one (.p (.sl 1 (List.map encI out1))))), (6, .x (.one (.p (pi i)))), (7, .x (.one (.p (pi y))))], mkH [(0, .var [.p (.sl 1 (List.map encI y1.L)), .p (pi y1.At)])]⟩) ?_
        refine lok_rt E0 (⟨33, mkS [(0, .x (.one (.ptr 0 0))), (1, .x (.one (.p (pi n)))), (5, .x (.one (.p (.sl 1 (List.map encI out1))))), (6, .x (.one (.p (pi i)))), (7, .x (.one (.p (pi y)))), (8, .x (.one (.vw 108)))], mkH [(0, .var [.p (.sl 1 (List.map encI y1.L)), .p (pi y1.At)]), (108, .arr 1 (List.map encI ([] : List Int)))]⟩) ?_
        replace H1 := req_some H1
        obtain ⟨⟨q_6, q_7⟩, H1⟩ := H1
        refine lok_rt E0 (⟨33, mkS [(0, .x (.one (.ptr 0 0))), (1, .x (.one (.p (pi n)))), (5, .x (.one (.p (.sl 1 (List.map encI out1))))), (6, .x (.one (.p (pi i)))), (7, .x (.one (.p (pi y)))), (8, .x (.one (.vw 108)))], mkH [(0, .var [.p (.sl 1 (List.map encI y1.L)), .p (pi y1.At)]), (108, .arr 1 (List.map encI (([] : List Int) ++ (List.take y.toNat out1))))]⟩) ?_
        replace H1 := req_some H1
        obtain ⟨q_5, H1⟩ := H1
        refine lok_rt E0 (⟨33, mkS [(0, .x (.one (.ptr 0 0))), (1, .x (.one (.p (pi n)))), (5, .x (.one (.p (.sl 1 (List.map encI out1))))), (6, .x (.one (.p (pi i)))), (7, .x (.one (.p (pi y)))), (8, .x (.one (.vw 108)))], mkH [(0, .var [.p (.sl 1 (List.map encI y1.L)), .p (pi y1.At)]), (108, .arr 1 (List.map encI ((([] : List Int) ++ (List.take y.toNat out1)) ++ [i])))]⟩) ?_
        replace H1 := req_some H1
        obtain ⟨⟨q_3, q_4⟩, H1⟩ := H1
        replace H1 := bindV_some H1
        obtain ⟨next, a_2, H1⟩ := H1
        refine lok_rlg E0 a_2 (⟨33, mkS [(0, .x (.one (.ptr 0 0))), (1, .x (.one (.p (pi n)))), (5, .x (.one (.vw 108))), (6, .x (.one (.p (pi i))))], mkH [(0, .var [.p (.sl 1 (List.map encI y1.L)), .p (pi y1.At)]), (108, .arr 1 (List.map encI next))]⟩) ?_
        try simp only [thenL, blockL, ↓reduceIte, reduceCtorEq]
        refine lok_rl E0 (⟨33, mkS [(0, .x (.one (.ptr 0 0))), (1, .x (.one (.p (pi n)))), (5, .x (.one (.vw 108))), (6, .x (.one (.p (pi (IntKind.i64.wrap (i + (1 : Int)))))))], mkH [(0, .var [.p (.sl 1 (List.map encI y1.L)), .p (pi y1.At)]), (108, .arr 1 (List.map encI next))]⟩) ?_
        try simp only [thenL, blockL, ↓reduceIte, reduceCtorEq]
        exact ⟨(next, (IntKind.i64.wrap (i + (1 : Int))), y1.L, y1.At), (Option.some.inj H1).symm, (Imp.trans (imp_frz 108 1 (List.map encI next)) imp_au)⟩
      · intro b_8
        replace H1 := cneg H1 b_8
        refine lok_exit ?_
        try simp only [thenL, blockL, ↓reduceIte, reduceCtorEq]
        have e_1 := k_1 _ (Option.some.inj H1).symm
        subst e_1
        try dsimp only at H0
        try simp only [thenL, blockL, ↓reduceIte, reduceCtorEq]
        exact ⟨(out1, t3, t4), H0, imp_au⟩
theorem ok_make_Tape_Mixed (t : make_Tape) (n : Int) (r_ : (List Int) × make_Tape) (H0 : make_Tape_Mixed t n = some r_) : CallOK Try.prog 28 [.one (.ptr 0 0), .one (.p (pi n))] [.var [.p (.sl 1 (List.map encI t.L)), .p (pi t.At)]] [.one (.p (.sl 1 (List.map encI r_.1)))] [some (.var [.p (.sl 1 (List.map encI r_.2.L)), .p (pi r_.2.At)])] := by
  refine callOK (n := 46) (rs := [.tmp 4]) (nb := 1) (V := [0]) Try.func28 rfl (by kernel_rfl) rfl rfl rfl rfl (Nat.le_of_ble_eq_true rfl) rfl (by decide) ?_
  unfold make_Tape_Mixed at H0
  refine lok_rt E0 (⟨46, mkS [(0, .x (.one (.ptr 0 0))), (1, .x (.one (.p (pi n))))], mkH [(0, .var [.p (.sl 1 (List.map encI t.L)), .p (pi t.At)])]⟩) ?_
  replace H0 := bind_some H0
  obtain ⟨⟨y, y1⟩, h_0, H0⟩ := H0
  try dsimp only at H0
  refine lok_rt (Env.of E0 [⟨some 12, 27, [.one (.ptr 0 0), .one (.p (pi n))], [.var [.p (.sl 1 (List.map encI t.L)), .p (pi t.At)]], [.one (.p (.sl 1 (List.map encI y)))], [some (.var [.p (.sl 1 (List.map encI y1.L)), .p (pi y1.At)])], True, fun _ => ok_make_Tape_Order t n (y, y1) h_0⟩]) (⟨46, mkS [(0, .x (.one (.ptr 0 0))), (1, .x (.one (.p (pi n)))), (5, .x (.one (.p (.sl 1 (List.map encI y)))))], mkH [(0, .var [.p (.sl 1 (List.map encI y1.L)), .p (pi y1.At)])]⟩) ?_
  refine lok_join (fun x_ : (List Int) × (List Int) × Int => make_Tape_Mixed_j1 x_.1 x_.2.1 x_.2.2 = some r_) (fun x_ => ⟨46, mkS [(5, .x (.one (.p (.sl 1 (List.map encI x_.1)))))], mkH [(0, .var [.p (.sl 1 (List.map encI x_.2.1)), .p (pi x_.2.2)])]⟩) ?hymake_Tape_Mixed_j1 ?hxmake_Tape_Mixed_j1
  case hymake_Tape_Mixed_j1 =>
    rintro ⟨out, t1, t2⟩ H0
    try dsimp only at H0 ⊢
    unfold make_Tape_Mixed_j1 at H0
    refine lok_rt E0 (⟨46, mkS [(4, .x (.one (.p (.sl 1 (List.map encI out)))))], mkH [(0, .var [.p (.sl 1 (List.map encI t1)), .p (pi t2)])]⟩) ?_
    refine lok_ret ?_
    obtain rfl := Option.some.inj H0
    try simp only [thenL, blockL]
    exact fin_au _ (.inr rfl) [0] (⟨46, mkS [(4, .x (.one (.p (.sl 1 (List.map encI out)))))], mkH [(0, .var [.p (.sl 1 (List.map encI t1)), .p (pi t2)])]⟩) rfl rfl imp_au
  case hxmake_Tape_Mixed_j1 =>
    replace H0 := bind_some H0
    obtain ⟨⟨y2, y3⟩, h_1, H0⟩ := H0
    try dsimp only at H0
    refine lok_rt (Env.of E0 [⟨some 14, 35, [.one (.ptr 0 0), .one (.p (pi (4 : Int)))], [.var [.p (.sl 1 (List.map encI y1.L)), .p (pi y1.At)]], [.one (.p (pi y2))], [some (.var [.p (.sl 1 (List.map encI y3.L)), .p (pi y3.At)])], True, fun _ => ok_make_Tape_Next y1 (4 : Int) (y2, y3) h_1⟩]) (⟨46, mkS [(0, .x (.one (.ptr 0 0))), (1, .x (.one (.p (pi n)))), (5, .x (.one (.p (.sl 1 (List.map encI y))))), (6, .x (.one (.p (pi y2))))], mkH [(0, .var [.p (.sl 1 (List.map encI y3.L)), .p (pi y3.At)])]⟩) ?_
    refine lok_block ?_
    replace H0 := bind_some H0
    obtain ⟨v_2, hv_2, H0⟩ := H0
    refine lok_iter (fun x_ => ⟨46, mkS [(0, .x (.one (.ptr 0 0))), (1, .x (.one (.p (pi n)))), (5, .x (.one (.p (.sl 1 (List.map encI x_.1))))), (6, .x (.one (.p (pi x_.2.1))))], mkH [(0, .var [.p (.sl 1 (List.map encI x_.2.2.1)), .p (pi x_.2.2.2)])]⟩) hv_2 imp_au ?_
    · rintro ⟨out1, i, t3, t4⟩ o_1 H1 k_1
      unfold make_Tape_Mixed_l2 at H1
      try dsimp only at H1 ⊢
      refine lok_seq ?_
      refine lok_rt E0 (⟨46, mkS [(0, .x (.one (.ptr 0 0))), (1, .x (.one (.p (pi n)))), (5, .x (.one (.p (.sl 1 (List.map encI out1))))), (6, .x (.one (.p (pi i)))), (20, .x (.one (.p (.val (.bool ((decide ((0 : Int) < i)) && (decide ((0 : Int) < n))))))))], mkH [(0, .var [.p (.sl 1 (List.map encI t3)), .p (pi t4)])]⟩) ?_
      refine lok_c ((decide ((0 : Int) < i)) && (decide ((0 : Int) < n))) ?_ ?_
      · intro b_11
        replace H1 := cpos H1 b_11
        refine lok_skip ?_
        try simp only [thenL, blockL, ↓reduceIte, reduceCtorEq]
        refine lok_seq ?_
        refine lok_block ?_
        replace H1 := bind_some H1
        obtain ⟨⟨y4, y5⟩, h_3, H1⟩ := H1
        try dsimp only at H1
        replace H1 := bind_some H1
        obtain ⟨⟨y6, y7⟩, h_4, H1⟩ := H1
        try dsimp only at H1
        refine lok_rt (Env.of E0 [⟨some 27, 35, [.one (.ptr 0 0), .one (.p (pi (IntKind.i64.wrap ((out1.length : Int) + (1 : Int)))))], [.var [.p (.sl 1 (List.map encI t3)), .p (pi t4)]], [.one (.p (pi y4))], [some (.var [.p (.sl 1 (List.map encI y5.L)), .p (pi y5.At)])], True, fun _ => ok_make_Tape_Next (make_Tape.mk t3 t4) (IntKind.i64.wrap ((out1.length : Int) + (1 : Int))) (y4, y5) h_3⟩,
      ⟨some 30, 35, [.one (.ptr 0 0), .one (.p (pi n))], [.var [.p (.sl 1 (List.map encI y5.L)), .p (pi y5.At)]], [.one (.p (pi y6))], [some (.var [.p (.sl 1 (List.map encI y7.L)), .p (pi y7.At)])], True, fun _ => ok_make_Tape_Next y5 n (y6, y7) h_4⟩]) (⟨46, mkS [(0, .x (.one (.ptr 0 0))), (1, .x (.one (.p (pi n)))), (5, .x (.one (.p (.sl 1 (List.map encI out1))))), (6, .x (.one (.p (pi i)))), (7, .x (.one (.p (pi y4)))), (8, .x (.one (.p (pi y6))))], mkH [(0, .var [.p (.sl 1 (List.map encI y7.L)), .p (pi y7.At)])]⟩) ?_
        refine lok_rt E0 (⟨46, mkS [(0, .x (.one (.ptr 0 0))), (1, .x (.one (.p (pi n)))), (5, .x (.one (.p (.sl 1 (List.map encI out1))))), (6, .x (.one (.p (pi i)))), (7, .x (.one (.p (pi y4)))), (8, .x (.one (.p (pi y6)))), (9, .x (.one (.vw 109)))], mkH [(0, .var [.p (.sl 1 (List.map encI y7.L)), .p (pi y7.At)]), (109, .arr 1 (List.map encI ([] : List Int)))]⟩) ?_
        replace H1 := req_some H1
        obtain ⟨⟨q_9, q_10⟩, H1⟩ := H1
        refine lok_rt E0 (⟨46, mkS [(0, .x (.one (.ptr 0 0))), (1, .x (.one (.p (pi n)))), (5, .x (.one (.p (.sl 1 (List.map encI out1))))), (6, .x (.one (.p (pi i)))), (7, .x (.one (.p (pi y4)))), (8, .x (.one (.p (pi y6)))), (9, .x (.one (.vw 109)))], mkH [(0, .var [.p (.sl 1 (List.map encI y7.L)), .p (pi y7.At)]), (109, .arr 1 (List.map encI (([] : List Int) ++ (List.take y4.toNat out1))))]⟩) ?_
        replace H1 := req_some H1
        obtain ⟨q_8, H1⟩ := H1
        refine lok_rt E0 (⟨46, mkS [(0, .x (.one (.ptr 0 0))), (1, .x (.one (.p (pi n)))), (5, .x (.one (.p (.sl 1 (List.map encI out1))))), (6, .x (.one (.p (pi i)))), (7, .x (.one (.p (pi y4)))), (9, .x (.one (.vw 109)))], mkH [(0, .var [.p (.sl 1 (List.map encI y7.L)), .p (pi y7.At)]), (109, .arr 1 (List.map encI ((([] : List Int) ++ (List.take y4.toNat out1)) ++ [y6])))]⟩) ?_
        replace H1 := req_some H1
        obtain ⟨⟨q_6, q_7⟩, H1⟩ := H1
        replace H1 := bindV_some H1
        obtain ⟨next, a_5, H1⟩ := H1
        refine lok_rlg E0 a_5 (⟨46, mkS [(0, .x (.one (.ptr 0 0))), (1, .x (.one (.p (pi n)))), (5, .x (.one (.vw 109))), (6, .x (.one (.p (pi i))))], mkH [(0, .var [.p (.sl 1 (List.map encI y7.L)), .p (pi y7.At)]), (109, .arr 1 (List.map encI next))]⟩) ?_
        try simp only [thenL, blockL, ↓reduceIte, reduceCtorEq]
        refine lok_rl E0 (⟨46, mkS [(0, .x (.one (.ptr 0 0))), (1, .x (.one (.p (pi n)))), (5, .x (.one (.vw 109))), (6, .x (.one (.p (pi (IntKind.i64.wrap (i - (1 : Int)))))))], mkH [(0, .var [.p (.sl 1 (List.map encI y7.L)), .p (pi y7.At)]), (109, .arr 1 (List.map encI next))]⟩) ?_
        try simp only [thenL, blockL, ↓reduceIte, reduceCtorEq]
        exact ⟨(next, (IntKind.i64.wrap (i - (1 : Int))), y7.L, y7.At), (Option.some.inj H1).symm, (Imp.trans (imp_frz 109 1 (List.map encI next)) imp_au)⟩
      · intro b_11
        replace H1 := cneg H1 b_11
        refine lok_exit ?_
        try simp only [thenL, blockL, ↓reduceIte, reduceCtorEq]
        have e_1 := k_1 _ (Option.some.inj H1).symm
        subst e_1
        try dsimp only at H0
        try simp only [thenL, blockL, ↓reduceIte, reduceCtorEq]
        exact ⟨(out1, t3, t4), H0, imp_au⟩
theorem ok_law14_AccessAnyOrder (t : List Int) (time : Int) (r_ : Bool) (H0 : law14_AccessAnyOrder t time = some r_) : CallOK Try.prog 7 [.one (.p (.sl 1 (List.map encI t))), .one (.p (pi time))] [] [.one (.p (.val (.bool r_)))] [] := by
  refine callOK (n := 94) (rs := [.tmp 4]) (nb := 0) (V := []) Try.func7 rfl (by kernel_rfl) rfl rfl rfl rfl (Nat.le_of_ble_eq_true rfl) rfl (by decide) ?_
  unfold law14_AccessAnyOrder at H0
  refine lok_rt E0 (⟨94, mkS [(0, .x (.one (.p (.sl 1 (List.map encI t))))), (1, .x (.one (.p (pi time))))], mkH []⟩) ?_
  replace H0 := bind_some H0
  obtain ⟨y, h_0, H0⟩ := H0
  refine lok_rt (Env.of E0 [⟨some 19, 12, [.one (.p (.sl 1 (List.map encI t)))], [], [.one (.ptr 0 0)], [some (.var [.p (.sl 1 (List.map encI y.L)), .p (pi y.At)])], True, fun _ => ok_make_New t y h_0⟩]) (⟨94, mkS [(1, .x (.one (.p (pi time)))), (5, .x (.one (.ptr 1019 0)))], mkH [(1019, .var [.p (.sl 1 (List.map encI y.L)), .p (pi y.At)])]⟩) ?_
  replace H0 := bind_some H0
  obtain ⟨⟨y1, y2⟩, h_1, H0⟩ := H0
  try dsimp only at H0
  replace H0 := bind_some H0
  obtain ⟨⟨y3, y4⟩, h_2, H0⟩ := H0
  try dsimp only at H0
  refine lok_rt (Env.of E0 [⟨some 21, 13, [.one (.ptr 0 0), .one (.p (pi (0 : Int)))], [.var [.p (.sl 1 (List.map encI y.L)), .p (pi y.At)]], [.one (.p (.sl 4 (List.map enc_api_AccessRule y1)))], [some (.var [.p (.sl 1 (List.map encI y2.L)), .p (pi y2.At)])], True, fun _ => ok_make_Tape_Rules y (0 : Int) (y1, y2) h_1⟩,
      ⟨some 23, 18, [.one (.ptr 0 0)], [.var [.p (.sl 1 (List.map encI y2.L)), .p (pi y2.At)]], [.one (.p (.sl 5 (List.map enc_api_Evidence y3)))], [some (.var [.p (.sl 1 (List.map encI y4.L)), .p (pi y4.At)])], True, fun _ => ok_make_Tape_Evidence y2 (y3, y4) h_2⟩]) (⟨94, mkS [(1, .x (.one (.p (pi time)))), (5, .x (.one (.ptr 1019 0))), (6, .x (.one (.p (.sl 4 (List.map enc_api_AccessRule y1))))), (7, .x (.one (.p (.sl 5 (List.map enc_api_Evidence y3)))))], mkH [(1019, .var [.p (.sl 1 (List.map encI y4.L)), .p (pi y4.At)])]⟩) ?_
  replace H0 := bind_some H0
  obtain ⟨⟨y5, y6⟩, h_3, H0⟩ := H0
  try dsimp only at H0
  replace H0 := bind_some H0
  obtain ⟨⟨y7, y8⟩, h_4, H0⟩ := H0
  try dsimp only at H0
  refine lok_rt (Env.of E0 [⟨some 27, 27, [.one (.ptr 0 0), .one (.p (pi (y1.length : Int)))], [.var [.p (.sl 1 (List.map encI y4.L)), .p (pi y4.At)]], [.one (.p (.sl 1 (List.map encI y5)))], [some (.var [.p (.sl 1 (List.map encI y6.L)), .p (pi y6.At)])], True, fun _ => ok_make_Tape_Order y4 (y1.length : Int) (y5, y6) h_3⟩,
      ⟨some 31, 28, [.one (.ptr 0 0), .one (.p (pi (y3.length : Int)))], [.var [.p (.sl 1 (List.map encI y6.L)), .p (pi y6.At)]], [.one (.p (.sl 1 (List.map encI y7)))], [some (.var [.p (.sl 1 (List.map encI y8.L)), .p (pi y8.At)])], True, fun _ => ok_make_Tape_Mixed y6 (y3.length : Int) (y7, y8) h_4⟩]) (⟨94, mkS [(1, .x (.one (.p (pi time)))), (6, .x (.one (.p (.sl 4 (List.map enc_api_AccessRule y1))))), (7, .x (.one (.p (.sl 5 (List.map enc_api_Evidence y3))))), (8, .x (.one (.p (.sl 1 (List.map encI y5))))), (9, .x (.one (.p (.sl 1 (List.map encI y7)))))], mkH []⟩) ?_
  replace H0 := bind_some H0
  obtain ⟨y9, h_5, H0⟩ := H0
  refine lok_rt (Env.of E0 [⟨some 33, 17, [.one (.p (pi time)), .one (.p (pi (30 : Int)))], [], [.one (.p (pi y9))], [], True, fun _ => ok_make_Cut time (30 : Int) y9 h_5⟩]) (⟨94, mkS [(1, .x (.one (.p (pi y9)))), (6, .x (.one (.p (.sl 4 (List.map enc_api_AccessRule y1))))), (7, .x (.one (.p (.sl 5 (List.map enc_api_Evidence y3))))), (8, .x (.one (.p (.sl 1 (List.map encI y5))))), (9, .x (.one (.p (.sl 1 (List.map encI y7)))))], mkH []⟩) ?_
  refine lok_rt E0 (⟨94, mkS [(1, .x (.one (.p (pi y9)))), (6, .x (.one (.p (.sl 4 (List.map enc_api_AccessRule y1))))), (7, .x (.one (.p (.sl 5 (List.map enc_api_Evidence y3))))), (8, .x (.one (.p (.sl 1 (List.map encI y5))))), (9, .x (.one (.p (.sl 1 (List.map encI y7))))), (10, .x (.one (.vw 110)))], mkH [(110, .arr 4 (List.map enc_api_AccessRule ([] : List api_AccessRule)))]⟩) ?_
  refine lok_rt E0 (⟨94, mkS [(1, .x (.one (.p (pi y9)))), (6, .x (.one (.p (.sl 4 (List.map enc_api_AccessRule y1))))), (7, .x (.one (.p (.sl 5 (List.map enc_api_Evidence y3))))), (8, .x (.one (.p (.sl 1 (List.map encI y5))))), (9, .x (.one (.p (.sl 1 (List.map encI y7))))), (10, .x (.one (.vw 110))), (11, .x (.one (.vw 111)))], mkH [(110, .arr 4 (List.map enc_api_AccessRule ([] : List api_AccessRule))), (111, .arr 5 (List.map enc_api_Evidence ([] : List api_Evidence)))]⟩) ?_
  refine lok_join (fun x_ : (List api_AccessRule) => law14_AccessAnyOrder_j3 y1 y3 y7 y9 x_ = some r_) (fun x_ => ⟨94, mkS [(1, .x (.one (.p (pi y9)))), (6, .x (.one (.p (.sl 4 (List.map enc_api_AccessRule y1))))), (7, .x (.one (.p (.sl 5 (List.map enc_api_Evidence y3))))), (9, .x (.one (.p (.sl 1 (List.map encI y7))))), (10, .x (.one (.vw 110))), (11, .x (.one (.vw 111)))], mkH [(110, .arr 4 (List.map enc_api_AccessRule x_)), (111, .arr 5 (List.map enc_api_Evidence ([] : List api_Evidence)))]⟩) ?hylaw14_AccessAnyOrder_j3 ?hxlaw14_AccessAnyOrder_j3
  case hylaw14_AccessAnyOrder_j3 =>
    rintro m H0
    try dsimp only at H0 ⊢
    unfold law14_AccessAnyOrder_j3 at H0
    refine lok_join (fun x_ : (List api_Evidence) => law14_AccessAnyOrder_j1 y1 y3 y9 m x_ = some r_) (fun x_ => ⟨94, mkS [(1, .x (.one (.p (pi y9)))), (6, .x (.one (.p (.sl 4 (List.map enc_api_AccessRule y1))))), (7, .x (.one (.p (.sl 5 (List.map enc_api_Evidence y3))))), (10, .x (.one (.vw 110))), (11, .x (.one (.vw 111)))], mkH [(110, .arr 4 (List.map enc_api_AccessRule m)), (111, .arr 5 (List.map enc_api_Evidence x_))]⟩) ?hylaw14_AccessAnyOrder_j1 ?hxlaw14_AccessAnyOrder_j1
    case hylaw14_AccessAnyOrder_j1 =>
      rintro n H0
      try dsimp only at H0 ⊢
      unfold law14_AccessAnyOrder_j1 at H0
      replace H0 := bind_some H0
      obtain ⟨⟨y10, y11⟩, h_6, H0⟩ := H0
      try dsimp only at H0
      refine lok_rt (Env.of E0 [⟨some 70, 19, [.one (.p (.sl 4 (List.map enc_api_AccessRule y1))), .one (.p (.sl 5 (List.map enc_api_Evidence y3))), .one (.p (pi (0 : Int))), .one (.p (pi y9))], [], [.agg [.p (pi y10.Extra), .p (pi y10.Needs)], .one (.p (pi y11))], [], True, fun _ => ok_access_Grant y1 y3 (0 : Int) y9 (y10, y11) h_6⟩]) (⟨94, mkS [(1, .x (.one (.p (pi y9)))), (10, .x (.one (.vw 110))), (11, .x (.one (.vw 111))), (14, .x (.one (.ptr 114 0))), (15, .x (.one (.p (pi y11))))], mkH [(110, .arr 4 (List.map enc_api_AccessRule m)), (111, .arr 5 (List.map enc_api_Evidence n)), (114, .var [.p (pi y10.Extra), .p (pi y10.Needs)])]⟩) ?_
      replace H0 := bind_some H0
      obtain ⟨⟨y12, y13⟩, h_7, H0⟩ := H0
      try dsimp only at H0
      refine lok_rt (Env.of E0 [⟨some 77, 19, [.one (.p (.sl 4 (List.map enc_api_AccessRule m))), .one (.p (.sl 5 (List.map enc_api_Evidence n))), .one (.p (pi (0 : Int))), .one (.p (pi y9))], [], [.agg [.p (pi y12.Extra), .p (pi y12.Needs)], .one (.p (pi y13))], [], True, fun _ => ok_access_Grant m n (0 : Int) y9 (y12, y13) h_7⟩]) (⟨94, mkS [(14, .x (.one (.ptr 114 0))), (15, .x (.one (.p (pi y11)))), (16, .x (.one (.ptr 116 0))), (17, .x (.one (.p (pi y13))))], mkH [(114, .var [.p (pi y10.Extra), .p (pi y10.Needs)]), (116, .var [.p (pi y12.Extra), .p (pi y12.Needs)])]⟩) ?_
      replace H0 := req_some H0
      obtain ⟨q_8, H0⟩ := H0
      refine lok_rt (Env.of E0 [⟨some 92, 16, [], [], [.one (.p (.val (.bool ((law14_awake).getD default))))], [], (law14_awake).isSome = true, fun h => ok_law14_awake _ (isSome_get h)⟩]) (⟨94, mkS [(4, .x (.one (.p (.val (.bool ((((y11 == (0 : Int)) && (y13 == (0 : Int))) && ((y10.Extra == y12.Extra) && (y10.Needs == y12.Needs))) && ((law14_awake).getD default)))))))], mkH []⟩) ?_
      refine lok_ret ?_
      obtain rfl := Option.some.inj H0
      try simp only [thenL, blockL]
      exact fin_au _ (.inr rfl) [] (⟨94, mkS [(4, .x (.one (.p (.val (.bool ((((y11 == (0 : Int)) && (y13 == (0 : Int))) && ((y10.Extra == y12.Extra) && (y10.Needs == y12.Needs))) && ((law14_awake).getD default)))))))], mkH []⟩) rfl rfl imp_au
    case hxlaw14_AccessAnyOrder_j1 =>
      refine lok_rt E0 (⟨94, mkS [(1, .x (.one (.p (pi y9)))), (6, .x (.one (.p (.sl 4 (List.map enc_api_AccessRule y1))))), (7, .x (.one (.p (.sl 5 (List.map enc_api_Evidence y3))))), (9, .x (.one (.p (.sl 1 (List.map encI y7))))), (10, .x (.one (.vw 110))), (11, .x (.one (.vw 111))), (13, .x (.one (.p (pi (0 : Int)))))], mkH [(110, .arr 4 (List.map enc_api_AccessRule m)), (111, .arr 5 (List.map enc_api_Evidence ([] : List api_Evidence)))]⟩) ?_
      refine lok_block ?_
      replace H0 := bind_some H0
      obtain ⟨v_9, hv_9, H0⟩ := H0
      refine lok_iter (fun x_ => ⟨94, mkS [(1, .x (.one (.p (pi y9)))), (6, .x (.one (.p (.sl 4 (List.map enc_api_AccessRule y1))))), (7, .x (.one (.p (.sl 5 (List.map enc_api_Evidence y3))))), (9, .x (.one (.p (.sl 1 (List.map encI y7))))), (10, .x (.one (.vw 110))), (11, .x (.one (.vw 111))), (13, .x (.one (.p (pi x_.1))))], mkH [(110, .arr 4 (List.map enc_api_AccessRule m)), (111, .arr 5 (List.map enc_api_Evidence x_.2))]⟩) hv_9 imp_au ?_
      · rintro ⟨i, n1⟩ o_1 H1 k_1
        unfold law14_AccessAnyOrder_l2 at H1
        try dsimp only at H1 ⊢
        refine lok_seq ?_
        refine lok_rt E0 (⟨94, mkS [(1, .x (.one (.p (pi y9)))), (6, .x (.one (.p (.sl 4 (List.map enc_api_AccessRule y1))))), (7, .x (.one (.p (.sl 5 (List.map enc_api_Evidence y3))))), (9, .x (.one (.p (.sl 1 (List.map encI y7))))), (10, .x (.one (.vw 110))), (11, .x (.one (.vw 111))), (13, .x (.one (.p (pi i)))), (53, .x (.one (.p (.val (.bool (decide (i < (y7.length : Int))))))))], mkH [(110, .arr 4 (List.map enc_api_AccessRule m)), (111, .arr 5 (List.map enc_api_Evidence n1))]⟩) ?_
        refine lok_c (decide (i < (y7.length : Int))) ?_ ?_
        · intro b_13
          replace H1 := cpos H1 b_13
          refine lok_skip ?_
          try simp only [thenL, blockL, ↓reduceIte, reduceCtorEq]
          refine lok_seq ?_
          refine lok_block ?_
          replace H1 := req_some H1
          obtain ⟨⟨q_10, q_11, q_12⟩, H1⟩ := H1
          refine lok_rl E0 (⟨94, mkS [(1, .x (.one (.p (pi y9)))), (6, .x (.one (.p (.sl 4 (List.map enc_api_AccessRule y1))))), (7, .x (.one (.p (.sl 5 (List.map enc_api_Evidence y3))))), (9, .x (.one (.p (.sl 1 (List.map encI y7))))), (10, .x (.one (.vw 110))), (11, .x (.one (.vw 111))), (13, .x (.one (.p (pi i))))], mkH [(110, .arr 4 (List.map enc_api_AccessRule m)), (111, .arr 5 (List.map enc_api_Evidence (n1 ++ [(ix y3 (ix y7 i))])))]⟩) ?_
          try simp only [thenL, blockL, ↓reduceIte, reduceCtorEq]
          refine lok_rl E0 (⟨94, mkS [(1, .x (.one (.p (pi y9)))), (6, .x (.one (.p (.sl 4 (List.map enc_api_AccessRule y1))))), (7, .x (.one (.p (.sl 5 (List.map enc_api_Evidence y3))))), (9, .x (.one (.p (.sl 1 (List.map encI y7))))), (10, .x (.one (.vw 110))), (11, .x (.one (.vw 111))), (13, .x (.one (.p (pi (IntKind.i64.wrap (i + (1 : Int)))))))], mkH [(110, .arr 4 (List.map enc_api_AccessRule m)), (111, .arr 5 (List.map enc_api_Evidence (n1 ++ [(ix y3 (ix y7 i))])))]⟩) ?_
          try simp only [thenL, blockL, ↓reduceIte, reduceCtorEq]
          exact ⟨((IntKind.i64.wrap (i + (1 : Int))), (n1 ++ [(ix y3 (ix y7 i))])), (Option.some.inj H1).symm, imp_au⟩
        · intro b_13
          replace H1 := cneg H1 b_13
          refine lok_exit ?_
          try simp only [thenL, blockL, ↓reduceIte, reduceCtorEq]
          have e_1 := k_1 _ (Option.some.inj H1).symm
          subst e_1
          try dsimp only at H0
          try simp only [thenL, blockL, ↓reduceIte, reduceCtorEq]
          exact ⟨n1, H0, imp_au⟩
  case hxlaw14_AccessAnyOrder_j3 =>
    refine lok_rt E0 (⟨94, mkS [(1, .x (.one (.p (pi y9)))), (6, .x (.one (.p (.sl 4 (List.map enc_api_AccessRule y1))))), (7, .x (.one (.p (.sl 5 (List.map enc_api_Evidence y3))))), (8, .x (.one (.p (.sl 1 (List.map encI y5))))), (9, .x (.one (.p (.sl 1 (List.map encI y7))))), (10, .x (.one (.vw 110))), (11, .x (.one (.vw 111))), (12, .x (.one (.p (pi (0 : Int)))))], mkH [(110, .arr 4 (List.map enc_api_AccessRule ([] : List api_AccessRule))), (111, .arr 5 (List.map enc_api_Evidence ([] : List api_Evidence)))]⟩) ?_
    refine lok_block ?_
    replace H0 := bind_some H0
    obtain ⟨v_14, hv_14, H0⟩ := H0
    refine lok_iter (fun x_ => ⟨94, mkS [(1, .x (.one (.p (pi y9)))), (6, .x (.one (.p (.sl 4 (List.map enc_api_AccessRule y1))))), (7, .x (.one (.p (.sl 5 (List.map enc_api_Evidence y3))))), (8, .x (.one (.p (.sl 1 (List.map encI y5))))), (9, .x (.one (.p (.sl 1 (List.map encI y7))))), (10, .x (.one (.vw 110))), (11, .x (.one (.vw 111))), (12, .x (.one (.p (pi x_.1))))], mkH [(110, .arr 4 (List.map enc_api_AccessRule x_.2)), (111, .arr 5 (List.map enc_api_Evidence ([] : List api_Evidence)))]⟩) hv_14 imp_au ?_
    · rintro ⟨i1, m1⟩ o_1 H1 k_1
      unfold law14_AccessAnyOrder_l4 at H1
      try dsimp only at H1 ⊢
      refine lok_seq ?_
      refine lok_rt E0 (⟨94, mkS [(1, .x (.one (.p (pi y9)))), (6, .x (.one (.p (.sl 4 (List.map enc_api_AccessRule y1))))), (7, .x (.one (.p (.sl 5 (List.map enc_api_Evidence y3))))), (8, .x (.one (.p (.sl 1 (List.map encI y5))))), (9, .x (.one (.p (.sl 1 (List.map encI y7))))), (10, .x (.one (.vw 110))), (11, .x (.one (.vw 111))), (12, .x (.one (.p (pi i1)))), (37, .x (.one (.p (.val (.bool (decide (i1 < (y5.length : Int))))))))], mkH [(110, .arr 4 (List.map enc_api_AccessRule m1)), (111, .arr 5 (List.map enc_api_Evidence ([] : List api_Evidence)))]⟩) ?_
      refine lok_c (decide (i1 < (y5.length : Int))) ?_ ?_
      · intro b_18
        replace H1 := cpos H1 b_18
        refine lok_skip ?_
        try simp only [thenL, blockL, ↓reduceIte, reduceCtorEq]
        refine lok_seq ?_
        refine lok_block ?_
        replace H1 := req_some H1
        obtain ⟨⟨q_15, q_16, q_17⟩, H1⟩ := H1
        refine lok_rl E0 (⟨94, mkS [(1, .x (.one (.p (pi y9)))), (6, .x (.one (.p (.sl 4 (List.map enc_api_AccessRule y1))))), (7, .x (.one (.p (.sl 5 (List.map enc_api_Evidence y3))))), (8, .x (.one (.p (.sl 1 (List.map encI y5))))), (9, .x (.one (.p (.sl 1 (List.map encI y7))))), (10, .x (.one (.vw 110))), (11, .x (.one (.vw 111))), (12, .x (.one (.p (pi i1))))], mkH [(110, .arr 4 (List.map enc_api_AccessRule (m1 ++ [(ix y1 (ix y5 i1))]))), (111, .arr 5 (List.map enc_api_Evidence ([] : List api_Evidence)))]⟩) ?_
        try simp only [thenL, blockL, ↓reduceIte, reduceCtorEq]
        refine lok_rl E0 (⟨94, mkS [(1, .x (.one (.p (pi y9)))), (6, .x (.one (.p (.sl 4 (List.map enc_api_AccessRule y1))))), (7, .x (.one (.p (.sl 5 (List.map enc_api_Evidence y3))))), (8, .x (.one (.p (.sl 1 (List.map encI y5))))), (9, .x (.one (.p (.sl 1 (List.map encI y7))))), (10, .x (.one (.vw 110))), (11, .x (.one (.vw 111))), (12, .x (.one (.p (pi (IntKind.i64.wrap (i1 + (1 : Int)))))))], mkH [(110, .arr 4 (List.map enc_api_AccessRule (m1 ++ [(ix y1 (ix y5 i1))]))), (111, .arr 5 (List.map enc_api_Evidence ([] : List api_Evidence)))]⟩) ?_
        try simp only [thenL, blockL, ↓reduceIte, reduceCtorEq]
        exact ⟨((IntKind.i64.wrap (i1 + (1 : Int))), (m1 ++ [(ix y1 (ix y5 i1))])), (Option.some.inj H1).symm, imp_au⟩
      · intro b_18
        replace H1 := cneg H1 b_18
        refine lok_exit ?_
        try simp only [thenL, blockL, ↓reduceIte, reduceCtorEq]
        have e_1 := k_1 _ (Option.some.inj H1).symm
        subst e_1
        try dsimp only at H0
        try simp only [thenL, blockL, ↓reduceIte, reduceCtorEq]
        exact ⟨m1, H0, imp_au⟩
theorem ok_ref06_Has (l : List Int) (n : Int) (r_ : Bool) (H0 : ref06_Has l n = some r_) : CallOK Try.prog 29 [.one (.p (.sl 1 (List.map encI l))), .one (.p (pi n))] [] [.one (.p (.val (.bool r_)))] [] := by
  refine callOK (n := 18) (rs := [.tmp 4]) (nb := 0) (V := []) Try.func29 rfl (by kernel_rfl) rfl rfl rfl rfl (Nat.le_of_ble_eq_true rfl) rfl (by decide) ?_
  unfold ref06_Has at H0
  refine lok_rt E0 (⟨18, mkS [(0, .x (.one (.p (.sl 1 (List.map encI l))))), (1, .x (.one (.p (pi n))))], mkH []⟩) ?_
  refine lok_join (fun x_ : Unit => ref06_Has_j1 = some r_) (fun x_ => ⟨18, mkS [], mkH []⟩) ?hyref06_Has_j1 ?hxref06_Has_j1
  case hyref06_Has_j1 =>
    rintro _ H0
    try dsimp only at H0 ⊢
    unfold ref06_Has_j1 at H0
    refine lok_rt E0 (⟨18, mkS [(4, .x (.one (.p (.val (.bool false)))))], mkH []⟩) ?_
    refine lok_ret ?_
    obtain rfl := Option.some.inj H0
    try simp only [thenL, blockL]
    exact fin_au _ (.inr rfl) [] (⟨18, mkS [(4, .x (.one (.p (.val (.bool false)))))], mkH []⟩) rfl rfl imp_au
  case hxref06_Has_j1 =>
    refine lok_rt E0 (⟨18, mkS [(0, .x (.one (.p (.sl 1 (List.map encI l))))), (1, .x (.one (.p (pi n)))), (5, .x (.one (.p (pi (0 : Int)))))], mkH []⟩) ?_
    refine lok_block ?_
    replace H0 := bind_some H0
    obtain ⟨v_0, hv_0, H0⟩ := H0
    refine lok_iter (fun x_ => ⟨18, mkS [(0, .x (.one (.p (.sl 1 (List.map encI l))))), (1, .x (.one (.p (pi n)))), (5, .x (.one (.p (pi x_))))], mkH []⟩) hv_0 imp_au ?_
    · rintro i o_1 H1 k_1
      unfold ref06_Has_l2 at H1
      try dsimp only at H1 ⊢
      refine lok_seq ?_
      refine lok_rt E0 (⟨18, mkS [(0, .x (.one (.p (.sl 1 (List.map encI l))))), (1, .x (.one (.p (pi n)))), (5, .x (.one (.p (pi i)))), (9, .x (.one (.p (.val (.bool (decide (i < (l.length : Int))))))))], mkH []⟩) ?_
      refine lok_c (decide (i < (l.length : Int))) ?_ ?_
      · intro b_3
        replace H1 := cpos H1 b_3
        refine lok_skip ?_
        try simp only [thenL, blockL, ↓reduceIte, reduceCtorEq]
        refine lok_seq ?_
        refine lok_block ?_
        replace H1 := req_some H1
        obtain ⟨q_2, H1⟩ := H1
        refine lok_rt E0 (⟨18, mkS [(0, .x (.one (.p (.sl 1 (List.map encI l))))), (1, .x (.one (.p (pi n)))), (5, .x (.one (.p (pi i)))), (17, .x (.one (.p (.val (.bool ((ix l i) == n))))))], mkH []⟩) ?_
        refine lok_c ((ix l i) == n) ?_ ?_
        · intro b_1
          replace H1 := cpos H1 b_1
          refine lok_rt E0 (⟨18, mkS [(4, .x (.one (.p (.val (.bool true)))))], mkH []⟩) ?_
          refine lok_ret ?_
          try simp only [thenL, blockL, ↓reduceIte, reduceCtorEq]
          have e_1 := k_1 _ (Option.some.inj H1).symm
          subst e_1
          try dsimp only at H0
          obtain rfl := Option.some.inj H0
          try simp only [thenL, blockL]
          exact fin_au _ (.inr rfl) [] (⟨18, mkS [(4, .x (.one (.p (.val (.bool true)))))], mkH []⟩) rfl rfl imp_au
        · intro b_1
          replace H1 := cneg H1 b_1
          refine lok_skip ?_
          try simp only [thenL, blockL, ↓reduceIte, reduceCtorEq]
          refine lok_rl E0 (⟨18, mkS [(0, .x (.one (.p (.sl 1 (List.map encI l))))), (1, .x (.one (.p (pi n)))), (5, .x (.one (.p (pi (IntKind.i64.wrap (i + (1 : Int)))))))], mkH []⟩) ?_
          try simp only [thenL, blockL, ↓reduceIte, reduceCtorEq]
          exact ⟨(IntKind.i64.wrap (i + (1 : Int))), (Option.some.inj H1).symm, imp_au⟩
      · intro b_3
        replace H1 := cneg H1 b_3
        refine lok_exit ?_
        try simp only [thenL, blockL, ↓reduceIte, reduceCtorEq]
        have e_1 := k_1 _ (Option.some.inj H1).symm
        subst e_1
        try dsimp only at H0
        try simp only [thenL, blockL, ↓reduceIte, reduceCtorEq]
        exact ⟨(), H0, imp_au⟩
theorem ok_law14_AccessGrows (t : List Int) (time : Int) (base : Int) (r_ : Bool) (H0 : law14_AccessGrows t time base = some r_) : CallOK Try.prog 8 [.one (.p (.sl 1 (List.map encI t))), .one (.p (pi time)), .one (.p (pi base))] [] [.one (.p (.val (.bool r_)))] [] := by
  refine callOK (n := 131) (rs := [.tmp 6]) (nb := 0) (V := []) Try.func8 rfl (by kernel_rfl) rfl rfl rfl rfl (Nat.le_of_ble_eq_true rfl) rfl (by decide) ?_
  unfold law14_AccessGrows at H0
  refine lok_rt E0 (⟨131, mkS [(0, .x (.one (.p (.sl 1 (List.map encI t))))), (1, .x (.one (.p (pi time)))), (2, .x (.one (.p (pi base))))], mkH []⟩) ?_
  replace H0 := bind_some H0
  obtain ⟨y, h_0, H0⟩ := H0
  refine lok_rt (Env.of E0 [⟨some 23, 12, [.one (.p (.sl 1 (List.map encI t)))], [], [.one (.ptr 0 0)], [some (.var [.p (.sl 1 (List.map encI y.L)), .p (pi y.At)])], True, fun _ => ok_make_New t y h_0⟩]) (⟨131, mkS [(1, .x (.one (.p (pi time)))), (2, .x (.one (.p (pi base)))), (7, .x (.one (.ptr 1023 0)))], mkH [(1023, .var [.p (.sl 1 (List.map encI y.L)), .p (pi y.At)])]⟩) ?_
  replace H0 := bind_some H0
  obtain ⟨⟨y1, y2⟩, h_1, H0⟩ := H0
  try dsimp only at H0
  replace H0 := bind_some H0
  obtain ⟨⟨y3, y4⟩, h_2, H0⟩ := H0
  try dsimp only at H0
  refine lok_rt (Env.of E0 [⟨some 25, 13, [.one (.ptr 0 0), .one (.p (pi (0 : Int)))], [.var [.p (.sl 1 (List.map encI y.L)), .p (pi y.At)]], [.one (.p (.sl 4 (List.map enc_api_AccessRule y1)))], [some (.var [.p (.sl 1 (List.map encI y2.L)), .p (pi y2.At)])], True, fun _ => ok_make_Tape_Rules y (0 : Int) (y1, y2) h_1⟩,
      ⟨some 27, 18, [.one (.ptr 0 0)], [.var [.p (.sl 1 (List.map encI y2.L)), .p (pi y2.At)]], [.one (.p (.sl 5 (List.map enc_api_Evidence y3)))], [some (.var [.p (.sl 1 (List.map encI y4.L)), .p (pi y4.At)])], True, fun _ => ok_make_Tape_Evidence y2 (y3, y4) h_2⟩]) (⟨131, mkS [(1, .x (.one (.p (pi time)))), (2, .x (.one (.p (pi base)))), (7, .x (.one (.ptr 1023 0))), (8, .x (.one (.p (.sl 4 (List.map enc_api_AccessRule y1))))), (9, .x (.one (.p (.sl 5 (List.map enc_api_Evidence y3)))))], mkH [(1023, .var [.p (.sl 1 (List.map encI y4.L)), .p (pi y4.At)])]⟩) ?_
  replace H0 := req_some H0
  obtain ⟨q_18, H0⟩ := H0
  replace H0 := bind_some H0
  obtain ⟨⟨y5, y6⟩, h_3, H0⟩ := H0
  try dsimp only at H0
  replace H0 := req_some H0
  obtain ⟨q_19, H0⟩ := H0
  refine lok_et (Env.of E0 [⟨some 35, 18, [.one (.ptr 0 0)], [.var [.p (.sl 1 (List.map encI y4.L)), .p (pi y4.At)]], [.one (.p (.sl 5 (List.map enc_api_Evidence y5)))], [some (.var [.p (.sl 1 (List.map encI y6.L)), .p (pi y6.At)])], True, fun _ => ok_make_Tape_Evidence y4 (y5, y6) h_3⟩]) 131 [⟨[(9, .x (.one (.p (.sl 5 (List.map enc_api_Evidence y3)))))], [], [(28, .x (.one (.p (.sl 5 (List.map enc_api_Evidence y3)))))], [], none⟩,
      ⟨[(9, .x (.one (.p (.sl 5 (List.map enc_api_Evidence y3)))))], [], [(29, .x (.one (.p (.sl 5 (List.map enc_api_Evidence y3)))))], [], none⟩,
      ⟨[(29, .x (.one (.p (.sl 5 (List.map enc_api_Evidence y3)))))], [], [(30, .x (.one (.p (pi (y3.length : Int)))))], [], none⟩,
      ⟨[(9, .x (.one (.p (.sl 5 (List.map enc_api_Evidence y3)))))], [], [(31, .x (.one (.p (.sl 5 (List.map enc_api_Evidence y3)))))], [], none⟩,
      ⟨[(31, .x (.one (.p (.sl 5 (List.map enc_api_Evidence y3)))))], [], [(32, .x (.one (.p (pi (y3.length : Int)))))], [], none⟩,
      ⟨[(28, .x (.one (.p (.sl 5 (List.map enc_api_Evidence y3))))), (30, .x (.one (.p (pi (y3.length : Int))))), (32, .x (.one (.p (pi (y3.length : Int)))))], [], [(33, .x (.one (.fl 5 (List.map enc_api_Evidence y3))))], [], none⟩,
      ⟨[(7, .x (.one (.ptr 1023 0)))], [], [(34, .x (.one (.ptr 1023 0)))], [], none⟩,
      ⟨[(34, .x (.one (.ptr 1023 0)))], [(1023, some (.var [.p (.sl 1 (List.map encI y4.L)), .p (pi y4.At)]))], [(35, .x (.one (.p (.sl 5 (List.map enc_api_Evidence y5)))))], [(1023, some (.var [.p (.sl 1 (List.map encI y6.L)), .p (pi y6.At)]))], none⟩] (⟨131, mkS [(1, .x (.one (.p (pi time)))), (2, .x (.one (.p (pi base)))), (8, .x (.one (.p (.sl 4 (List.map enc_api_AccessRule y1))))), (9, .x (.one (.p (.sl 5 (List.map enc_api_Evidence y3))))), (10, .x (.one (.p (.sl 5 (List.map enc_api_Evidence (y3 ++ y5))))))], mkH []⟩) (by kernel_rfl) (by kernel_rfl) (by kernel_rfl) rfl rfl rfl ?_
  replace H0 := bind_some H0
  obtain ⟨y7, h_4, H0⟩ := H0
  replace H0 := bind_some H0
  obtain ⟨y8, h_5, H0⟩ := H0
  refine lok_rt (Env.of E0 [⟨some 38, 17, [.one (.p (pi time)), .one (.p (pi (30 : Int)))], [], [.one (.p (pi y7))], [], True, fun _ => ok_make_Cut time (30 : Int) y7 h_4⟩,
      ⟨some 40, 17, [.one (.p (pi base)), .one (.p (pi (600 : Int)))], [], [.one (.p (pi y8))], [], True, fun _ => ok_make_Cut base (600 : Int) y8 h_5⟩]) (⟨131, mkS [(1, .x (.one (.p (pi y7)))), (2, .x (.one (.p (pi (IntKind.i64.wrap ((1 : Int) + y8)))))), (8, .x (.one (.p (.sl 4 (List.map enc_api_AccessRule y1))))), (9, .x (.one (.p (.sl 5 (List.map enc_api_Evidence y3))))), (10, .x (.one (.p (.sl 5 (List.map enc_api_Evidence (y3 ++ y5))))))], mkH []⟩) ?_
  replace H0 := bind_some H0
  obtain ⟨⟨y9, y10⟩, h_6, H0⟩ := H0
  try dsimp only at H0
  refine lok_rt (Env.of E0 [⟨some 46, 19, [.one (.p (.sl 4 (List.map enc_api_AccessRule y1))), .one (.p (.sl 5 (List.map enc_api_Evidence y3))), .one (.p (pi (1 : Int))), .one (.p (pi y7))], [], [.agg [.p (pi y9.Extra), .p (pi y9.Needs)], .one (.p (pi y10))], [], True, fun _ => ok_access_Grant y1 y3 (1 : Int) y7 (y9, y10) h_6⟩]) (⟨131, mkS [(1, .x (.one (.p (pi y7)))), (2, .x (.one (.p (pi (IntKind.i64.wrap ((1 : Int) + y8)))))), (8, .x (.one (.p (.sl 4 (List.map enc_api_AccessRule y1))))), (9, .x (.one (.p (.sl 5 (List.map enc_api_Evidence y3))))), (10, .x (.one (.p (.sl 5 (List.map enc_api_Evidence (y3 ++ y5)))))), (11, .x (.one (.ptr 111 0))), (12, .x (.one (.p (pi y10))))], mkH [(111, .var [.p (pi y9.Extra), .p (pi y9.Needs)])]⟩) ?_
  replace H0 := bind_some H0
  obtain ⟨⟨y11, y12⟩, h_7, H0⟩ := H0
  try dsimp only at H0
  refine lok_rt (Env.of E0 [⟨some 53, 19, [.one (.p (.sl 4 (List.map enc_api_AccessRule y1))), .one (.p (.sl 5 (List.map enc_api_Evidence (y3 ++ y5)))), .one (.p (pi (1 : Int))), .one (.p (pi y7))], [], [.agg [.p (pi y11.Extra), .p (pi y11.Needs)], .one (.p (pi y12))], [], True, fun _ => ok_access_Grant y1 (y3 ++ y5) (1 : Int) y7 (y11, y12) h_7⟩]) (⟨131, mkS [(1, .x (.one (.p (pi y7)))), (2, .x (.one (.p (pi (IntKind.i64.wrap ((1 : Int) + y8)))))), (8, .x (.one (.p (.sl 4 (List.map enc_api_AccessRule y1))))), (9, .x (.one (.p (.sl 5 (List.map enc_api_Evidence y3))))), (10, .x (.one (.p (.sl 5 (List.map enc_api_Evidence (y3 ++ y5)))))), (11, .x (.one (.ptr 111 0))), (12, .x (.one (.p (pi y10)))), (13, .x (.one (.ptr 113 0))), (14, .x (.one (.p (pi y12))))], mkH [(111, .var [.p (pi y9.Extra), .p (pi y9.Needs)]), (113, .var [.p (pi y11.Extra), .p (pi y11.Needs)])]⟩) ?_
  replace H0 := bind_some H0
  obtain ⟨⟨y13, y14⟩, h_8, H0⟩ := H0
  try dsimp only at H0
  refine lok_rt (Env.of E0 [⟨some 59, 25, [.one (.p (pi (IntKind.i64.wrap ((1 : Int) + y8)))), .agg [.p (pi y9.Extra), .p (pi y9.Needs)]], [], [.one (.p (pi y13)), .one (.p (pi y14))], [], True, fun _ => ok_access_Minutes (IntKind.i64.wrap ((1 : Int) + y8)) y9 (y13, y14) h_8⟩]) (⟨131, mkS [(1, .x (.one (.p (pi y7)))), (2, .x (.one (.p (pi (IntKind.i64.wrap ((1 : Int) + y8)))))), (8, .x (.one (.p (.sl 4 (List.map enc_api_AccessRule y1))))), (9, .x (.one (.p (.sl 5 (List.map enc_api_Evidence y3))))), (10, .x (.one (.p (.sl 5 (List.map enc_api_Evidence (y3 ++ y5)))))), (11, .x (.one (.ptr 111 0))), (12, .x (.one (.p (pi y10)))), (13, .x (.one (.ptr 113 0))), (14, .x (.one (.p (pi y12)))), (15, .x (.one (.p (pi y13)))), (16, .x (.one (.p (pi y14))))], mkH [(111, .var [.p (pi y9.Extra), .p (pi y9.Needs)]), (113, .var [.p (pi y11.Extra), .p (pi y11.Needs)])]⟩) ?_
  replace H0 := bind_some H0
  obtain ⟨⟨y15, y16⟩, h_9, H0⟩ := H0
  try dsimp only at H0
  refine lok_rt (Env.of E0 [⟨some 65, 25, [.one (.p (pi (IntKind.i64.wrap ((1 : Int) + y8)))), .agg [.p (pi y11.Extra), .p (pi y11.Needs)]], [], [.one (.p (pi y15)), .one (.p (pi y16))], [], True, fun _ => ok_access_Minutes (IntKind.i64.wrap ((1 : Int) + y8)) y11 (y15, y16) h_9⟩]) (⟨131, mkS [(1, .x (.one (.p (pi y7)))), (2, .x (.one (.p (pi (IntKind.i64.wrap ((1 : Int) + y8)))))), (8, .x (.one (.p (.sl 4 (List.map enc_api_AccessRule y1))))), (9, .x (.one (.p (.sl 5 (List.map enc_api_Evidence y3))))), (10, .x (.one (.p (.sl 5 (List.map enc_api_Evidence (y3 ++ y5)))))), (11, .x (.one (.ptr 111 0))), (12, .x (.one (.p (pi y10)))), (13, .x (.one (.ptr 113 0))), (14, .x (.one (.p (pi y12)))), (15, .x (.one (.p (pi y13)))), (16, .x (.one (.p (pi y14)))), (17, .x (.one (.p (pi y15)))), (18, .x (.one (.p (pi y16))))], mkH [(111, .var [.p (pi y9.Extra), .p (pi y9.Needs)]), (113, .var [.p (pi y11.Extra), .p (pi y11.Needs)])]⟩) ?_
  replace H0 := bind_some H0
  obtain ⟨y17, h_10, H0⟩ := H0
  refine lok_rt (Env.of E0 [⟨some 71, 22, [.one (.p (.sl 4 (List.map enc_api_AccessRule y1))), .one (.p (.sl 5 (List.map enc_api_Evidence y3))), .one (.p (pi (1 : Int))), .one (.p (pi y7))], [], [.one (.p (.sl 1 (List.map encI y17)))], [], True, fun _ => ok_access_Reasons y1 y3 (1 : Int) y7 y17 h_10⟩]) (⟨131, mkS [(1, .x (.one (.p (pi y7)))), (2, .x (.one (.p (pi (IntKind.i64.wrap ((1 : Int) + y8)))))), (8, .x (.one (.p (.sl 4 (List.map enc_api_AccessRule y1))))), (10, .x (.one (.p (.sl 5 (List.map enc_api_Evidence (y3 ++ y5)))))), (11, .x (.one (.ptr 111 0))), (12, .x (.one (.p (pi y10)))), (13, .x (.one (.ptr 113 0))), (14, .x (.one (.p (pi y12)))), (15, .x (.one (.p (pi y13)))), (16, .x (.one (.p (pi y14)))), (17, .x (.one (.p (pi y15)))), (18, .x (.one (.p (pi y16)))), (19, .x (.one (.p (.sl 1 (List.map encI y17)))))], mkH [(111, .var [.p (pi y9.Extra), .p (pi y9.Needs)]), (113, .var [.p (pi y11.Extra), .p (pi y11.Needs)])]⟩) ?_
  replace H0 := bind_some H0
  obtain ⟨y18, h_11, H0⟩ := H0
  refine lok_rt (Env.of E0 [⟨some 75, 22, [.one (.p (.sl 4 (List.map enc_api_AccessRule y1))), .one (.p (.sl 5 (List.map enc_api_Evidence (y3 ++ y5)))), .one (.p (pi (1 : Int))), .one (.p (pi y7))], [], [.one (.p (.sl 1 (List.map encI y18)))], [], True, fun _ => ok_access_Reasons y1 (y3 ++ y5) (1 : Int) y7 y18 h_11⟩]) (⟨131, mkS [(2, .x (.one (.p (pi (IntKind.i64.wrap ((1 : Int) + y8)))))), (11, .x (.one (.ptr 111 0))), (12, .x (.one (.p (pi y10)))), (13, .x (.one (.ptr 113 0))), (14, .x (.one (.p (pi y12)))), (15, .x (.one (.p (pi y13)))), (16, .x (.one (.p (pi y14)))), (17, .x (.one (.p (pi y15)))), (18, .x (.one (.p (pi y16)))), (19, .x (.one (.p (.sl 1 (List.map encI y17))))), (20, .x (.one (.p (.sl 1 (List.map encI y18)))))], mkH [(111, .var [.p (pi y9.Extra), .p (pi y9.Needs)]), (113, .var [.p (pi y11.Extra), .p (pi y11.Needs)])]⟩) ?_
  refine lok_join (fun x_ : Unit => law14_AccessGrows_j1 y8 y9 y10 y11 y12 y13 y14 y15 y16 = some r_) (fun x_ => ⟨131, mkS [(2, .x (.one (.p (pi (IntKind.i64.wrap ((1 : Int) + y8)))))), (11, .x (.one (.ptr 111 0))), (12, .x (.one (.p (pi y10)))), (13, .x (.one (.ptr 113 0))), (14, .x (.one (.p (pi y12)))), (15, .x (.one (.p (pi y13)))), (16, .x (.one (.p (pi y14)))), (17, .x (.one (.p (pi y15)))), (18, .x (.one (.p (pi y16))))], mkH [(111, .var [.p (pi y9.Extra), .p (pi y9.Needs)]), (113, .var [.p (pi y11.Extra), .p (pi y11.Needs)])]⟩) ?hylaw14_AccessGrows_j1 ?hxlaw14_AccessGrows_j1
  case hylaw14_AccessGrows_j1 =>
    rintro _ H0
    try dsimp only at H0 ⊢
    unfold law14_AccessGrows_j1 at H0
    replace H0 := req_some H0
    obtain ⟨q_12, H0⟩ := H0
    refine lok_rt (Env.of E0 [⟨some 129, 16, [], [], [.one (.p (.val (.bool ((law14_awake).getD default))))], [], (law14_awake).isSome = true, fun h => ok_law14_awake _ (isSome_get h)⟩]) (⟨131, mkS [(6, .x (.one (.p (.val (.bool (((((((((y10 == (0 : Int)) && (y12 == (0 : Int))) && (y14 == (0 : Int))) && (y16 == (0 : Int))) && (decide (y9.Extra ≤ y11.Extra))) && ((bAndNot .i64 y9.Needs y11.Needs) == (0 : Int))) && (decide (y13 ≤ y15))) && (decide ((IntKind.i64.wrap ((1 : Int) + y8)) ≤ y13))) && ((law14_awake).getD default)))))))], mkH []⟩) ?_
    refine lok_ret ?_
    obtain rfl := Option.some.inj H0
    try simp only [thenL, blockL]
    exact fin_au _ (.inr rfl) [] (⟨131, mkS [(6, .x (.one (.p (.val (.bool (((((((((y10 == (0 : Int)) && (y12 == (0 : Int))) && (y14 == (0 : Int))) && (y16 == (0 : Int))) && (decide (y9.Extra ≤ y11.Extra))) && ((bAndNot .i64 y9.Needs y11.Needs) == (0 : Int))) && (decide (y13 ≤ y15))) && (decide ((IntKind.i64.wrap ((1 : Int) + y8)) ≤ y13))) && ((law14_awake).getD default)))))))], mkH []⟩) rfl rfl imp_au
  case hxlaw14_AccessGrows_j1 =>
    refine lok_rt E0 (⟨131, mkS [(2, .x (.one (.p (pi (IntKind.i64.wrap ((1 : Int) + y8)))))), (11, .x (.one (.ptr 111 0))), (12, .x (.one (.p (pi y10)))), (13, .x (.one (.ptr 113 0))), (14, .x (.one (.p (pi y12)))), (15, .x (.one (.p (pi y13)))), (16, .x (.one (.p (pi y14)))), (17, .x (.one (.p (pi y15)))), (18, .x (.one (.p (pi y16)))), (19, .x (.one (.p (.sl 1 (List.map encI y17))))), (20, .x (.one (.p (.sl 1 (List.map encI y18))))), (21, .x (.one (.p (pi (0 : Int)))))], mkH [(111, .var [.p (pi y9.Extra), .p (pi y9.Needs)]), (113, .var [.p (pi y11.Extra), .p (pi y11.Needs)])]⟩) ?_
    refine lok_block ?_
    replace H0 := bind_some H0
    obtain ⟨v_13, hv_13, H0⟩ := H0
    refine lok_iter (fun x_ => ⟨131, mkS [(2, .x (.one (.p (pi (IntKind.i64.wrap ((1 : Int) + y8)))))), (11, .x (.one (.ptr 111 0))), (12, .x (.one (.p (pi y10)))), (13, .x (.one (.ptr 113 0))), (14, .x (.one (.p (pi y12)))), (15, .x (.one (.p (pi y13)))), (16, .x (.one (.p (pi y14)))), (17, .x (.one (.p (pi y15)))), (18, .x (.one (.p (pi y16)))), (19, .x (.one (.p (.sl 1 (List.map encI y17))))), (20, .x (.one (.p (.sl 1 (List.map encI y18))))), (21, .x (.one (.p (pi x_))))], mkH [(111, .var [.p (pi y9.Extra), .p (pi y9.Needs)]), (113, .var [.p (pi y11.Extra), .p (pi y11.Needs)])]⟩) hv_13 imp_au ?_
    · rintro i o_1 H1 k_1
      unfold law14_AccessGrows_l2 at H1
      try dsimp only at H1 ⊢
      refine lok_seq ?_
      refine lok_rt E0 (⟨131, mkS [(2, .x (.one (.p (pi (IntKind.i64.wrap ((1 : Int) + y8)))))), (11, .x (.one (.ptr 111 0))), (12, .x (.one (.p (pi y10)))), (13, .x (.one (.ptr 113 0))), (14, .x (.one (.p (pi y12)))), (15, .x (.one (.p (pi y13)))), (16, .x (.one (.p (pi y14)))), (17, .x (.one (.p (pi y15)))), (18, .x (.one (.p (pi y16)))), (19, .x (.one (.p (.sl 1 (List.map encI y17))))), (20, .x (.one (.p (.sl 1 (List.map encI y18))))), (21, .x (.one (.p (pi i)))), (79, .x (.one (.p (.val (.bool (decide (i < (y17.length : Int))))))))], mkH [(111, .var [.p (pi y9.Extra), .p (pi y9.Needs)]), (113, .var [.p (pi y11.Extra), .p (pi y11.Needs)])]⟩) ?_
      refine lok_c (decide (i < (y17.length : Int))) ?_ ?_
      · intro b_17
        replace H1 := cpos H1 b_17
        refine lok_skip ?_
        try simp only [thenL, blockL, ↓reduceIte, reduceCtorEq]
        refine lok_seq ?_
        refine lok_block ?_
        replace H1 := req_some H1
        obtain ⟨q_16, H1⟩ := H1
        replace H1 := bind_some H1
        obtain ⟨y19, h_14, H1⟩ := H1
        refine lok_rt (Env.of E0 [⟨some 87, 29, [.one (.p (.sl 1 (List.map encI y18))), .one (.p (pi (ix y17 i)))], [], [.one (.p (.val (.bool y19)))], [], True, fun _ => ok_ref06_Has y18 (ix y17 i) y19 h_14⟩]) (⟨131, mkS [(2, .x (.one (.p (pi (IntKind.i64.wrap ((1 : Int) + y8)))))), (11, .x (.one (.ptr 111 0))), (12, .x (.one (.p (pi y10)))), (13, .x (.one (.ptr 113 0))), (14, .x (.one (.p (pi y12)))), (15, .x (.one (.p (pi y13)))), (16, .x (.one (.p (pi y14)))), (17, .x (.one (.p (pi y15)))), (18, .x (.one (.p (pi y16)))), (19, .x (.one (.p (.sl 1 (List.map encI y17))))), (20, .x (.one (.p (.sl 1 (List.map encI y18))))), (21, .x (.one (.p (pi i)))), (88, .x (.one (.p (.val (.bool (!y19))))))], mkH [(111, .var [.p (pi y9.Extra), .p (pi y9.Needs)]), (113, .var [.p (pi y11.Extra), .p (pi y11.Needs)])]⟩) ?_
        refine lok_c (!y19) ?_ ?_
        · intro b_15
          replace H1 := cpos H1 b_15
          refine lok_rt E0 (⟨131, mkS [(6, .x (.one (.p (.val (.bool false)))))], mkH []⟩) ?_
          refine lok_ret ?_
          try simp only [thenL, blockL, ↓reduceIte, reduceCtorEq]
          have e_1 := k_1 _ (Option.some.inj H1).symm
          subst e_1
          try dsimp only at H0
          obtain rfl := Option.some.inj H0
          try simp only [thenL, blockL]
          exact fin_au _ (.inr rfl) [] (⟨131, mkS [(6, .x (.one (.p (.val (.bool false)))))], mkH []⟩) rfl rfl imp_au
        · intro b_15
          replace H1 := cneg H1 b_15
          refine lok_skip ?_
          try simp only [thenL, blockL, ↓reduceIte, reduceCtorEq]
          refine lok_rl E0 (⟨131, mkS [(2, .x (.one (.p (pi (IntKind.i64.wrap ((1 : Int) + y8)))))), (11, .x (.one (.ptr 111 0))), (12, .x (.one (.p (pi y10)))), (13, .x (.one (.ptr 113 0))), (14, .x (.one (.p (pi y12)))), (15, .x (.one (.p (pi y13)))), (16, .x (.one (.p (pi y14)))), (17, .x (.one (.p (pi y15)))), (18, .x (.one (.p (pi y16)))), (19, .x (.one (.p (.sl 1 (List.map encI y17))))), (20, .x (.one (.p (.sl 1 (List.map encI y18))))), (21, .x (.one (.p (pi (IntKind.i64.wrap (i + (1 : Int)))))))], mkH [(111, .var [.p (pi y9.Extra), .p (pi y9.Needs)]), (113, .var [.p (pi y11.Extra), .p (pi y11.Needs)])]⟩) ?_
          try simp only [thenL, blockL, ↓reduceIte, reduceCtorEq]
          exact ⟨(IntKind.i64.wrap (i + (1 : Int))), (Option.some.inj H1).symm, imp_au⟩
      · intro b_17
        replace H1 := cneg H1 b_17
        refine lok_exit ?_
        try simp only [thenL, blockL, ↓reduceIte, reduceCtorEq]
        have e_1 := k_1 _ (Option.some.inj H1).symm
        subst e_1
        try dsimp only at H0
        try simp only [thenL, blockL, ↓reduceIte, reduceCtorEq]
        exact ⟨(), H0, imp_au⟩
theorem ok_law14_AccessOthers (t : List Int) (time : Int) (r_ : Bool) (H0 : law14_AccessOthers t time = some r_) : CallOK Try.prog 9 [.one (.p (.sl 1 (List.map encI t))), .one (.p (pi time))] [] [.one (.p (.val (.bool r_)))] [] := by
  refine callOK (n := 66) (rs := [.tmp 4]) (nb := 0) (V := []) Try.func9 rfl (by kernel_rfl) rfl rfl rfl rfl (Nat.le_of_ble_eq_true rfl) rfl (by decide) ?_
  unfold law14_AccessOthers at H0
  refine lok_rt E0 (⟨66, mkS [(0, .x (.one (.p (.sl 1 (List.map encI t))))), (1, .x (.one (.p (pi time))))], mkH []⟩) ?_
  replace H0 := bind_some H0
  obtain ⟨y, h_0, H0⟩ := H0
  refine lok_rt (Env.of E0 [⟨some 14, 12, [.one (.p (.sl 1 (List.map encI t)))], [], [.one (.ptr 0 0)], [some (.var [.p (.sl 1 (List.map encI y.L)), .p (pi y.At)])], True, fun _ => ok_make_New t y h_0⟩]) (⟨66, mkS [(1, .x (.one (.p (pi time)))), (5, .x (.one (.ptr 1014 0)))], mkH [(1014, .var [.p (.sl 1 (List.map encI y.L)), .p (pi y.At)])]⟩) ?_
  replace H0 := bind_some H0
  obtain ⟨⟨y1, y2⟩, h_1, H0⟩ := H0
  try dsimp only at H0
  replace H0 := bind_some H0
  obtain ⟨⟨y3, y4⟩, h_2, H0⟩ := H0
  try dsimp only at H0
  refine lok_rt (Env.of E0 [⟨some 16, 13, [.one (.ptr 0 0), .one (.p (pi (0 : Int)))], [.var [.p (.sl 1 (List.map encI y.L)), .p (pi y.At)]], [.one (.p (.sl 4 (List.map enc_api_AccessRule y1)))], [some (.var [.p (.sl 1 (List.map encI y2.L)), .p (pi y2.At)])], True, fun _ => ok_make_Tape_Rules y (0 : Int) (y1, y2) h_1⟩,
      ⟨some 18, 18, [.one (.ptr 0 0)], [.var [.p (.sl 1 (List.map encI y2.L)), .p (pi y2.At)]], [.one (.p (.sl 5 (List.map enc_api_Evidence y3)))], [some (.var [.p (.sl 1 (List.map encI y4.L)), .p (pi y4.At)])], True, fun _ => ok_make_Tape_Evidence y2 (y3, y4) h_2⟩]) (⟨66, mkS [(1, .x (.one (.p (pi time)))), (6, .x (.one (.p (.sl 4 (List.map enc_api_AccessRule y1))))), (7, .x (.one (.p (.sl 5 (List.map enc_api_Evidence y3)))))], mkH []⟩) ?_
  replace H0 := bind_some H0
  obtain ⟨y5, h_3, H0⟩ := H0
  refine lok_rt (Env.of E0 [⟨some 20, 17, [.one (.p (pi time)), .one (.p (pi (30 : Int)))], [], [.one (.p (pi y5))], [], True, fun _ => ok_make_Cut time (30 : Int) y5 h_3⟩]) (⟨66, mkS [(1, .x (.one (.p (pi y5)))), (6, .x (.one (.p (.sl 4 (List.map enc_api_AccessRule y1))))), (7, .x (.one (.p (.sl 5 (List.map enc_api_Evidence y3)))))], mkH []⟩) ?_
  replace H0 := req_some H0
  obtain ⟨⟨q_8, q_9⟩, H0⟩ := H0
  replace H0 := bindV_some H0
  obtain ⟨more, a_4, H0⟩ := H0
  refine lok_rtg E0 a_4 (⟨66, mkS [(1, .x (.one (.p (pi y5)))), (6, .x (.one (.p (.sl 4 (List.map enc_api_AccessRule y1))))), (7, .x (.one (.p (.sl 5 (List.map enc_api_Evidence y3))))), (8, .x (.one (.p (.sl 5 (List.map enc_api_Evidence more)))))], mkH []⟩) ?_
  replace H0 := bind_some H0
  obtain ⟨⟨y6, y7⟩, h_5, H0⟩ := H0
  try dsimp only at H0
  refine lok_rt (Env.of E0 [⟨some 42, 19, [.one (.p (.sl 4 (List.map enc_api_AccessRule y1))), .one (.p (.sl 5 (List.map enc_api_Evidence y3))), .one (.p (pi (0 : Int))), .one (.p (pi y5))], [], [.agg [.p (pi y6.Extra), .p (pi y6.Needs)], .one (.p (pi y7))], [], True, fun _ => ok_access_Grant y1 y3 (0 : Int) y5 (y6, y7) h_5⟩]) (⟨66, mkS [(1, .x (.one (.p (pi y5)))), (6, .x (.one (.p (.sl 4 (List.map enc_api_AccessRule y1))))), (8, .x (.one (.p (.sl 5 (List.map enc_api_Evidence more))))), (9, .x (.one (.ptr 109 0))), (10, .x (.one (.p (pi y7))))], mkH [(109, .var [.p (pi y6.Extra), .p (pi y6.Needs)])]⟩) ?_
  replace H0 := bind_some H0
  obtain ⟨⟨y8, y9⟩, h_6, H0⟩ := H0
  try dsimp only at H0
  refine lok_rt (Env.of E0 [⟨some 49, 19, [.one (.p (.sl 4 (List.map enc_api_AccessRule y1))), .one (.p (.sl 5 (List.map enc_api_Evidence more))), .one (.p (pi (0 : Int))), .one (.p (pi y5))], [], [.agg [.p (pi y8.Extra), .p (pi y8.Needs)], .one (.p (pi y9))], [], True, fun _ => ok_access_Grant y1 more (0 : Int) y5 (y8, y9) h_6⟩]) (⟨66, mkS [(9, .x (.one (.ptr 109 0))), (10, .x (.one (.p (pi y7)))), (11, .x (.one (.ptr 111 0))), (12, .x (.one (.p (pi y9))))], mkH [(109, .var [.p (pi y6.Extra), .p (pi y6.Needs)]), (111, .var [.p (pi y8.Extra), .p (pi y8.Needs)])]⟩) ?_
  replace H0 := req_some H0
  obtain ⟨q_7, H0⟩ := H0
  refine lok_rt (Env.of E0 [⟨some 64, 16, [], [], [.one (.p (.val (.bool ((law14_awake).getD default))))], [], (law14_awake).isSome = true, fun h => ok_law14_awake _ (isSome_get h)⟩]) (⟨66, mkS [(4, .x (.one (.p (.val (.bool ((((y7 == (0 : Int)) && (y9 == (0 : Int))) && ((y6.Extra == y8.Extra) && (y6.Needs == y8.Needs))) && ((law14_awake).getD default)))))))], mkH []⟩) ?_
  refine lok_ret ?_
  obtain rfl := Option.some.inj H0
  try simp only [thenL, blockL]
  exact fin_au _ (.inr rfl) [] (⟨66, mkS [(4, .x (.one (.p (.val (.bool ((((y7 == (0 : Int)) && (y9 == (0 : Int))) && ((y6.Extra == y8.Extra) && (y6.Needs == y8.Needs))) && ((law14_awake).getD default)))))))], mkH []⟩) rfl rfl imp_au
theorem ok_access_Join (a : api_Access) (b : api_Access) (r_ : api_Access) (H0 : access_Join a b = some r_) : CallOK Try.prog 30 [.agg [.p (pi a.Extra), .p (pi a.Needs)], .agg [.p (pi b.Extra), .p (pi b.Needs)]] [] [.agg [.p (pi r_.Extra), .p (pi r_.Needs)]] [] := by
  refine callOK (n := 18) (rs := [.cell 4 38]) (nb := 0) (V := []) Try.func30 rfl (by kernel_rfl) rfl rfl rfl rfl (Nat.le_of_ble_eq_true rfl) rfl (by decide) ?_
  unfold access_Join at H0
  refine lok_rt E0 (⟨18, mkS [(2, .x (.one (.ptr 102 0))), (3, .x (.one (.ptr 103 0))), (4, .x (.one (.ptr 104 0)))], mkH [(102, .var [.p (pi a.Extra), .p (pi a.Needs)]), (103, .var [.p (pi b.Extra), .p (pi b.Needs)]), (104, .var [.p (pi (0 : Int)), .p (pi (0 : Int))])]⟩) ?_
  refine lok_seq ?_
  replace H0 := bind_some H0
  obtain ⟨y, h_0, H0⟩ := H0
  replace H0 := req_some H0
  obtain ⟨q_3, H0⟩ := H0
  refine lok_rt (Env.of E0 [⟨some 6, 39, [.agg [.p (pi a.Extra), .p (pi a.Needs)]], [], [.one (.p (.val (.bool y)))], [], True, fun _ => ok_access_valid a y h_0⟩,
      ⟨some 10, 39, [.agg [.p (pi b.Extra), .p (pi b.Needs)]], [], [.one (.p (.val (.bool ((access_valid b).getD default))))], [], (access_valid b).isSome = true, fun h => ok_access_valid b _ (isSome_get h)⟩]) (⟨18, mkS [(2, .x (.one (.ptr 102 0))), (3, .x (.one (.ptr 103 0))), (4, .x (.one (.ptr 104 0))), (12, .x (.one (.p (.val (.bool ((!y) || (!((access_valid b).getD default))))))))], mkH [(102, .var [.p (pi a.Extra), .p (pi a.Needs)]), (103, .var [.p (pi b.Extra), .p (pi b.Needs)]), (104, .var [.p (pi (0 : Int)), .p (pi (0 : Int))])]⟩) ?_
  refine lok_c ((!y) || (!((access_valid b).getD default))) ?_ ?_
  · intro b_2
    replace H0 := cpos H0 b_2
    refine lok_rt E0 (⟨18, mkS [(4, .x (.one (.ptr 104 0)))], mkH [(104, .var [.p (pi (0 : Int)), .p (pi (0 : Int))])]⟩) ?_
    refine lok_ret ?_
    obtain rfl := Option.some.inj H0
    try simp only [thenL, blockL]
    exact fin_au _ (.inr rfl) [] (⟨18, mkS [(4, .x (.one (.ptr 104 0)))], mkH [(104, .var [.p (pi (0 : Int)), .p (pi (0 : Int))])]⟩) rfl rfl imp_au
  · intro b_2
    replace H0 := cneg H0 b_2
    refine lok_skip ?_
    try simp only [thenL, blockL, ↓reduceIte, reduceCtorEq]
    replace H0 := bind_some H0
    obtain ⟨y1, h_1, H0⟩ := H0
    refine lok_rt (Env.of E0 [⟨some 17, 43, [.one (.p (.sl 2 (List.map enc_api_Access ([a, b]))))], [], [.agg [.p (pi y1.Extra), .p (pi y1.Needs)]], [], True, fun _ => ok_access_joined ([a, b]) y1 h_1⟩]) (⟨18, mkS [(4, .x (.one (.ptr 104 0)))], mkH [(104, .var [.p (pi y1.Extra), .p (pi y1.Needs)])]⟩) ?_
    refine lok_ret ?_
    obtain rfl := Option.some.inj H0
    try simp only [thenL, blockL]
    exact fin_au _ (.inr rfl) [] (⟨18, mkS [(4, .x (.one (.ptr 104 0)))], mkH [(104, .var [.p (pi y1.Extra), .p (pi y1.Needs)])]⟩) rfl rfl imp_au
end Go.LS
