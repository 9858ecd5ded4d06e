/-
  The walks: the functions compute what the plain ones say. Condition: the plain function has a value.
-/
import Derived.Test.YtdhhopobephbnaaK1
import Derived.Test.YtdhhopobephbnaaD2
namespace Go.LS
open Go.Proofs
set_option linter.all false
set_option linter.unusedSimpArgs false
set_option linter.unusedVariables false
set_option maxRecDepth 20000

theorem ok_access_applies (r : api_AccessRule) (l : List api_Evidence) (candidate : Int) (time : Int) (r_ : Bool) (H0 : access_applies r l candidate time = some r_) : CallOK Try.prog 45 [.agg [.p (pi r.Kind), .p (pi r.Least), .p (pi r.Extra), .p (pi r.Needs)], .one (.p (.sl 5 (List.map enc_api_Evidence l))), .one (.p (pi candidate)), .one (.p (pi time))] [] [.one (.p (.val (.bool r_)))] [] := by
  refine callOK (n := 58) (rs := [.tmp 8]) (nb := 0) (V := []) Try.func45 rfl (by kernel_rfl) rfl rfl rfl rfl (Nat.le_of_ble_eq_true rfl) rfl (by decide) ?_
  unfold access_applies at H0
  refine lok_rt E0 (⟨58, mkS [(1, .x (.one (.p (.sl 5 (List.map enc_api_Evidence l))))), (2, .x (.one (.p (pi candidate)))), (3, .x (.one (.p (pi time)))), (4, .x (.one (.ptr 104 0)))], mkH [(104, .var [.p (pi r.Kind), .p (pi r.Least), .p (pi r.Extra), .p (pi r.Needs)])]⟩) ?_
  refine lok_join (fun x_ : Unit => access_applies_j1 = some r_) (fun x_ => ⟨58, mkS [], mkH []⟩) ?hyaccess_applies_j1 ?hxaccess_applies_j1
  case hyaccess_applies_j1 =>
    rintro _ H0
    try dsimp only at H0 ⊢
    unfold access_applies_j1 at H0
    refine lok_rt E0 (⟨58, mkS [(8, .x (.one (.p (.val (.bool false)))))], mkH []⟩) ?_
    refine lok_ret ?_
    obtain rfl := Option.some.inj H0
    try simp only [thenL, blockL]
    exact fin_au _ (.inr rfl) [] (⟨58, mkS [(8, .x (.one (.p (.val (.bool false)))))], mkH []⟩) rfl rfl imp_au
  case hxaccess_applies_j1 =>
    refine lok_rt E0 (⟨58, mkS [(2, .x (.one (.p (pi candidate)))), (3, .x (.one (.p (pi time)))), (4, .x (.one (.ptr 104 0))), (11, .x (.one (.p (.sl 5 (List.map enc_api_Evidence l))))), (12, .x (.one (.p (pi (l.length : Int))))), (13, .x (.one (.p (pi (0 : Int)))))], mkH [(104, .var [.p (pi r.Kind), .p (pi r.Least), .p (pi r.Extra), .p (pi r.Needs)])]⟩) ?_
    refine lok_block ?_
    replace H0 := bind_some H0
    obtain ⟨v_0, hv_0, H0⟩ := H0
    refine lok_iter (fun x_ => ⟨58, mkS [(2, .x (.one (.p (pi candidate)))), (3, .x (.one (.p (pi time)))), (4, .x (.one (.ptr 104 0))), (11, .x (.one (.p (.sl 5 (List.map enc_api_Evidence l))))), (12, .x (.one (.p (pi (l.length : Int))))), (13, .x (.one (.p (pi x_))))], mkH [(104, .var [.p (pi r.Kind), .p (pi r.Least), .p (pi r.Extra), .p (pi r.Needs)])]⟩) hv_0 imp_au ?_
    · rintro v o_1 H1 k_1
      unfold access_applies_l3 at H1
      try dsimp only at H1 ⊢
      refine lok_rt E0 (⟨58, mkS [(2, .x (.one (.p (pi candidate)))), (3, .x (.one (.p (pi time)))), (4, .x (.one (.ptr 104 0))), (11, .x (.one (.p (.sl 5 (List.map enc_api_Evidence l))))), (12, .x (.one (.p (pi (l.length : Int))))), (13, .x (.one (.p (pi v)))), (14, .x (.one (.p (.val (.bool (decide (v < (l.length : Int))))))))], mkH [(104, .var [.p (pi r.Kind), .p (pi r.Least), .p (pi r.Extra), .p (pi r.Needs)])]⟩) ?_
      refine lok_seq ?_
      refine lok_c (decide (v < (l.length : Int))) ?_ ?_
      · intro b_6
        replace H1 := cpos H1 b_6
        refine lok_skip ?_
        try simp only [thenL, blockL, ↓reduceIte, reduceCtorEq]
        refine lok_join (fun x_ : Unit => access_applies_j2 v = some o_1) (fun x_ => ⟨58, mkS [(2, .x (.one (.p (pi candidate)))), (3, .x (.one (.p (pi time)))), (4, .x (.one (.ptr 104 0))), (11, .x (.one (.p (.sl 5 (List.map enc_api_Evidence l))))), (12, .x (.one (.p (pi (l.length : Int))))), (13, .x (.one (.p (pi v))))], mkH [(104, .var [.p (pi r.Kind), .p (pi r.Least), .p (pi r.Extra), .p (pi r.Needs)])]⟩) ?hyaccess_applies_j2 ?hxaccess_applies_j2
        case hyaccess_applies_j2 =>
          rintro _ H1
          try dsimp only at H1 ⊢
          unfold access_applies_j2 at H1
          refine lok_rl E0 (⟨58, mkS [(2, .x (.one (.p (pi candidate)))), (3, .x (.one (.p (pi time)))), (4, .x (.one (.ptr 104 0))), (11, .x (.one (.p (.sl 5 (List.map enc_api_Evidence l))))), (12, .x (.one (.p (pi (l.length : Int))))), (13, .x (.one (.p (pi (IntKind.i64.wrap (v + (1 : Int)))))))], mkH [(104, .var [.p (pi r.Kind), .p (pi r.Least), .p (pi r.Extra), .p (pi r.Needs)])]⟩) ?_
          try simp only [thenL, blockL, ↓reduceIte, reduceCtorEq]
          exact ⟨(IntKind.i64.wrap (v + (1 : Int))), (Option.some.inj H1).symm, imp_au⟩
        case hxaccess_applies_j2 =>
          refine lok_block ?_
          replace H1 := req_some H1
          obtain ⟨q_5, H1⟩ := H1
          refine lok_rt E0 (⟨58, mkS [(2, .x (.one (.p (pi candidate)))), (3, .x (.one (.p (pi time)))), (4, .x (.one (.ptr 104 0))), (10, .x (.one (.ptr 110 0))), (11, .x (.one (.p (.sl 5 (List.map enc_api_Evidence l))))), (12, .x (.one (.p (pi (l.length : Int))))), (13, .x (.one (.p (pi v))))], mkH [(104, .var [.p (pi r.Kind), .p (pi r.Least), .p (pi r.Extra), .p (pi r.Needs)]), (110, .var [.p (pi ((ix l v).Candidate)), .p (pi ((ix l v).Kind)), .p (pi ((ix l v).Level)), .p (pi ((ix l v).From)), .p (pi ((ix l v).Until))])]⟩) ?_
          refine lok_seq ?_
          replace H1 := req_some H1
          obtain ⟨⟨q_3, q_4⟩, H1⟩ := H1
          refine lok_rt (Env.of E0 [⟨some 24, 38, [.one (.p (pi ((ix l v).Kind)))], [], [.one (.p (.val (.bool ((access_isDegree ((ix l v).Kind)).getD default))))], [], (access_isDegree ((ix l v).Kind)).isSome = true, fun h => ok_access_isDegree ((ix l v).Kind) _ (isSome_get h)⟩,
      ⟨some 30, 38, [.one (.p (pi ((ix l v).Level)))], [], [.one (.p (.val (.bool ((access_isDegree ((ix l v).Level)).getD default))))], [], (access_isDegree ((ix l v).Level)).isSome = true, fun h => ok_access_isDegree ((ix l v).Level) _ (isSome_get h)⟩]) (⟨58, mkS [(2, .x (.one (.p (pi candidate)))), (3, .x (.one (.p (pi time)))), (4, .x (.one (.ptr 104 0))), (10, .x (.one (.ptr 110 0))), (11, .x (.one (.p (.sl 5 (List.map enc_api_Evidence l))))), (12, .x (.one (.p (pi (l.length : Int))))), (13, .x (.one (.p (pi v)))), (44, .x (.one (.p (.val (.bool ((((((ix l v).Candidate != candidate) || (!((access_isDegree ((ix l v).Kind)).getD default))) || (!((access_isDegree ((ix l v).Level)).getD default))) || (decide (time < (ix l v).From))) || (decide ((ix l v).Until < time))))))))], mkH [(104, .var [.p (pi r.Kind), .p (pi r.Least), .p (pi r.Extra), .p (pi r.Needs)]), (110, .var [.p (pi ((ix l v).Candidate)), .p (pi ((ix l v).Kind)), .p (pi ((ix l v).Level)), .p (pi ((ix l v).From)), .p (pi ((ix l v).Until))])]⟩) ?_
          refine lok_c ((((((ix l v).Candidate != candidate) || (!((access_isDegree ((ix l v).Kind)).getD default))) || (!((access_isDegree ((ix l v).Level)).getD default))) || (decide (time < (ix l v).From))) || (decide ((ix l v).Until < time))) ?_ ?_
          · intro b_2
            replace H1 := cpos H1 b_2
            refine lok_exit ?_
            try simp only [thenL, blockL, ↓reduceIte, reduceCtorEq]
            exact ⟨(), H1, imp_au⟩
          · intro b_2
            replace H1 := cneg H1 b_2
            refine lok_skip ?_
            try simp only [thenL, blockL, ↓reduceIte, reduceCtorEq]
            refine lok_rt E0 (⟨58, mkS [(2, .x (.one (.p (pi candidate)))), (3, .x (.one (.p (pi time)))), (4, .x (.one (.ptr 104 0))), (11, .x (.one (.p (.sl 5 (List.map enc_api_Evidence l))))), (12, .x (.one (.p (pi (l.length : Int))))), (13, .x (.one (.p (pi v)))), (56, .x (.one (.p (.val (.bool (((ix l v).Kind == r.Kind) && (decide (r.Least ≤ (ix l v).Level))))))))], mkH [(104, .var [.p (pi r.Kind), .p (pi r.Least), .p (pi r.Extra), .p (pi r.Needs)])]⟩) ?_
            refine lok_c (((ix l v).Kind == r.Kind) && (decide (r.Least ≤ (ix l v).Level))) ?_ ?_
            · intro b_1
              replace H1 := cpos H1 b_1
              refine lok_rt E0 (⟨58, mkS [(8, .x (.one (.p (.val (.bool true)))))], mkH []⟩) ?_
              refine lok_ret ?_
              try simp only [thenL, blockL, ↓reduceIte, reduceCtorEq]
              have e_1 := k_1 _ (Option.some.inj H1).symm
              subst e_1
              try dsimp only at H0
              obtain rfl := Option.some.inj H0
              try simp only [thenL, blockL]
              exact fin_au _ (.inr rfl) [] (⟨58, mkS [(8, .x (.one (.p (.val (.bool true)))))], mkH []⟩) rfl rfl imp_au
            · intro b_1
              replace H1 := cneg H1 b_1
              refine lok_skip ?_
              try simp only [thenL, blockL, ↓reduceIte, reduceCtorEq]
              exact ⟨(), H1, imp_au⟩
      · intro b_6
        replace H1 := cneg H1 b_6
        refine lok_exit ?_
        try simp only [thenL, blockL, ↓reduceIte, reduceCtorEq]
        have e_1 := k_1 _ (Option.some.inj H1).symm
        subst e_1
        try dsimp only at H0
        try simp only [thenL, blockL, ↓reduceIte, reduceCtorEq]
        exact ⟨(), H0, imp_au⟩
theorem ok_access_Reasons (rules : List api_AccessRule) (l : List api_Evidence) (candidate : Int) (time : Int) (r_ : (List Int)) (H0 : access_Reasons rules l candidate time = some r_) : CallOK Try.prog 22 [.one (.p (.sl 4 (List.map enc_api_AccessRule rules))), .one (.p (.sl 5 (List.map enc_api_Evidence l))), .one (.p (pi candidate)), .one (.p (pi time))] [] [.one (.p (.sl 1 (List.map encI r_)))] [] := by
  refine callOK (n := 33) (rs := [.tmp 8]) (nb := 0) (V := []) Try.func22 rfl (by kernel_rfl) rfl rfl rfl rfl (Nat.le_of_ble_eq_true rfl) rfl (by decide) ?_
  unfold access_Reasons at H0
  refine lok_rt E0 (⟨33, mkS [(0, .x (.one (.p (.sl 4 (List.map enc_api_AccessRule rules))))), (1, .x (.one (.p (.sl 5 (List.map enc_api_Evidence l))))), (2, .x (.one (.p (pi candidate)))), (3, .x (.one (.p (pi time))))], mkH []⟩) ?_
  refine lok_seq ?_
  replace H0 := bind_some H0
  obtain ⟨y, h_0, H0⟩ := H0
  refine lok_rt (Env.of E0 [⟨some 13, 14, [.one (.p (.sl 4 (List.map enc_api_AccessRule rules)))], [], [.one (.p (pi y))], [], True, fun _ => ok_access_Check rules y h_0⟩]) (⟨33, mkS [(0, .x (.one (.p (.sl 4 (List.map enc_api_AccessRule rules))))), (1, .x (.one (.p (.sl 5 (List.map enc_api_Evidence l))))), (2, .x (.one (.p (pi candidate)))), (3, .x (.one (.p (pi time)))), (14, .x (.one (.p (.val (.bool (y != (0 : Int)))))))], mkH []⟩) ?_
  refine lok_c (y != (0 : Int)) ?_ ?_
  · intro b_7
    replace H0 := cpos H0 b_7
    refine lok_rt E0 (⟨33, mkS [(8, .x (.one (.vw 108)))], mkH [(108, .arr 1 (List.map encI ([] : List Int)))]⟩) ?_
    refine lok_ret ?_
    obtain rfl := Option.some.inj H0
    try simp only [thenL, blockL]
    exact fin_au _ (.inr rfl) [] (⟨33, mkS [(8, .x (.one (.p (.sl 1 (List.map encI ([] : List Int))))))], mkH []⟩) rfl rfl (Imp.trans (imp_frz 108 1 (List.map encI ([] : List Int))) imp_au)
  · intro b_7
    replace H0 := cneg H0 b_7
    refine lok_skip ?_
    try simp only [thenL, blockL, ↓reduceIte, reduceCtorEq]
    refine lok_rt E0 (⟨33, mkS [(0, .x (.one (.p (.sl 4 (List.map enc_api_AccessRule rules))))), (1, .x (.one (.p (.sl 5 (List.map enc_api_Evidence l))))), (2, .x (.one (.p (pi candidate)))), (3, .x (.one (.p (pi time)))), (9, .x (.one (.vw 109)))], mkH [(109, .arr 1 (List.map encI ([] : List Int)))]⟩) ?_
    refine lok_join (fun x_ : (List Int) => access_Reasons_j1 x_ = some r_) (fun x_ => ⟨33, mkS [(9, .x (.one (.vw 109)))], mkH [(109, .arr 1 (List.map encI x_))]⟩) ?hyaccess_Reasons_j1 ?hxaccess_Reasons_j1
    case hyaccess_Reasons_j1 =>
      rintro found H0
      try dsimp only at H0 ⊢
      unfold access_Reasons_j1 at H0
      refine lok_rt E0 (⟨33, mkS [(8, .x (.one (.vw 109)))], mkH [(109, .arr 1 (List.map encI found))]⟩) ?_
      refine lok_ret ?_
      obtain rfl := Option.some.inj H0
      try simp only [thenL, blockL]
      exact fin_au _ (.inr rfl) [] (⟨33, mkS [(8, .x (.one (.p (.sl 1 (List.map encI found)))))], mkH []⟩) rfl rfl (Imp.trans (imp_frz 109 1 (List.map encI found)) imp_au)
    case hxaccess_Reasons_j1 =>
      refine lok_rt E0 (⟨33, mkS [(1, .x (.one (.p (.sl 5 (List.map enc_api_Evidence l))))), (2, .x (.one (.p (pi candidate)))), (3, .x (.one (.p (pi time)))), (9, .x (.one (.vw 109))), (15, .x (.one (.p (.sl 4 (List.map enc_api_AccessRule rules))))), (16, .x (.one (.p (pi (rules.length : Int))))), (17, .x (.one (.p (pi (0 : Int)))))], mkH [(109, .arr 1 (List.map encI ([] : List Int)))]⟩) ?_
      refine lok_block ?_
      replace H0 := bind_some H0
      obtain ⟨v_1, hv_1, H0⟩ := H0
      refine lok_iter (fun x_ => ⟨33, mkS [(1, .x (.one (.p (.sl 5 (List.map enc_api_Evidence l))))), (2, .x (.one (.p (pi candidate)))), (3, .x (.one (.p (pi time)))), (9, .x (.one (.vw 109))), (15, .x (.one (.p (.sl 4 (List.map enc_api_AccessRule rules))))), (16, .x (.one (.p (pi (rules.length : Int))))), (17, .x (.one (.p (pi x_.1))))], mkH [(109, .arr 1 (List.map encI x_.2))]⟩) hv_1 imp_au ?_
      · rintro ⟨v, found1⟩ o_1 H1 k_1
        unfold access_Reasons_l3 at H1
        try dsimp only at H1 ⊢
        refine lok_rt E0 (⟨33, mkS [(1, .x (.one (.p (.sl 5 (List.map enc_api_Evidence l))))), (2, .x (.one (.p (pi candidate)))), (3, .x (.one (.p (pi time)))), (9, .x (.one (.vw 109))), (15, .x (.one (.p (.sl 4 (List.map enc_api_AccessRule rules))))), (16, .x (.one (.p (pi (rules.length : Int))))), (17, .x (.one (.p (pi v)))), (18, .x (.one (.p (.val (.bool (decide (v < (rules.length : Int))))))))], mkH [(109, .arr 1 (List.map encI found1))]⟩) ?_
        refine lok_seq ?_
        refine lok_c (decide (v < (rules.length : Int))) ?_ ?_
        · intro b_6
          replace H1 := cpos H1 b_6
          refine lok_skip ?_
          try simp only [thenL, blockL, ↓reduceIte, reduceCtorEq]
          refine lok_join (fun x_ : (List Int) => access_Reasons_j2 v x_ = some o_1) (fun x_ => ⟨33, mkS [(1, .x (.one (.p (.sl 5 (List.map enc_api_Evidence l))))), (2, .x (.one (.p (pi candidate)))), (3, .x (.one (.p (pi time)))), (9, .x (.one (.vw 109))), (15, .x (.one (.p (.sl 4 (List.map enc_api_AccessRule rules))))), (16, .x (.one (.p (pi (rules.length : Int))))), (17, .x (.one (.p (pi v))))], mkH [(109, .arr 1 (List.map encI x_))]⟩) ?hyaccess_Reasons_j2 ?hxaccess_Reasons_j2
          case hyaccess_Reasons_j2 =>
            rintro found3 H1
            try dsimp only at H1 ⊢
            unfold access_Reasons_j2 at H1
            refine lok_rl E0 (⟨33, mkS [(1, .x (.one (.p (.sl 5 (List.map enc_api_Evidence l))))), (2, .x (.one (.p (pi candidate)))), (3, .x (.one (.p (pi time)))), (9, .x (.one (.vw 109))), (15, .x (.one (.p (.sl 4 (List.map enc_api_AccessRule rules))))), (16, .x (.one (.p (pi (rules.length : Int))))), (17, .x (.one (.p (pi (IntKind.i64.wrap (v + (1 : Int)))))))], mkH [(109, .arr 1 (List.map encI found3))]⟩) ?_
            try simp only [thenL, blockL, ↓reduceIte, reduceCtorEq]
            exact ⟨((IntKind.i64.wrap (v + (1 : Int))), found3), (Option.some.inj H1).symm, imp_au⟩
          case hxaccess_Reasons_j2 =>
            refine lok_block ?_
            replace H1 := req_some H1
            obtain ⟨q_5, H1⟩ := H1
            refine lok_rt E0 (⟨33, mkS [(1, .x (.one (.p (.sl 5 (List.map enc_api_Evidence l))))), (2, .x (.one (.p (pi candidate)))), (3, .x (.one (.p (pi time)))), (9, .x (.one (.vw 109))), (10, .x (.one (.p (pi v)))), (11, .x (.one (.ptr 111 0))), (15, .x (.one (.p (.sl 4 (List.map enc_api_AccessRule rules))))), (16, .x (.one (.p (pi (rules.length : Int))))), (17, .x (.one (.p (pi v))))], mkH [(109, .arr 1 (List.map encI found1)), (111, .var [.p (pi ((ix rules v).Kind)), .p (pi ((ix rules v).Least)), .p (pi ((ix rules v).Extra)), .p (pi ((ix rules v).Needs))])]⟩) ?_
            replace H1 := bind_some H1
            obtain ⟨y1, h_2, H1⟩ := H1
            refine lok_rt (Env.of E0 [⟨some 26, 45, [.agg [.p (pi ((ix rules v).Kind)), .p (pi ((ix rules v).Least)), .p (pi ((ix rules v).Extra)), .p (pi ((ix rules v).Needs))], .one (.p (.sl 5 (List.map enc_api_Evidence l))), .one (.p (pi candidate)), .one (.p (pi time))], [], [.one (.p (.val (.bool y1)))], [], True, fun _ => ok_access_applies (ix rules v) l candidate time y1 h_2⟩]) (⟨33, mkS [(1, .x (.one (.p (.sl 5 (List.map enc_api_Evidence l))))), (2, .x (.one (.p (pi candidate)))), (3, .x (.one (.p (pi time)))), (9, .x (.one (.vw 109))), (10, .x (.one (.p (pi v)))), (15, .x (.one (.p (.sl 4 (List.map enc_api_AccessRule rules))))), (16, .x (.one (.p (pi (rules.length : Int))))), (17, .x (.one (.p (pi v)))), (26, .x (.one (.p (.val (.bool y1)))))], mkH [(109, .arr 1 (List.map encI found1))]⟩) ?_
            refine lok_c y1 ?_ ?_
            · intro b_4
              replace H1 := cpos H1 b_4
              replace H1 := req_some H1
              obtain ⟨q_3, H1⟩ := H1
              refine lok_rl E0 (⟨33, mkS [(1, .x (.one (.p (.sl 5 (List.map enc_api_Evidence l))))), (2, .x (.one (.p (pi candidate)))), (3, .x (.one (.p (pi time)))), (9, .x (.one (.vw 109))), (15, .x (.one (.p (.sl 4 (List.map enc_api_AccessRule rules))))), (16, .x (.one (.p (pi (rules.length : Int))))), (17, .x (.one (.p (pi v))))], mkH [(109, .arr 1 (List.map encI (found1 ++ [v])))]⟩) ?_
              try simp only [thenL, blockL, ↓reduceIte, reduceCtorEq]
              exact ⟨(found1 ++ [v]), H1, imp_au⟩
            · intro b_4
              replace H1 := cneg H1 b_4
              refine lok_skip ?_
              try simp only [thenL, blockL, ↓reduceIte, reduceCtorEq]
              exact ⟨found1, H1, imp_au⟩
        · intro b_6
          replace H1 := cneg H1 b_6
          refine lok_exit ?_
          try simp only [thenL, blockL, ↓reduceIte, reduceCtorEq]
          have e_1 := k_1 _ (Option.some.inj H1).symm
          subst e_1
          try dsimp only at H0
          try simp only [thenL, blockL, ↓reduceIte, reduceCtorEq]
          exact ⟨found1, H0, imp_au⟩
theorem ok_access_Imply (a : api_Access) (r_ : api_Access) (H0 : access_Imply a = some r_) : CallOK Try.prog 32 [.agg [.p (pi a.Extra), .p (pi a.Needs)]] [] [.agg [.p (pi r_.Extra), .p (pi r_.Needs)]] [] := by
  refine callOK (n := 21) (rs := [.cell 2 38]) (nb := 0) (V := []) Try.func32 rfl (by kernel_rfl) rfl rfl rfl rfl (Nat.le_of_ble_eq_true rfl) rfl (by decide) ?_
  unfold access_Imply at H0
  refine lok_rt E0 (⟨21, mkS [(1, .x (.one (.ptr 101 0))), (2, .x (.one (.ptr 102 0)))], mkH [(101, .var [.p (pi a.Extra), .p (pi a.Needs)]), (102, .var [.p (pi (0 : Int)), .p (pi (0 : Int))])]⟩) ?_
  refine lok_seq ?_
  replace H0 := bind_some H0
  obtain ⟨y, h_0, H0⟩ := H0
  refine lok_rt (Env.of E0 [⟨some 4, 39, [.agg [.p (pi a.Extra), .p (pi a.Needs)]], [], [.one (.p (.val (.bool y)))], [], True, fun _ => ok_access_valid a y h_0⟩]) (⟨21, mkS [(1, .x (.one (.ptr 101 0))), (2, .x (.one (.ptr 102 0))), (5, .x (.one (.p (.val (.bool (!y))))))], mkH [(101, .var [.p (pi a.Extra), .p (pi a.Needs)]), (102, .var [.p (pi (0 : Int)), .p (pi (0 : Int))])]⟩) ?_
  refine lok_c (!y) ?_ ?_
  · intro b_2
    replace H0 := cpos H0 b_2
    refine lok_rt E0 (⟨21, mkS [(2, .x (.one (.ptr 102 0)))], mkH [(102, .var [.p (pi (0 : Int)), .p (pi (0 : Int))])]⟩) ?_
    refine lok_ret ?_
    obtain rfl := Option.some.inj H0
    try simp only [thenL, blockL]
    exact fin_au _ (.inr rfl) [] (⟨21, mkS [(2, .x (.one (.ptr 102 0)))], mkH [(102, .var [.p (pi (0 : Int)), .p (pi (0 : Int))])]⟩) rfl rfl imp_au
  · intro b_2
    replace H0 := cneg H0 b_2
    refine lok_skip ?_
    try simp only [thenL, blockL, ↓reduceIte, reduceCtorEq]
    refine lok_join (fun x_ : Int => access_Imply_j1 a x_ = some r_) (fun x_ => ⟨21, mkS [(1, .x (.one (.ptr 101 0))), (2, .x (.one (.ptr 102 0)))], mkH [(101, .var [.p (pi a.Extra), .p (pi x_)]), (102, .var [.p (pi (0 : Int)), .p (pi (0 : Int))])]⟩) ?hyaccess_Imply_j1 ?hxaccess_Imply_j1
    case hyaccess_Imply_j1 =>
      rintro a1 H0
      try dsimp only at H0 ⊢
      unfold access_Imply_j1 at H0
      refine lok_rt E0 (⟨21, mkS [(2, .x (.one (.ptr 102 0)))], mkH [(102, .var [.p (pi a.Extra), .p (pi a1)])]⟩) ?_
      refine lok_ret ?_
      obtain rfl := Option.some.inj H0
      try simp only [thenL, blockL]
      exact fin_au _ (.inr rfl) [] (⟨21, mkS [(2, .x (.one (.ptr 102 0)))], mkH [(102, .var [.p (pi a.Extra), .p (pi a1)])]⟩) rfl rfl imp_au
    case hxaccess_Imply_j1 =>
      refine lok_rt E0 (⟨21, mkS [(1, .x (.one (.ptr 101 0))), (2, .x (.one (.ptr 102 0))), (15, .x (.one (.p (.val (.bool (((bAnd .i64 a.Needs (24 : Int)) != (0 : Int)) || (decide ((25 : Int) < a.Extra))))))))], mkH [(101, .var [.p (pi a.Extra), .p (pi a.Needs)]), (102, .var [.p (pi (0 : Int)), .p (pi (0 : Int))])]⟩) ?_
      refine lok_c (((bAnd .i64 a.Needs (24 : Int)) != (0 : Int)) || (decide ((25 : Int) < a.Extra))) ?_ ?_
      · intro b_1
        replace H0 := cpos H0 b_1
        refine lok_rl E0 (⟨21, mkS [(1, .x (.one (.ptr 101 0))), (2, .x (.one (.ptr 102 0)))], mkH [(101, .var [.p (pi a.Extra), .p (pi (bOr .i64 a.Needs (1 : Int)))]), (102, .var [.p (pi (0 : Int)), .p (pi (0 : Int))])]⟩) ?_
        try simp only [thenL, blockL, ↓reduceIte, reduceCtorEq]
        exact ⟨(bOr .i64 a.Needs (1 : Int)), H0, imp_au⟩
      · intro b_1
        replace H0 := cneg H0 b_1
        refine lok_skip ?_
        try simp only [thenL, blockL, ↓reduceIte, reduceCtorEq]
        exact ⟨a.Needs, H0, imp_au⟩
theorem ok_access_joined (l : List api_Access) (r_ : api_Access) (H0 : access_joined l = some r_) : CallOK Try.prog 43 [.one (.p (.sl 2 (List.map enc_api_Access l)))] [] [.agg [.p (pi r_.Extra), .p (pi r_.Needs)]] [] := by
  refine callOK (n := 26) (rs := [.cell 2 38]) (nb := 0) (V := []) Try.func43 rfl (by kernel_rfl) rfl rfl rfl rfl (Nat.le_of_ble_eq_true rfl) rfl (by decide) ?_
  unfold access_joined at H0
  refine lok_rt E0 (⟨26, mkS [(0, .x (.one (.p (.sl 2 (List.map enc_api_Access l))))), (2, .x (.one (.ptr 102 0)))], mkH [(102, .var [.p (pi (0 : Int)), .p (pi (0 : Int))])]⟩) ?_
  refine lok_rt E0 (⟨26, mkS [(0, .x (.one (.p (.sl 2 (List.map enc_api_Access l))))), (2, .x (.one (.ptr 102 0))), (3, .x (.one (.ptr 103 0)))], mkH [(102, .var [.p (pi (0 : Int)), .p (pi (0 : Int))]), (103, .var [.p (pi (0 : Int)), .p (pi (0 : Int))])]⟩) ?_
  refine lok_join (fun x_ : Int × Int => access_joined_j1 x_.1 x_.2 = some r_) (fun x_ => ⟨26, mkS [(2, .x (.one (.ptr 102 0))), (3, .x (.one (.ptr 103 0)))], mkH [(102, .var [.p (pi (0 : Int)), .p (pi (0 : Int))]), (103, .var [.p (pi x_.1), .p (pi x_.2)])]⟩) ?hyaccess_joined_j1 ?hxaccess_joined_j1
  case hyaccess_joined_j1 =>
    rintro ⟨sum, sum1⟩ H0
    try dsimp only at H0 ⊢
    unfold access_joined_j1 at H0
    refine lok_rt E0 (⟨26, mkS [(2, .x (.one (.ptr 102 0)))], mkH [(102, .var [.p (pi sum), .p (pi sum1)])]⟩) ?_
    refine lok_ret ?_
    obtain rfl := Option.some.inj H0
    try simp only [thenL, blockL]
    exact fin_au _ (.inr rfl) [] (⟨26, mkS [(2, .x (.one (.ptr 102 0)))], mkH [(102, .var [.p (pi sum), .p (pi sum1)])]⟩) rfl rfl imp_au
  case hxaccess_joined_j1 =>
    refine lok_rt E0 (⟨26, mkS [(2, .x (.one (.ptr 102 0))), (3, .x (.one (.ptr 103 0))), (6, .x (.one (.p (.sl 2 (List.map enc_api_Access l))))), (7, .x (.one (.p (pi (l.length : Int))))), (8, .x (.one (.p (pi (0 : Int)))))], mkH [(102, .var [.p (pi (0 : Int)), .p (pi (0 : Int))]), (103, .var [.p (pi (0 : Int)), .p (pi (0 : Int))])]⟩) ?_
    refine lok_block ?_
    replace H0 := bind_some H0
    obtain ⟨v_0, hv_0, H0⟩ := H0
    refine lok_iter (fun x_ => ⟨26, mkS [(2, .x (.one (.ptr 102 0))), (3, .x (.one (.ptr 103 0))), (6, .x (.one (.p (.sl 2 (List.map enc_api_Access l))))), (7, .x (.one (.p (pi (l.length : Int))))), (8, .x (.one (.p (pi x_.1))))], mkH [(102, .var [.p (pi (0 : Int)), .p (pi (0 : Int))]), (103, .var [.p (pi x_.2.1), .p (pi x_.2.2)])]⟩) hv_0 imp_au ?_
    · rintro ⟨v, sum2, sum3⟩ o_1 H1 k_1
      unfold access_joined_l2 at H1
      try dsimp only at H1 ⊢
      refine lok_rt E0 (⟨26, mkS [(2, .x (.one (.ptr 102 0))), (3, .x (.one (.ptr 103 0))), (6, .x (.one (.p (.sl 2 (List.map enc_api_Access l))))), (7, .x (.one (.p (pi (l.length : Int))))), (8, .x (.one (.p (pi v)))), (9, .x (.one (.p (.val (.bool (decide (v < (l.length : Int))))))))], mkH [(102, .var [.p (pi (0 : Int)), .p (pi (0 : Int))]), (103, .var [.p (pi sum2), .p (pi sum3)])]⟩) ?_
      refine lok_seq ?_
      refine lok_c (decide (v < (l.length : Int))) ?_ ?_
      · intro b_2
        replace H1 := cpos H1 b_2
        refine lok_skip ?_
        try simp only [thenL, blockL, ↓reduceIte, reduceCtorEq]
        refine lok_seq ?_
        refine lok_block ?_
        replace H1 := req_some H1
        obtain ⟨q_1, H1⟩ := H1
        refine lok_rt E0 (⟨26, mkS [(2, .x (.one (.ptr 102 0))), (3, .x (.one (.ptr 103 0))), (5, .x (.one (.ptr 105 0))), (6, .x (.one (.p (.sl 2 (List.map enc_api_Access l))))), (7, .x (.one (.p (pi (l.length : Int))))), (8, .x (.one (.p (pi v))))], mkH [(102, .var [.p (pi (0 : Int)), .p (pi (0 : Int))]), (103, .var [.p (pi sum2), .p (pi sum3)]), (105, .var [.p (pi ((ix l v).Extra)), .p (pi ((ix l v).Needs))])]⟩) ?_
        refine lok_rt E0 (⟨26, mkS [(2, .x (.one (.ptr 102 0))), (3, .x (.one (.ptr 103 0))), (5, .x (.one (.ptr 105 0))), (6, .x (.one (.p (.sl 2 (List.map enc_api_Access l))))), (7, .x (.one (.p (pi (l.length : Int))))), (8, .x (.one (.p (pi v))))], mkH [(102, .var [.p (pi (0 : Int)), .p (pi (0 : Int))]), (103, .var [.p (pi (imax sum2 ((ix l v).Extra))), .p (pi sum3)]), (105, .var [.p (pi ((ix l v).Extra)), .p (pi ((ix l v).Needs))])]⟩) ?_
        refine lok_rl E0 (⟨26, mkS [(2, .x (.one (.ptr 102 0))), (3, .x (.one (.ptr 103 0))), (6, .x (.one (.p (.sl 2 (List.map enc_api_Access l))))), (7, .x (.one (.p (pi (l.length : Int))))), (8, .x (.one (.p (pi v))))], mkH [(102, .var [.p (pi (0 : Int)), .p (pi (0 : Int))]), (103, .var [.p (pi (imax sum2 ((ix l v).Extra))), .p (pi (bOr .i64 sum3 ((ix l v).Needs)))])]⟩) ?_
        try simp only [thenL, blockL, ↓reduceIte, reduceCtorEq]
        refine lok_rl E0 (⟨26, mkS [(2, .x (.one (.ptr 102 0))), (3, .x (.one (.ptr 103 0))), (6, .x (.one (.p (.sl 2 (List.map enc_api_Access l))))), (7, .x (.one (.p (pi (l.length : Int))))), (8, .x (.one (.p (pi (IntKind.i64.wrap (v + (1 : Int)))))))], mkH [(102, .var [.p (pi (0 : Int)), .p (pi (0 : Int))]), (103, .var [.p (pi (imax sum2 ((ix l v).Extra))), .p (pi (bOr .i64 sum3 ((ix l v).Needs)))])]⟩) ?_
        try simp only [thenL, blockL, ↓reduceIte, reduceCtorEq]
        exact ⟨((IntKind.i64.wrap (v + (1 : Int))), (imax sum2 ((ix l v).Extra)), (bOr .i64 sum3 ((ix l v).Needs))), (Option.some.inj H1).symm, imp_au⟩
      · intro b_2
        replace H1 := cneg H1 b_2
        refine lok_exit ?_
        try simp only [thenL, blockL, ↓reduceIte, reduceCtorEq]
        have e_1 := k_1 _ (Option.some.inj H1).symm
        subst e_1
        try dsimp only at H0
        try simp only [thenL, blockL, ↓reduceIte, reduceCtorEq]
        exact ⟨(sum2, sum3), H0, imp_au⟩
theorem ok_access_Grant (rules : List api_AccessRule) (l : List api_Evidence) (candidate : Int) (time : Int) (r_ : api_Access × Int) (H0 : access_Grant rules l candidate time = some r_) : CallOK Try.prog 19 [.one (.p (.sl 4 (List.map enc_api_AccessRule rules))), .one (.p (.sl 5 (List.map enc_api_Evidence l))), .one (.p (pi candidate)), .one (.p (pi time))] [] [.agg [.p (pi r_.1.Extra), .p (pi r_.1.Needs)], .one (.p (pi r_.2))] [] := by
  refine callOK (n := 48) (rs := [.cell 8 38, .tmp 9]) (nb := 0) (V := []) Try.func19 rfl (by kernel_rfl) rfl rfl rfl rfl (Nat.le_of_ble_eq_true rfl) rfl (by decide) ?_
  unfold access_Grant at H0
  refine lok_rt E0 (⟨48, mkS [(0, .x (.one (.p (.sl 4 (List.map enc_api_AccessRule rules))))), (1, .x (.one (.p (.sl 5 (List.map enc_api_Evidence l))))), (2, .x (.one (.p (pi candidate)))), (3, .x (.one (.p (pi time)))), (8, .x (.one (.ptr 108 0)))], mkH [(108, .var [.p (pi (0 : Int)), .p (pi (0 : Int))])]⟩) ?_
  refine lok_seq ?_
  replace H0 := bind_some H0
  obtain ⟨y, h_0, H0⟩ := H0
  refine lok_rt (Env.of E0 [⟨some 15, 14, [.one (.p (.sl 4 (List.map enc_api_AccessRule rules)))], [], [.one (.p (pi y))], [], True, fun _ => ok_access_Check rules y h_0⟩]) (⟨48, mkS [(0, .x (.one (.p (.sl 4 (List.map enc_api_AccessRule rules))))), (1, .x (.one (.p (.sl 5 (List.map enc_api_Evidence l))))), (2, .x (.one (.p (pi candidate)))), (3, .x (.one (.p (pi time)))), (8, .x (.one (.ptr 108 0))), (10, .x (.one (.p (pi y))))], mkH [(108, .var [.p (pi (0 : Int)), .p (pi (0 : Int))])]⟩) ?_
  refine lok_rt E0 (⟨48, mkS [(0, .x (.one (.p (.sl 4 (List.map enc_api_AccessRule rules))))), (1, .x (.one (.p (.sl 5 (List.map enc_api_Evidence l))))), (2, .x (.one (.p (pi candidate)))), (3, .x (.one (.p (pi time)))), (8, .x (.one (.ptr 108 0))), (10, .x (.one (.p (pi y)))), (17, .x (.one (.p (.val (.bool (y != (0 : Int)))))))], mkH [(108, .var [.p (pi (0 : Int)), .p (pi (0 : Int))])]⟩) ?_
  refine lok_c (y != (0 : Int)) ?_ ?_
  · intro b_10
    replace H0 := cpos H0 b_10
    refine lok_rt E0 (⟨48, mkS [(8, .x (.one (.ptr 108 0))), (9, .x (.one (.p (pi y))))], mkH [(108, .var [.p (pi (0 : Int)), .p (pi (0 : Int))])]⟩) ?_
    refine lok_ret ?_
    obtain rfl := Option.some.inj H0
    try simp only [thenL, blockL]
    exact fin_au _ (.inr rfl) [] (⟨48, mkS [(8, .x (.one (.ptr 108 0))), (9, .x (.one (.p (pi y))))], mkH [(108, .var [.p (pi (0 : Int)), .p (pi (0 : Int))])]⟩) rfl rfl imp_au
  · intro b_10
    replace H0 := cneg H0 b_10
    refine lok_skip ?_
    try simp only [thenL, blockL, ↓reduceIte, reduceCtorEq]
    refine lok_rt E0 (⟨48, mkS [(0, .x (.one (.p (.sl 4 (List.map enc_api_AccessRule rules))))), (1, .x (.one (.p (.sl 5 (List.map enc_api_Evidence l))))), (2, .x (.one (.p (pi candidate)))), (3, .x (.one (.p (pi time)))), (8, .x (.one (.ptr 108 0))), (11, .x (.one (.vw 111)))], mkH [(108, .var [.p (pi (0 : Int)), .p (pi (0 : Int))]), (111, .arr 2 (List.map enc_api_Access ([] : List api_Access)))]⟩) ?_
    refine lok_join (fun x_ : (List api_Access) => access_Grant_j1 x_ = some r_) (fun x_ => ⟨48, mkS [(8, .x (.one (.ptr 108 0))), (11, .x (.one (.vw 111)))], mkH [(108, .var [.p (pi (0 : Int)), .p (pi (0 : Int))]), (111, .arr 2 (List.map enc_api_Access x_))]⟩) ?hyaccess_Grant_j1 ?hxaccess_Grant_j1
    case hyaccess_Grant_j1 =>
      rintro granted H0
      try dsimp only at H0 ⊢
      unfold access_Grant_j1 at H0
      replace H0 := bind_some H0
      obtain ⟨y1, h_1, H0⟩ := H0
      replace H0 := bind_some H0
      obtain ⟨y2, h_2, H0⟩ := H0
      refine lok_rt (Env.of E0 [⟨some 46, 43, [.one (.p (.sl 2 (List.map enc_api_Access granted)))], [], [.agg [.p (pi y1.Extra), .p (pi y1.Needs)]], [], True, fun _ => ok_access_joined granted y1 h_1⟩,
      ⟨some 47, 32, [.agg [.p (pi y1.Extra), .p (pi y1.Needs)]], [], [.agg [.p (pi y2.Extra), .p (pi y2.Needs)]], [], True, fun _ => ok_access_Imply y1 y2 h_2⟩]) (⟨48, mkS [(8, .x (.one (.ptr 108 0))), (9, .x (.one (.p (pi (0 : Int)))))], mkH [(108, .var [.p (pi y2.Extra), .p (pi y2.Needs)])]⟩) ?_
      refine lok_ret ?_
      obtain rfl := Option.some.inj H0
      try simp only [thenL, blockL]
      exact fin_au _ (.inr rfl) [] (⟨48, mkS [(8, .x (.one (.ptr 108 0))), (9, .x (.one (.p (pi (0 : Int)))))], mkH [(108, .var [.p (pi y2.Extra), .p (pi y2.Needs)])]⟩) rfl rfl imp_au
    case hxaccess_Grant_j1 =>
      replace H0 := bind_some H0
      obtain ⟨y3, h_3, H0⟩ := H0
      refine lok_rt (Env.of E0 [⟨some 24, 22, [.one (.p (.sl 4 (List.map enc_api_AccessRule rules))), .one (.p (.sl 5 (List.map enc_api_Evidence l))), .one (.p (pi candidate)), .one (.p (pi time))], [], [.one (.p (.sl 1 (List.map encI y3)))], [], True, fun _ => ok_access_Reasons rules l candidate time y3 h_3⟩]) (⟨48, mkS [(0, .x (.one (.p (.sl 4 (List.map enc_api_AccessRule rules))))), (8, .x (.one (.ptr 108 0))), (11, .x (.one (.vw 111))), (24, .x (.one (.p (.sl 1 (List.map encI y3))))), (25, .x (.one (.p (pi (y3.length : Int))))), (26, .x (.one (.p (pi (0 : Int)))))], mkH [(108, .var [.p (pi (0 : Int)), .p (pi (0 : Int))]), (111, .arr 2 (List.map enc_api_Access ([] : List api_Access)))]⟩) ?_
      refine lok_block ?_
      replace H0 := bind_some H0
      obtain ⟨v_4, hv_4, H0⟩ := H0
      refine lok_iter (fun x_ => ⟨48, mkS [(0, .x (.one (.p (.sl 4 (List.map enc_api_AccessRule rules))))), (8, .x (.one (.ptr 108 0))), (11, .x (.one (.vw 111))), (24, .x (.one (.p (.sl 1 (List.map encI y3))))), (25, .x (.one (.p (pi (y3.length : Int))))), (26, .x (.one (.p (pi x_.1))))], mkH [(108, .var [.p (pi (0 : Int)), .p (pi (0 : Int))]), (111, .arr 2 (List.map enc_api_Access x_.2))]⟩) hv_4 imp_au ?_
      · rintro ⟨v, granted1⟩ o_1 H1 k_1
        unfold access_Grant_l2 at H1
        try dsimp only at H1 ⊢
        refine lok_rt E0 (⟨48, mkS [(0, .x (.one (.p (.sl 4 (List.map enc_api_AccessRule rules))))), (8, .x (.one (.ptr 108 0))), (11, .x (.one (.vw 111))), (24, .x (.one (.p (.sl 1 (List.map encI y3))))), (25, .x (.one (.p (pi (y3.length : Int))))), (26, .x (.one (.p (pi v)))), (27, .x (.one (.p (.val (.bool (decide (v < (y3.length : Int))))))))], mkH [(108, .var [.p (pi (0 : Int)), .p (pi (0 : Int))]), (111, .arr 2 (List.map enc_api_Access granted1))]⟩) ?_
        refine lok_seq ?_
        refine lok_c (decide (v < (y3.length : Int))) ?_ ?_
        · intro b_9
          replace H1 := cpos H1 b_9
          refine lok_skip ?_
          try simp only [thenL, blockL, ↓reduceIte, reduceCtorEq]
          refine lok_seq ?_
          refine lok_block ?_
          replace H1 := req_some H1
          obtain ⟨q_8, H1⟩ := H1
          refine lok_rt E0 (⟨48, mkS [(0, .x (.one (.p (.sl 4 (List.map enc_api_AccessRule rules))))), (8, .x (.one (.ptr 108 0))), (11, .x (.one (.vw 111))), (13, .x (.one (.p (pi (ix y3 v))))), (24, .x (.one (.p (.sl 1 (List.map encI y3))))), (25, .x (.one (.p (pi (y3.length : Int))))), (26, .x (.one (.p (pi v))))], mkH [(108, .var [.p (pi (0 : Int)), .p (pi (0 : Int))]), (111, .arr 2 (List.map enc_api_Access granted1))]⟩) ?_
          replace H1 := req_some H1
          obtain ⟨⟨q_6, q_7⟩, H1⟩ := H1
          replace H1 := bindV_some H1
          obtain ⟨granted3, a_5, H1⟩ := H1
          refine lok_dlg E0 13 a_5 (⟨48, mkS [(0, .x (.one (.p (.sl 4 (List.map enc_api_AccessRule rules))))), (8, .x (.one (.ptr 108 0))), (11, .x (.one (.vw 111))), (24, .x (.one (.p (.sl 1 (List.map encI y3))))), (25, .x (.one (.p (pi (y3.length : Int))))), (26, .x (.one (.p (pi v))))], mkH [(108, .var [.p (pi (0 : Int)), .p (pi (0 : Int))]), (111, .arr 2 (List.map enc_api_Access granted3))]⟩) (by kernel_rfl) (by kernel_rfl) ?_
          try simp only [thenL, blockL, ↓reduceIte, reduceCtorEq]
          refine lok_rl E0 (⟨48, mkS [(0, .x (.one (.p (.sl 4 (List.map enc_api_AccessRule rules))))), (8, .x (.one (.ptr 108 0))), (11, .x (.one (.vw 111))), (24, .x (.one (.p (.sl 1 (List.map encI y3))))), (25, .x (.one (.p (pi (y3.length : Int))))), (26, .x (.one (.p (pi (IntKind.i64.wrap (v + (1 : Int)))))))], mkH [(108, .var [.p (pi (0 : Int)), .p (pi (0 : Int))]), (111, .arr 2 (List.map enc_api_Access granted3))]⟩) ?_
          try simp only [thenL, blockL, ↓reduceIte, reduceCtorEq]
          exact ⟨((IntKind.i64.wrap (v + (1 : Int))), granted3), (Option.some.inj H1).symm, imp_au⟩
        · intro b_9
          replace H1 := cneg H1 b_9
          refine lok_exit ?_
          try simp only [thenL, blockL, ↓reduceIte, reduceCtorEq]
          have e_1 := k_1 _ (Option.some.inj H1).symm
          subst e_1
          try dsimp only at H0
          try simp only [thenL, blockL, ↓reduceIte, reduceCtorEq]
          exact ⟨granted1, H0, imp_au⟩
theorem ok_access_Minutes (base : Int) (a : api_Access) (r_ : Int × Int) (H0 : access_Minutes base a = some r_) : CallOK Try.prog 25 [.one (.p (pi base)), .agg [.p (pi a.Extra), .p (pi a.Needs)]] [] [.one (.p (pi r_.1)), .one (.p (pi r_.2))] [] := by
  refine callOK (n := 36) (rs := [.tmp 4, .tmp 5]) (nb := 0) (V := []) Try.func25 rfl (by kernel_rfl) rfl rfl rfl rfl (Nat.le_of_ble_eq_true rfl) rfl (by decide) ?_
  unfold access_Minutes at H0
  refine lok_rt E0 (⟨36, mkS [(0, .x (.one (.p (pi base)))), (3, .x (.one (.ptr 103 0)))], mkH [(103, .var [.p (pi a.Extra), .p (pi a.Needs)])]⟩) ?_
  refine lok_seq ?_
  replace H0 := bind_some H0
  obtain ⟨y, h_0, H0⟩ := H0
  refine lok_rt (Env.of E0 [⟨some 8, 39, [.agg [.p (pi a.Extra), .p (pi a.Needs)]], [], [.one (.p (.val (.bool y)))], [], True, fun _ => ok_access_valid a y h_0⟩]) (⟨36, mkS [(0, .x (.one (.p (pi base)))), (3, .x (.one (.ptr 103 0))), (9, .x (.one (.p (.val (.bool (!y))))))], mkH [(103, .var [.p (pi a.Extra), .p (pi a.Needs)])]⟩) ?_
  refine lok_c (!y) ?_ ?_
  · intro b_5
    replace H0 := cpos H0 b_5
    refine lok_rt E0 (⟨36, mkS [(4, .x (.one (.p (pi (0 : Int))))), (5, .x (.one (.p (pi (1 : Int)))))], mkH []⟩) ?_
    refine lok_ret ?_
    obtain rfl := Option.some.inj H0
    try simp only [thenL, blockL]
    exact fin_au _ (.inr rfl) [] (⟨36, mkS [(4, .x (.one (.p (pi (0 : Int))))), (5, .x (.one (.p (pi (1 : Int)))))], mkH []⟩) rfl rfl imp_au
  · intro b_5
    replace H0 := cneg H0 b_5
    refine lok_skip ?_
    try simp only [thenL, blockL, ↓reduceIte, reduceCtorEq]
    refine lok_seq ?_
    refine lok_rt E0 (⟨36, mkS [(0, .x (.one (.p (pi base)))), (3, .x (.one (.ptr 103 0))), (15, .x (.one (.p (.val (.bool ((decide (base < (1 : Int))) || (decide ((600 : Int) < base))))))))], mkH [(103, .var [.p (pi a.Extra), .p (pi a.Needs)])]⟩) ?_
    refine lok_c ((decide (base < (1 : Int))) || (decide ((600 : Int) < base))) ?_ ?_
    · intro b_4
      replace H0 := cpos H0 b_4
      refine lok_rt E0 (⟨36, mkS [(4, .x (.one (.p (pi (0 : Int))))), (5, .x (.one (.p (pi (2 : Int)))))], mkH []⟩) ?_
      refine lok_ret ?_
      obtain rfl := Option.some.inj H0
      try simp only [thenL, blockL]
      exact fin_au _ (.inr rfl) [] (⟨36, mkS [(4, .x (.one (.p (pi (0 : Int))))), (5, .x (.one (.p (pi (2 : Int)))))], mkH []⟩) rfl rfl imp_au
    · intro b_4
      replace H0 := cneg H0 b_4
      refine lok_skip ?_
      try simp only [thenL, blockL, ↓reduceIte, reduceCtorEq]
      replace H0 := bindV_some H0
      obtain ⟨minutes, a_1, H0⟩ := H0
      refine lok_rtg E0 a_1 (⟨36, mkS [(0, .x (.one (.p (pi base)))), (3, .x (.one (.ptr 103 0))), (6, .x (.one (.p (pi minutes))))], mkH [(103, .var [.p (pi a.Extra), .p (pi a.Needs)])]⟩) ?_
      refine lok_join (fun x_ : Int => access_Minutes_j1 x_ = some r_) (fun x_ => ⟨36, mkS [(6, .x (.one (.p (pi x_))))], mkH []⟩) ?hyaccess_Minutes_j1 ?hxaccess_Minutes_j1
      case hyaccess_Minutes_j1 =>
        rintro minutes1 H0
        try dsimp only at H0 ⊢
        unfold access_Minutes_j1 at H0
        refine lok_rt E0 (⟨36, mkS [(4, .x (.one (.p (pi minutes1)))), (5, .x (.one (.p (pi (0 : Int)))))], mkH []⟩) ?_
        refine lok_ret ?_
        obtain rfl := Option.some.inj H0
        try simp only [thenL, blockL]
        exact fin_au _ (.inr rfl) [] (⟨36, mkS [(4, .x (.one (.p (pi minutes1)))), (5, .x (.one (.p (pi (0 : Int)))))], mkH []⟩) rfl rfl imp_au
      case hxaccess_Minutes_j1 =>
        refine lok_rt E0 (⟨36, mkS [(0, .x (.one (.p (pi base)))), (6, .x (.one (.p (pi minutes)))), (27, .x (.one (.p (.val (.bool ((bAnd .i64 a.Needs (32 : Int)) != (0 : Int)))))))], mkH []⟩) ?_
        refine lok_c ((bAnd .i64 a.Needs (32 : Int)) != (0 : Int)) ?_ ?_
        · intro b_3
          replace H0 := cpos H0 b_3
          replace H0 := bindV_some H0
          obtain ⟨minutes2, a_2, H0⟩ := H0
          refine lok_rlg E0 a_2 (⟨36, mkS [(6, .x (.one (.p (pi minutes2))))], mkH []⟩) ?_
          try simp only [thenL, blockL, ↓reduceIte, reduceCtorEq]
          exact ⟨minutes2, H0, imp_au⟩
        · intro b_3
          replace H0 := cneg H0 b_3
          refine lok_skip ?_
          try simp only [thenL, blockL, ↓reduceIte, reduceCtorEq]
          exact ⟨minutes, H0, imp_au⟩
theorem ok_law14_awake  (r_ : Bool) (H0 : law14_awake = some r_) : CallOK Try.prog 16 [] [] [.one (.p (.val (.bool r_)))] [] := by
  refine callOK (n := 37) (rs := [.tmp 0]) (nb := 0) (V := []) Try.func16 rfl (by kernel_rfl) rfl rfl rfl rfl (Nat.le_of_ble_eq_true rfl) rfl (by decide) ?_
  unfold law14_awake at H0
  refine lok_rt E0 (⟨37, mkS [], mkH []⟩) ?_
  refine lok_rt E0 (⟨37, mkS [(1, .x (.one (.fl 4 (List.map enc_api_AccessRule ([(api_AccessRule.mk (1 : Int) (5 : Int) (25 : Int) (0 : Int)), (api_AccessRule.mk (2 : Int) (3 : Int) (0 : Int) (16 : Int))])))))], mkH []⟩) ?_
  replace H0 := bind_some H0
  obtain ⟨⟨y, y1⟩, h_0, H0⟩ := H0
  try dsimp only at H0
  refine lok_rt (Env.of E0 [⟨some 14, 19, [.one (.p (.sl 4 (List.map enc_api_AccessRule ([(api_AccessRule.mk (1 : Int) (5 : Int) (25 : Int) (0 : Int)), (api_AccessRule.mk (2 : Int) (3 : Int) (0 : Int) (16 : Int))])))), .one (.p (.sl 5 (List.map enc_api_Evidence ([(api_Evidence.mk (1 : Int) (1 : Int) (6 : Int) (0 : Int) (9 : Int)), (api_Evidence.mk (1 : Int) (2 : Int) (3 : Int) (0 : Int) (9 : Int))])))), .one (.p (pi (1 : Int))), .one (.p (pi (5 : Int)))], [], [.agg [.p (pi y.Extra), .p (pi y.Needs)], .one (.p (pi y1))], [], True, fun _ => ok_access_Grant ([(api_AccessRule.mk (1 : Int) (5 : Int) (25 : Int) (0 : Int)), (api_AccessRule.mk (2 : Int) (3 : Int) (0 : Int) (16 : Int))]) ([(api_Evidence.mk (1 : Int) (1 : Int) (6 : Int) (0 : Int) (9 : Int)), (api_Evidence.mk (1 : Int) (2 : Int) (3 : Int) (0 : Int) (9 : Int))]) (1 : Int) (5 : Int) (y, y1) h_0⟩]) (⟨37, mkS [(2, .x (.one (.ptr 102 0))), (3, .x (.one (.p (pi y1))))], mkH [(102, .var [.p (pi y.Extra), .p (pi y.Needs)])]⟩) ?_
  replace H0 := bind_some H0
  obtain ⟨⟨y2, y3⟩, h_1, H0⟩ := H0
  try dsimp only at H0
  refine lok_rt (Env.of E0 [⟨some 19, 25, [.one (.p (pi (90 : Int))), .agg [.p (pi (25 : Int)), .p (pi (32 : Int))]], [], [.one (.p (pi y2)), .one (.p (pi y3))], [], True, fun _ => ok_access_Minutes (90 : Int) (api_Access.mk (25 : Int) (32 : Int)) (y2, y3) h_1⟩]) (⟨37, mkS [(2, .x (.one (.ptr 102 0))), (3, .x (.one (.p (pi y1)))), (4, .x (.one (.p (pi y2)))), (5, .x (.one (.p (pi y3))))], mkH [(102, .var [.p (pi y.Extra), .p (pi y.Needs)])]⟩) ?_
  refine lok_rt E0 (⟨37, mkS [(0, .x (.one (.p (.val (.bool ((((y1 == (0 : Int)) && ((y.Extra == (25 : Int)) && (y.Needs == (17 : Int)))) && (y3 == (0 : Int))) && (y2 == (128 : Int))))))))], mkH []⟩) ?_
  refine lok_ret ?_
  obtain rfl := Option.some.inj H0
  try simp only [thenL, blockL]
  exact fin_au _ (.inr rfl) [] (⟨37, mkS [(0, .x (.one (.p (.val (.bool ((((y1 == (0 : Int)) && ((y.Extra == (25 : Int)) && (y.Needs == (17 : Int)))) && (y3 == (0 : Int))) && (y2 == (128 : Int))))))))], mkH []⟩) rfl rfl imp_au
theorem ok_law14_AccessChecks (t : List Int) (kind : Int) (least : Int) (extra : Int) (needs : Int) (r_ : Bool) (H0 : law14_AccessChecks t kind least extra needs = some r_) : CallOK Try.prog 3 [.one (.p (.sl 1 (List.map encI t))), .one (.p (pi kind)), .one (.p (pi least)), .one (.p (pi extra)), .one (.p (pi needs))] [] [.one (.p (.val (.bool r_)))] [] := by
  refine callOK (n := 44) (rs := [.tmp 10]) (nb := 0) (V := []) Try.func3 rfl (by kernel_rfl) rfl rfl rfl rfl (Nat.le_of_ble_eq_true rfl) rfl (by decide) ?_
  unfold law14_AccessChecks at H0
  refine lok_rt E0 (⟨44, mkS [(0, .x (.one (.p (.sl 1 (List.map encI t))))), (1, .x (.one (.p (pi kind)))), (2, .x (.one (.p (pi least)))), (3, .x (.one (.p (pi extra)))), (4, .x (.one (.p (pi needs))))], mkH []⟩) ?_
  replace H0 := bind_some H0
  obtain ⟨y, h_0, H0⟩ := H0
  replace H0 := bind_some H0
  obtain ⟨⟨y1, y2⟩, h_1, H0⟩ := H0
  try dsimp only at H0
  refine lok_rt (Env.of E0 [⟨some 14, 12, [.one (.p (.sl 1 (List.map encI t)))], [], [.one (.ptr 0 0)], [some (.var [.p (.sl 1 (List.map encI y.L)), .p (pi y.At)])], True, fun _ => ok_make_New t y h_0⟩,
      ⟨some 15, 13, [.one (.ptr 0 0), .one (.p (pi (3 : Int)))], [.var [.p (.sl 1 (List.map encI y.L)), .p (pi y.At)]], [.one (.p (.sl 4 (List.map enc_api_AccessRule y1)))], [some (.var [.p (.sl 1 (List.map encI y2.L)), .p (pi y2.At)])], True, fun _ => ok_make_Tape_Rules y (3 : Int) (y1, y2) h_1⟩]) (⟨44, mkS [(1, .x (.one (.p (pi kind)))), (2, .x (.one (.p (pi least)))), (3, .x (.one (.p (pi extra)))), (4, .x (.one (.p (pi needs)))), (11, .x (.one (.p (.sl 4 (List.map enc_api_AccessRule y1)))))], mkH []⟩) ?_
  replace H0 := req_some H0
  obtain ⟨⟨q_7, q_8⟩, H0⟩ := H0
  refine lok_rt E0 (⟨44, mkS [(11, .x (.one (.p (.sl 4 (List.map enc_api_AccessRule y1))))), (12, .x (.one (.p (.sl 4 (List.map enc_api_AccessRule (y1 ++ [(api_AccessRule.mk kind least extra needs)]))))))], mkH []⟩) ?_
  replace H0 := bind_some H0
  obtain ⟨y3, h_2, H0⟩ := H0
  replace H0 := bind_some H0
  obtain ⟨y4, h_3, H0⟩ := H0
  replace H0 := req_some H0
  obtain ⟨⟨q_4, q_5, q_6⟩, H0⟩ := H0
  refine lok_rt (Env.of E0 [⟨some 30, 14, [.one (.p (.sl 4 (List.map enc_api_AccessRule y1)))], [], [.one (.p (pi y3))], [], True, fun _ => ok_access_Check y1 y3 h_2⟩,
      ⟨some 32, 15, [.one (.p (.sl 4 (List.map enc_api_AccessRule y1)))], [], [.one (.p (pi y4))], [], True, fun _ => ok_ref14_Check y1 y4 h_3⟩,
      ⟨some 36, 14, [.one (.p (.sl 4 (List.map enc_api_AccessRule (y1 ++ [(api_AccessRule.mk kind least extra needs)]))))], [], [.one (.p (pi ((access_Check (y1 ++ [(api_AccessRule.mk kind least extra needs)])).getD default)))], [], (access_Check (y1 ++ [(api_AccessRule.mk kind least extra needs)])).isSome = true, fun h => ok_access_Check (y1 ++ [(api_AccessRule.mk kind least extra needs)]) _ (isSome_get h)⟩,
      ⟨some 38, 15, [.one (.p (.sl 4 (List.map enc_api_AccessRule (y1 ++ [(api_AccessRule.mk kind least extra needs)]))))], [], [.one (.p (pi ((ref14_Check (y1 ++ [(api_AccessRule.mk kind least extra needs)])).getD default)))], [], (ref14_Check (y1 ++ [(api_AccessRule.mk kind least extra needs)])).isSome = true, fun h => ok_ref14_Check (y1 ++ [(api_AccessRule.mk kind least extra needs)]) _ (isSome_get h)⟩,
      ⟨some 42, 16, [], [], [.one (.p (.val (.bool ((law14_awake).getD default))))], [], (law14_awake).isSome = true, fun h => ok_law14_awake _ (isSome_get h)⟩]) (⟨44, mkS [(10, .x (.one (.p (.val (.bool (((y3 == y4) && (((access_Check (y1 ++ [(api_AccessRule.mk kind least extra needs)])).getD default) == ((ref14_Check (y1 ++ [(api_AccessRule.mk kind least extra needs)])).getD default))) && ((law14_awake).getD default)))))))], mkH []⟩) ?_
  refine lok_ret ?_
  obtain rfl := Option.some.inj H0
  try simp only [thenL, blockL]
  exact fin_au _ (.inr rfl) [] (⟨44, mkS [(10, .x (.one (.p (.val (.bool (((y3 == y4) && (((access_Check (y1 ++ [(api_AccessRule.mk kind least extra needs)])).getD default) == ((ref14_Check (y1 ++ [(api_AccessRule.mk kind least extra needs)])).getD default))) && ((law14_awake).getD default)))))))], mkH []⟩) rfl rfl imp_au
theorem ok_law14_AccessMany (n : Int) (r_ : Bool) (H0 : law14_AccessMany n = some r_) : CallOK Try.prog 4 [.one (.p (pi n))] [] [.one (.p (.val (.bool r_)))] [] := by
  refine callOK (n := 27) (rs := [.tmp 2]) (nb := 0) (V := []) Try.func4 rfl (by kernel_rfl) rfl rfl rfl rfl (Nat.le_of_ble_eq_true rfl) rfl (by decide) ?_
  unfold law14_AccessMany at H0
  refine lok_rt E0 (⟨27, mkS [(0, .x (.one (.p (pi n))))], mkH []⟩) ?_
  refine lok_rt E0 (⟨27, mkS [(0, .x (.one (.p (pi n)))), (3, .x (.one (.vw 103)))], mkH [(103, .arr 4 (List.map enc_api_AccessRule ([] : List api_AccessRule)))]⟩) ?_
  refine lok_join (fun x_ : (List api_AccessRule) => law14_AccessMany_j2 x_ = some r_) (fun x_ => ⟨27, mkS [(3, .x (.one (.vw 103)))], mkH [(103, .arr 4 (List.map enc_api_AccessRule x_))]⟩) ?hylaw14_AccessMany_j2 ?hxlaw14_AccessMany_j2
  case hylaw14_AccessMany_j2 =>
    rintro rules H0
    try dsimp only at H0 ⊢
    unfold law14_AccessMany_j2 at H0
    refine lok_rt E0 (⟨27, mkS [(3, .x (.one (.vw 103))), (5, .x (.one (.p (pi (0 : Int)))))], mkH [(103, .arr 4 (List.map enc_api_AccessRule rules))]⟩) ?_
    refine lok_join (fun x_ : Int => law14_AccessMany_j1 rules x_ = some r_) (fun x_ => ⟨27, mkS [(3, .x (.one (.vw 103))), (5, .x (.one (.p (pi x_))))], mkH [(103, .arr 4 (List.map enc_api_AccessRule rules))]⟩) ?hylaw14_AccessMany_j1 ?hxlaw14_AccessMany_j1
    case hylaw14_AccessMany_j1 =>
      rintro want H0
      try dsimp only at H0 ⊢
      unfold law14_AccessMany_j1 at H0
      replace H0 := bind_some H0
      obtain ⟨y, h_0, H0⟩ := H0
      replace H0 := req_some H0
      obtain ⟨q_1, H0⟩ := H0
      refine lok_rt (Env.of E0 [⟨some 21, 14, [.one (.p (.sl 4 (List.map enc_api_AccessRule rules)))], [], [.one (.p (pi y))], [], True, fun _ => ok_access_Check rules y h_0⟩,
      ⟨some 25, 16, [], [], [.one (.p (.val (.bool ((law14_awake).getD default))))], [], (law14_awake).isSome = true, fun h => ok_law14_awake _ (isSome_get h)⟩]) (⟨27, mkS [(2, .x (.one (.p (.val (.bool ((y == want) && ((law14_awake).getD default)))))))], mkH []⟩) ?_
      refine lok_ret ?_
      obtain rfl := Option.some.inj H0
      try simp only [thenL, blockL]
      exact fin_au _ (.inr rfl) [] (⟨27, mkS [(2, .x (.one (.p (.val (.bool ((y == want) && ((law14_awake).getD default)))))))], mkH []⟩) rfl rfl imp_au
    case hxlaw14_AccessMany_j1 =>
      refine lok_rt E0 (⟨27, mkS [(3, .x (.one (.vw 103))), (5, .x (.one (.p (pi (0 : Int))))), (19, .x (.one (.p (.val (.bool (decide ((12 : Int) < (rules.length : Int))))))))], mkH [(103, .arr 4 (List.map enc_api_AccessRule rules))]⟩) ?_
      refine lok_c (decide ((12 : Int) < (rules.length : Int))) ?_ ?_
      · intro b_2
        replace H0 := cpos H0 b_2
        refine lok_rl E0 (⟨27, mkS [(3, .x (.one (.vw 103))), (5, .x (.one (.p (pi (3 : Int)))))], mkH [(103, .arr 4 (List.map enc_api_AccessRule rules))]⟩) ?_
        try simp only [thenL, blockL, ↓reduceIte, reduceCtorEq]
        exact ⟨(3 : Int), H0, imp_au⟩
      · intro b_2
        replace H0 := cneg H0 b_2
        refine lok_skip ?_
        try simp only [thenL, blockL, ↓reduceIte, reduceCtorEq]
        exact ⟨(0 : Int), H0, imp_au⟩
  case hxlaw14_AccessMany_j2 =>
    replace H0 := bind_some H0
    obtain ⟨y1, h_3, H0⟩ := H0
    refine lok_rt (Env.of E0 [⟨some 7, 17, [.one (.p (pi n)), .one (.p (pi (5 : Int)))], [], [.one (.p (pi y1))], [], True, fun _ => ok_make_Cut n (5 : Int) y1 h_3⟩]) (⟨27, mkS [(3, .x (.one (.vw 103))), (4, .x (.one (.p (pi (IntKind.i64.wrap ((10 : Int) + y1))))))], mkH [(103, .arr 4 (List.map enc_api_AccessRule ([] : List api_AccessRule)))]⟩) ?_
    refine lok_block ?_
    replace H0 := bind_some H0
    obtain ⟨v_4, hv_4, H0⟩ := H0
    refine lok_iter (fun x_ => ⟨27, mkS [(3, .x (.one (.vw 103))), (4, .x (.one (.p (pi x_.1))))], mkH [(103, .arr 4 (List.map enc_api_AccessRule x_.2))]⟩) hv_4 imp_au ?_
    · rintro ⟨i, rules1⟩ o_1 H1 k_1
      unfold law14_AccessMany_l3 at H1
      try dsimp only at H1 ⊢
      refine lok_seq ?_
      refine lok_rt E0 (⟨27, mkS [(3, .x (.one (.vw 103))), (4, .x (.one (.p (pi i)))), (10, .x (.one (.p (.val (.bool (decide ((0 : Int) < i)))))))], mkH [(103, .arr 4 (List.map enc_api_AccessRule rules1))]⟩) ?_
      refine lok_c (decide ((0 : Int) < i)) ?_ ?_
      · intro b_7
        replace H1 := cpos H1 b_7
        refine lok_skip ?_
        try simp only [thenL, blockL, ↓reduceIte, reduceCtorEq]
        refine lok_seq ?_
        refine lok_block ?_
        replace H1 := req_some H1
        obtain ⟨q_6, H1⟩ := H1
        replace H1 := bindV_some H1
        obtain ⟨rules3, a_5, H1⟩ := H1
        refine lok_rlg E0 a_5 (⟨27, mkS [(3, .x (.one (.vw 103))), (4, .x (.one (.p (pi i))))], mkH [(103, .arr 4 (List.map enc_api_AccessRule rules3))]⟩) ?_
        try simp only [thenL, blockL, ↓reduceIte, reduceCtorEq]
        refine lok_rl E0 (⟨27, mkS [(3, .x (.one (.vw 103))), (4, .x (.one (.p (pi (IntKind.i64.wrap (i - (1 : Int)))))))], mkH [(103, .arr 4 (List.map enc_api_AccessRule rules3))]⟩) ?_
        try simp only [thenL, blockL, ↓reduceIte, reduceCtorEq]
        exact ⟨((IntKind.i64.wrap (i - (1 : Int))), rules3), (Option.some.inj H1).symm, imp_au⟩
      · intro b_7
        replace H1 := cneg H1 b_7
        refine lok_exit ?_
        try simp only [thenL, blockL, ↓reduceIte, reduceCtorEq]
        have e_1 := k_1 _ (Option.some.inj H1).symm
        subst e_1
        try dsimp only at H0
        try simp only [thenL, blockL, ↓reduceIte, reduceCtorEq]
        exact ⟨rules1, H0, imp_au⟩
theorem ok_make_Tape_Wild (t : make_Tape) (r_ : Int × make_Tape) (H0 : make_Tape_Wild t = some r_) : CallOK Try.prog 47 [.one (.ptr 0 0)] [.var [.p (.sl 1 (List.map encI t.L)), .p (pi t.At)]] [.one (.p (pi r_.1))] [some (.var [.p (.sl 1 (List.map encI r_.2.L)), .p (pi r_.2.At)])] := by
  refine callOK (n := 6) (rs := [.tmp 2]) (nb := 1) (V := [0]) Try.func47 rfl (by kernel_rfl) rfl rfl rfl rfl (Nat.le_of_ble_eq_true rfl) rfl (by decide) ?_
  unfold make_Tape_Wild at H0
  refine lok_rt E0 (⟨6, mkS [(0, .x (.one (.ptr 0 0)))], mkH [(0, .var [.p (.sl 1 (List.map encI t.L)), .p (pi t.At)])]⟩) ?_
  replace H0 := bind_some H0
  obtain ⟨⟨y, y1⟩, h_0, H0⟩ := H0
  try dsimp only at H0
  refine lok_rt (Env.of E0 [⟨some 5, 36, [.one (.ptr 0 0), .one (.p (.sl 1 (List.map encI ([(-1 : Int), (0 : Int), (1 : Int), (2 : Int), (31 : Int), (32 : Int), (99 : Int), (100 : Int), (200 : Int), (201 : Int), (9999 : Int), (10000 : Int), (1000000 : Int), (1000001 : Int), (1152921504606846976 : Int), (1152921504606846977 : Int), (-1152921504606846976 : Int), (9223372036854775807 : Int), (-9223372036854775808 : Int)]))))], [.var [.p (.sl 1 (List.map encI t.L)), .p (pi t.At)]], [.one (.p (pi y))], [some (.var [.p (.sl 1 (List.map encI y1.L)), .p (pi y1.At)])], True, fun _ => ok_make_Tape_Pick t ([(-1 : Int), (0 : Int), (1 : Int), (2 : Int), (31 : Int), (32 : Int), (99 : Int), (100 : Int), (200 : Int), (201 : Int), (9999 : Int), (10000 : Int), (1000000 : Int), (1000001 : Int), (1152921504606846976 : Int), (1152921504606846977 : Int), (-1152921504606846976 : Int), (9223372036854775807 : Int), (-9223372036854775808 : Int)]) (y, y1) h_0⟩]) (⟨6, mkS [(2, .x (.one (.p (pi y))))], mkH [(0, .var [.p (.sl 1 (List.map encI y1.L)), .p (pi y1.At)])]⟩) ?_
  refine lok_ret ?_
  obtain rfl := Option.some.inj H0
  try simp only [thenL, blockL]
  exact fin_au _ (.inr rfl) [0] (⟨6, mkS [(2, .x (.one (.p (pi y))))], mkH [(0, .var [.p (.sl 1 (List.map encI y1.L)), .p (pi y1.At)])]⟩) rfl rfl imp_au
theorem ok_make_Tape_Spoil (t : make_Tape) (x : Int) (n : Int) (r_ : Int × make_Tape) (H0 : make_Tape_Spoil t x n = some r_) : CallOK Try.prog 42 [.one (.ptr 0 0), .one (.p (pi x)), .one (.p (pi n))] [.var [.p (.sl 1 (List.map encI t.L)), .p (pi t.At)]] [.one (.p (pi r_.1))] [some (.var [.p (.sl 1 (List.map encI r_.2.L)), .p (pi r_.2.At)])] := by
  refine callOK (n := 17) (rs := [.tmp 6]) (nb := 1) (V := [0]) Try.func42 rfl (by kernel_rfl) rfl rfl rfl rfl (Nat.le_of_ble_eq_true rfl) rfl (by decide) ?_
  unfold make_Tape_Spoil at H0
  refine lok_rt E0 (⟨17, mkS [(0, .x (.one (.ptr 0 0))), (1, .x (.one (.p (pi x)))), (2, .x (.one (.p (pi n))))], mkH [(0, .var [.p (.sl 1 (List.map encI t.L)), .p (pi t.At)])]⟩) ?_
  refine lok_seq ?_
  rcases bcases (decide ((0 : Int) < n)) with g_0 | g_0
  · replace H0 := cpos H0 g_0
    replace H0 := bind_some H0
    obtain ⟨⟨y, y1⟩, h_1, H0⟩ := H0
    try dsimp only at H0
    refine lok_rtg (Env.of E0 [⟨some 12, 37, [.one (.ptr 0 0), .one (.p (pi n))], [.var [.p (.sl 1 (List.map encI t.L)), .p (pi t.At)]], [.one (.p (.val (.bool y)))], [some (.var [.p (.sl 1 (List.map encI y1.L)), .p (pi y1.At)])], True, fun _ => ok_make_Tape_One t n (y, y1) h_1⟩]) g_0 (⟨17, mkS [(0, .x (.one (.ptr 0 0))), (1, .x (.one (.p (pi x)))), (13, .x (.one (.p (.val (.bool y)))))], mkH [(0, .var [.p (.sl 1 (List.map encI y1.L)), .p (pi y1.At)])]⟩) ?_
    refine lok_c y ?_ ?_
    · intro b_3
      replace H0 := cpos H0 b_3
      replace H0 := bind_some H0
      obtain ⟨⟨y2, y3⟩, h_2, H0⟩ := H0
      try dsimp only at H0
      refine lok_rt (Env.of E0 [⟨some 15, 47, [.one (.ptr 0 0)], [.var [.p (.sl 1 (List.map encI y1.L)), .p (pi y1.At)]], [.one (.p (pi y2))], [some (.var [.p (.sl 1 (List.map encI y3.L)), .p (pi y3.At)])], True, fun _ => ok_make_Tape_Wild y1 (y2, y3) h_2⟩]) (⟨17, mkS [(6, .x (.one (.p (pi y2))))], mkH [(0, .var [.p (.sl 1 (List.map encI y3.L)), .p (pi y3.At)])]⟩) ?_
      refine lok_ret ?_
      obtain rfl := Option.some.inj H0
      try simp only [thenL, blockL]
      exact fin_au _ (.inr rfl) [0] (⟨17, mkS [(6, .x (.one (.p (pi y2))))], mkH [(0, .var [.p (.sl 1 (List.map encI y3.L)), .p (pi y3.At)])]⟩) rfl rfl imp_au
    · intro b_3
      replace H0 := cneg H0 b_3
      refine lok_skip ?_
      try simp only [thenL, blockL, ↓reduceIte, reduceCtorEq]
      refine lok_rt E0 (⟨17, mkS [(6, .x (.one (.p (pi x))))], mkH [(0, .var [.p (.sl 1 (List.map encI y1.L)), .p (pi y1.At)])]⟩) ?_
      refine lok_ret ?_
      obtain rfl := Option.some.inj H0
      try simp only [thenL, blockL]
      exact fin_au _ (.inr rfl) [0] (⟨17, mkS [(6, .x (.one (.p (pi x))))], mkH [(0, .var [.p (.sl 1 (List.map encI y1.L)), .p (pi y1.At)])]⟩) rfl rfl imp_au
  · replace H0 := cneg H0 g_0
    refine lok_rtg E0 g_0 (⟨17, mkS [(0, .x (.one (.ptr 0 0))), (1, .x (.one (.p (pi x)))), (13, .x (.one (.p (.val (.bool false)))))], mkH [(0, .var [.p (.sl 1 (List.map encI t.L)), .p (pi t.At)])]⟩) ?_
    refine lok_c false ?_ ?_
    · intro h; exact absurd h (by decide)
    · intro _
      refine lok_skip ?_
      try simp only [thenL, blockL, ↓reduceIte, reduceCtorEq]
      refine lok_rt E0 (⟨17, mkS [(6, .x (.one (.p (pi x))))], mkH [(0, .var [.p (.sl 1 (List.map encI t.L)), .p (pi t.At)])]⟩) ?_
      refine lok_ret ?_
      obtain rfl := Option.some.inj H0
      try simp only [thenL, blockL]
      exact fin_au _ (.inr rfl) [0] (⟨17, mkS [(6, .x (.one (.p (pi x))))], mkH [(0, .var [.p (.sl 1 (List.map encI t.L)), .p (pi t.At)])]⟩) rfl rfl imp_au
theorem ok_make_Tape_Evidence (t : make_Tape) (r_ : (List api_Evidence) × make_Tape) (H0 : make_Tape_Evidence t = some r_) : CallOK Try.prog 18 [.one (.ptr 0 0)] [.var [.p (.sl 1 (List.map encI t.L)), .p (pi t.At)]] [.one (.p (.sl 5 (List.map enc_api_Evidence r_.1)))] [some (.var [.p (.sl 1 (List.map encI r_.2.L)), .p (pi r_.2.At)])] := by
  refine callOK (n := 34) (rs := [.tmp 2]) (nb := 1) (V := [0]) Try.func18 rfl (by kernel_rfl) rfl rfl rfl rfl (Nat.le_of_ble_eq_true rfl) rfl (by decide) ?_
  unfold make_Tape_Evidence at H0
  refine lok_rt E0 (⟨34, mkS [(0, .x (.one (.ptr 0 0)))], mkH [(0, .var [.p (.sl 1 (List.map encI t.L)), .p (pi t.At)])]⟩) ?_
  refine lok_rt E0 (⟨34, mkS [(0, .x (.one (.ptr 0 0))), (3, .x (.one (.vw 103)))], mkH [(0, .var [.p (.sl 1 (List.map encI t.L)), .p (pi t.At)]), (103, .arr 5 (List.map enc_api_Evidence ([] : List api_Evidence)))]⟩) ?_
  refine lok_join (fun x_ : (List Int) × Int × (List api_Evidence) => make_Tape_Evidence_j1 x_.1 x_.2.1 x_.2.2 = some r_) (fun x_ => ⟨34, mkS [(3, .x (.one (.vw 103)))], mkH [(0, .var [.p (.sl 1 (List.map encI x_.1)), .p (pi x_.2.1)]), (103, .arr 5 (List.map enc_api_Evidence x_.2.2))]⟩) ?hymake_Tape_Evidence_j1 ?hxmake_Tape_Evidence_j1
  case hymake_Tape_Evidence_j1 =>
    rintro ⟨t1, t2, out⟩ H0
    try dsimp only at H0 ⊢
    unfold make_Tape_Evidence_j1 at H0
    refine lok_rt E0 (⟨34, mkS [(2, .x (.one (.vw 103)))], mkH [(0, .var [.p (.sl 1 (List.map encI t1)), .p (pi t2)]), (103, .arr 5 (List.map enc_api_Evidence out))]⟩) ?_
    refine lok_ret ?_
    obtain rfl := Option.some.inj H0
    try simp only [thenL, blockL]
    exact fin_au _ (.inr rfl) [0] (⟨34, mkS [(2, .x (.one (.p (.sl 5 (List.map enc_api_Evidence out)))))], mkH [(0, .var [.p (.sl 1 (List.map encI t1)), .p (pi t2)])]⟩) rfl rfl (Imp.trans (imp_frz 103 5 (List.map enc_api_Evidence out)) imp_au)
  case hxmake_Tape_Evidence_j1 =>
    replace H0 := bind_some H0
    obtain ⟨⟨y, y1⟩, h_0, H0⟩ := H0
    try dsimp only at H0
    refine lok_rt (Env.of E0 [⟨some 7, 35, [.one (.ptr 0 0), .one (.p (pi (7 : Int)))], [.var [.p (.sl 1 (List.map encI t.L)), .p (pi t.At)]], [.one (.p (pi y))], [some (.var [.p (.sl 1 (List.map encI y1.L)), .p (pi y1.At)])], True, fun _ => ok_make_Tape_Next t (7 : Int) (y, y1) h_0⟩]) (⟨34, mkS [(0, .x (.one (.ptr 0 0))), (3, .x (.one (.vw 103))), (4, .x (.one (.p (pi y))))], mkH [(0, .var [.p (.sl 1 (List.map encI y1.L)), .p (pi y1.At)]), (103, .arr 5 (List.map enc_api_Evidence ([] : List api_Evidence)))]⟩) ?_
    refine lok_block ?_
    replace H0 := bind_some H0
    obtain ⟨v_1, hv_1, H0⟩ := H0
    refine lok_iter (fun x_ => ⟨34, mkS [(0, .x (.one (.ptr 0 0))), (3, .x (.one (.vw 103))), (4, .x (.one (.p (pi x_.1))))], mkH [(0, .var [.p (.sl 1 (List.map encI x_.2.1)), .p (pi x_.2.2.1)]), (103, .arr 5 (List.map enc_api_Evidence x_.2.2.2))]⟩) hv_1 imp_au ?_
    · rintro ⟨i, t3, t4, out1⟩ o_1 H1 k_1
      unfold make_Tape_Evidence_l2 at H1
      try dsimp only at H1 ⊢
      refine lok_seq ?_
      refine lok_rt E0 (⟨34, mkS [(0, .x (.one (.ptr 0 0))), (3, .x (.one (.vw 103))), (4, .x (.one (.p (pi i)))), (9, .x (.one (.p (.val (.bool (decide ((0 : Int) < i)))))))], mkH [(0, .var [.p (.sl 1 (List.map encI t3)), .p (pi t4)]), (103, .arr 5 (List.map enc_api_Evidence out1))]⟩) ?_
      refine lok_c (decide ((0 : Int) < i)) ?_ ?_
      · intro b_11
        replace H1 := cpos H1 b_11
        refine lok_skip ?_
        try simp only [thenL, blockL, ↓reduceIte, reduceCtorEq]
        refine lok_seq ?_
        refine lok_block ?_
        replace H1 := bind_some H1
        obtain ⟨⟨y2, y3⟩, h_2, H1⟩ := H1
        try dsimp only at H1
        refine lok_rt (Env.of E0 [⟨some 13, 24, [.one (.ptr 0 0), .one (.p (pi (0 : Int))), .one (.p (pi (20 : Int)))], [.var [.p (.sl 1 (List.map encI t3)), .p (pi t4)]], [.one (.p (pi y2))], [some (.var [.p (.sl 1 (List.map encI y3.L)), .p (pi y3.At)])], True, fun _ => ok_make_Tape_Range (make_Tape.mk t3 t4) (0 : Int) (20 : Int) (y2, y3) h_2⟩]) (⟨34, mkS [(0, .x (.one (.ptr 0 0))), (3, .x (.one (.vw 103))), (4, .x (.one (.p (pi i)))), (5, .x (.one (.p (pi y2))))], mkH [(0, .var [.p (.sl 1 (List.map encI y3.L)), .p (pi y3.At)]), (103, .arr 5 (List.map enc_api_Evidence out1))]⟩) ?_
        replace H1 := bind_some H1
        obtain ⟨⟨y4, y5⟩, h_3, H1⟩ := H1
        try dsimp only at H1
        replace H1 := bind_some H1
        obtain ⟨⟨y6, y7⟩, h_4, H1⟩ := H1
        try dsimp only at H1
        replace H1 := bind_some H1
        obtain ⟨⟨y8, y9⟩, h_5, H1⟩ := H1
        try dsimp only at H1
        replace H1 := bind_some H1
        obtain ⟨⟨y10, y11⟩, h_6, H1⟩ := H1
        try dsimp only at H1
        replace H1 := bind_some H1
        obtain ⟨⟨y12, y13⟩, h_7, H1⟩ := H1
        try dsimp only at H1
        replace H1 := bind_some H1
        obtain ⟨⟨y14, y15⟩, h_8, H1⟩ := H1
        try dsimp only at H1
        replace H1 := req_some H1
        obtain ⟨q_10, H1⟩ := H1
        replace H1 := bindV_some H1
        obtain ⟨out3, a_9, H1⟩ := H1
        refine lok_rlg (Env.of E0 [⟨some 16, 35, [.one (.ptr 0 0), .one (.p (pi (2 : Int)))], [.var [.p (.sl 1 (List.map encI y3.L)), .p (pi y3.At)]], [.one (.p (pi y4))], [some (.var [.p (.sl 1 (List.map encI y5.L)), .p (pi y5.At)])], True, fun _ => ok_make_Tape_Next y3 (2 : Int) (y4, y5) h_3⟩,
      ⟨some 19, 24, [.one (.ptr 0 0), .one (.p (pi (1 : Int))), .one (.p (pi (3 : Int)))], [.var [.p (.sl 1 (List.map encI y5.L)), .p (pi y5.At)]], [.one (.p (pi y6))], [some (.var [.p (.sl 1 (List.map encI y7.L)), .p (pi y7.At)])], True, fun _ => ok_make_Tape_Range y5 (1 : Int) (3 : Int) (y6, y7) h_4⟩,
      ⟨some 20, 42, [.one (.ptr 0 0), .one (.p (pi y6)), .one (.p (pi (10 : Int)))], [.var [.p (.sl 1 (List.map encI y7.L)), .p (pi y7.At)]], [.one (.p (pi y8))], [some (.var [.p (.sl 1 (List.map encI y9.L)), .p (pi y9.At)])], True, fun _ => ok_make_Tape_Spoil y7 y6 (10 : Int) (y8, y9) h_5⟩,
      ⟨some 23, 24, [.one (.ptr 0 0), .one (.p (pi (1 : Int))), .one (.p (pi (9 : Int)))], [.var [.p (.sl 1 (List.map encI y9.L)), .p (pi y9.At)]], [.one (.p (pi y10))], [some (.var [.p (.sl 1 (List.map encI y11.L)), .p (pi y11.At)])], True, fun _ => ok_make_Tape_Range y9 (1 : Int) (9 : Int) (y10, y11) h_6⟩,
      ⟨some 24, 42, [.one (.ptr 0 0), .one (.p (pi y10)), .one (.p (pi (10 : Int)))], [.var [.p (.sl 1 (List.map encI y11.L)), .p (pi y11.At)]], [.one (.p (pi y12))], [some (.var [.p (.sl 1 (List.map encI y13.L)), .p (pi y13.At)])], True, fun _ => ok_make_Tape_Spoil y11 y10 (10 : Int) (y12, y13) h_7⟩,
      ⟨some 28, 24, [.one (.ptr 0 0), .one (.p (pi (-1 : Int))), .one (.p (pi (12 : Int)))], [.var [.p (.sl 1 (List.map encI y13.L)), .p (pi y13.At)]], [.one (.p (pi y14))], [some (.var [.p (.sl 1 (List.map encI y15.L)), .p (pi y15.At)])], True, fun _ => ok_make_Tape_Range y13 (-1 : Int) (12 : Int) (y14, y15) h_8⟩]) a_9 (⟨34, mkS [(0, .x (.one (.ptr 0 0))), (3, .x (.one (.vw 103))), (4, .x (.one (.p (pi i))))], mkH [(0, .var [.p (.sl 1 (List.map encI y15.L)), .p (pi y15.At)]), (103, .arr 5 (List.map enc_api_Evidence out3))]⟩) ?_
        try simp only [thenL, blockL, ↓reduceIte, reduceCtorEq]
        refine lok_rl E0 (⟨34, mkS [(0, .x (.one (.ptr 0 0))), (3, .x (.one (.vw 103))), (4, .x (.one (.p (pi (IntKind.i64.wrap (i - (1 : Int)))))))], mkH [(0, .var [.p (.sl 1 (List.map encI y15.L)), .p (pi y15.At)]), (103, .arr 5 (List.map enc_api_Evidence out3))]⟩) ?_
        try simp only [thenL, blockL, ↓reduceIte, reduceCtorEq]
        exact ⟨((IntKind.i64.wrap (i - (1 : Int))), y15.L, y15.At, out3), (Option.some.inj H1).symm, imp_au⟩
      · intro b_11
        replace H1 := cneg H1 b_11
        refine lok_exit ?_
        try simp only [thenL, blockL, ↓reduceIte, reduceCtorEq]
        have e_1 := k_1 _ (Option.some.inj H1).symm
        subst e_1
        try dsimp only at H0
        try simp only [thenL, blockL, ↓reduceIte, reduceCtorEq]
        exact ⟨(t3, t4, out1), H0, imp_au⟩
theorem ok_ref14_Join (a : api_Access) (b : api_Access) (r_ : api_Access) (H0 : ref14_Join a b = some r_) : CallOK Try.prog 31 [.agg [.p (pi a.Extra), .p (pi a.Needs)], .agg [.p (pi b.Extra), .p (pi b.Needs)]] [] [.agg [.p (pi r_.Extra), .p (pi r_.Needs)]] [] := by
  refine callOK (n := 25) (rs := [.cell 4 38]) (nb := 0) (V := []) Try.func31 rfl (by kernel_rfl) rfl rfl rfl rfl (Nat.le_of_ble_eq_true rfl) rfl (by decide) ?_
  unfold ref14_Join at H0
  refine lok_rt E0 (⟨25, mkS [(2, .x (.one (.ptr 102 0))), (3, .x (.one (.ptr 103 0))), (4, .x (.one (.ptr 104 0)))], mkH [(102, .var [.p (pi a.Extra), .p (pi a.Needs)]), (103, .var [.p (pi b.Extra), .p (pi b.Needs)]), (104, .var [.p (pi (0 : Int)), .p (pi (0 : Int))])]⟩) ?_
  refine lok_seq ?_
  replace H0 := bind_some H0
  obtain ⟨y, h_0, H0⟩ := H0
  replace H0 := req_some H0
  obtain ⟨q_2, H0⟩ := H0
  refine lok_rt (Env.of E0 [⟨some 6, 41, [.agg [.p (pi a.Extra), .p (pi a.Needs)]], [], [.one (.p (.val (.bool y)))], [], True, fun _ => ok_ref14_Valid a y h_0⟩,
      ⟨some 10, 41, [.agg [.p (pi b.Extra), .p (pi b.Needs)]], [], [.one (.p (.val (.bool ((ref14_Valid b).getD default))))], [], (ref14_Valid b).isSome = true, fun h => ok_ref14_Valid b _ (isSome_get h)⟩]) (⟨25, mkS [(2, .x (.one (.ptr 102 0))), (3, .x (.one (.ptr 103 0))), (4, .x (.one (.ptr 104 0))), (12, .x (.one (.p (.val (.bool ((!y) || (!((ref14_Valid b).getD default))))))))], mkH [(102, .var [.p (pi a.Extra), .p (pi a.Needs)]), (103, .var [.p (pi b.Extra), .p (pi b.Needs)]), (104, .var [.p (pi (0 : Int)), .p (pi (0 : Int))])]⟩) ?_
  refine lok_c ((!y) || (!((ref14_Valid b).getD default))) ?_ ?_
  · intro b_1
    replace H0 := cpos H0 b_1
    refine lok_rt E0 (⟨25, mkS [(4, .x (.one (.ptr 104 0)))], mkH [(104, .var [.p (pi (0 : Int)), .p (pi (0 : Int))])]⟩) ?_
    refine lok_ret ?_
    obtain rfl := Option.some.inj H0
    try simp only [thenL, blockL]
    exact fin_au _ (.inr rfl) [] (⟨25, mkS [(4, .x (.one (.ptr 104 0)))], mkH [(104, .var [.p (pi (0 : Int)), .p (pi (0 : Int))])]⟩) rfl rfl imp_au
  · intro b_1
    replace H0 := cneg H0 b_1
    refine lok_skip ?_
    try simp only [thenL, blockL, ↓reduceIte, reduceCtorEq]
    refine lok_rt E0 (⟨25, mkS [(4, .x (.one (.ptr 104 0)))], mkH [(104, .var [.p (pi (imax a.Extra b.Extra)), .p (pi (bOr .i64 a.Needs b.Needs))])]⟩) ?_
    refine lok_ret ?_
    obtain rfl := Option.some.inj H0
    try simp only [thenL, blockL]
    exact fin_au _ (.inr rfl) [] (⟨25, mkS [(4, .x (.one (.ptr 104 0)))], mkH [(104, .var [.p (pi (imax a.Extra b.Extra)), .p (pi (bOr .i64 a.Needs b.Needs))])]⟩) rfl rfl imp_au
theorem ok_ref14_Imply (a : api_Access) (r_ : api_Access) (H0 : ref14_Imply a = some r_) : CallOK Try.prog 33 [.agg [.p (pi a.Extra), .p (pi a.Needs)]] [] [.agg [.p (pi r_.Extra), .p (pi r_.Needs)]] [] := by
  refine callOK (n := 27) (rs := [.cell 2 38]) (nb := 0) (V := []) Try.func33 rfl (by kernel_rfl) rfl rfl rfl rfl (Nat.le_of_ble_eq_true rfl) rfl (by decide) ?_
  unfold ref14_Imply at H0
  refine lok_rt E0 (⟨27, mkS [(1, .x (.one (.ptr 101 0))), (2, .x (.one (.ptr 102 0)))], mkH [(101, .var [.p (pi a.Extra), .p (pi a.Needs)]), (102, .var [.p (pi (0 : Int)), .p (pi (0 : Int))])]⟩) ?_
  refine lok_seq ?_
  replace H0 := bind_some H0
  obtain ⟨y, h_0, H0⟩ := H0
  refine lok_rt (Env.of E0 [⟨some 4, 41, [.agg [.p (pi a.Extra), .p (pi a.Needs)]], [], [.one (.p (.val (.bool y)))], [], True, fun _ => ok_ref14_Valid a y h_0⟩]) (⟨27, mkS [(1, .x (.one (.ptr 101 0))), (2, .x (.one (.ptr 102 0))), (5, .x (.one (.p (.val (.bool (!y))))))], mkH [(101, .var [.p (pi a.Extra), .p (pi a.Needs)]), (102, .var [.p (pi (0 : Int)), .p (pi (0 : Int))])]⟩) ?_
  refine lok_c (!y) ?_ ?_
  · intro b_2
    replace H0 := cpos H0 b_2
    refine lok_rt E0 (⟨27, mkS [(2, .x (.one (.ptr 102 0)))], mkH [(102, .var [.p (pi (0 : Int)), .p (pi (0 : Int))])]⟩) ?_
    refine lok_ret ?_
    obtain rfl := Option.some.inj H0
    try simp only [thenL, blockL]
    exact fin_au _ (.inr rfl) [] (⟨27, mkS [(2, .x (.one (.ptr 102 0)))], mkH [(102, .var [.p (pi (0 : Int)), .p (pi (0 : Int))])]⟩) rfl rfl imp_au
  · intro b_2
    replace H0 := cneg H0 b_2
    refine lok_skip ?_
    try simp only [thenL, blockL, ↓reduceIte, reduceCtorEq]
    refine lok_join (fun x_ : Int => ref14_Imply_j1 a x_ = some r_) (fun x_ => ⟨27, mkS [(1, .x (.one (.ptr 101 0))), (2, .x (.one (.ptr 102 0)))], mkH [(101, .var [.p (pi a.Extra), .p (pi x_)]), (102, .var [.p (pi (0 : Int)), .p (pi (0 : Int))])]⟩) ?hyref14_Imply_j1 ?hxref14_Imply_j1
    case hyref14_Imply_j1 =>
      rintro a1 H0
      try dsimp only at H0 ⊢
      unfold ref14_Imply_j1 at H0
      refine lok_rt E0 (⟨27, mkS [(2, .x (.one (.ptr 102 0)))], mkH [(102, .var [.p (pi a.Extra), .p (pi a1)])]⟩) ?_
      refine lok_ret ?_
      obtain rfl := Option.some.inj H0
      try simp only [thenL, blockL]
      exact fin_au _ (.inr rfl) [] (⟨27, mkS [(2, .x (.one (.ptr 102 0)))], mkH [(102, .var [.p (pi a.Extra), .p (pi a1)])]⟩) rfl rfl imp_au
    case hxref14_Imply_j1 =>
      refine lok_rt E0 (⟨27, mkS [(1, .x (.one (.ptr 101 0))), (2, .x (.one (.ptr 102 0))), (21, .x (.one (.p (.val (.bool ((((bAnd .i64 a.Needs (8 : Int)) != (0 : Int)) || ((bAnd .i64 a.Needs (16 : Int)) != (0 : Int))) || (decide ((25 : Int) < a.Extra))))))))], mkH [(101, .var [.p (pi a.Extra), .p (pi a.Needs)]), (102, .var [.p (pi (0 : Int)), .p (pi (0 : Int))])]⟩) ?_
      refine lok_c ((((bAnd .i64 a.Needs (8 : Int)) != (0 : Int)) || ((bAnd .i64 a.Needs (16 : Int)) != (0 : Int))) || (decide ((25 : Int) < a.Extra))) ?_ ?_
      · intro b_1
        replace H0 := cpos H0 b_1
        refine lok_rl E0 (⟨27, mkS [(1, .x (.one (.ptr 101 0))), (2, .x (.one (.ptr 102 0)))], mkH [(101, .var [.p (pi a.Extra), .p (pi (bOr .i64 a.Needs (1 : Int)))]), (102, .var [.p (pi (0 : Int)), .p (pi (0 : Int))])]⟩) ?_
        try simp only [thenL, blockL, ↓reduceIte, reduceCtorEq]
        exact ⟨(bOr .i64 a.Needs (1 : Int)), H0, imp_au⟩
      · intro b_1
        replace H0 := cneg H0 b_1
        refine lok_skip ?_
        try simp only [thenL, blockL, ↓reduceIte, reduceCtorEq]
        exact ⟨a.Needs, H0, imp_au⟩
end Go.LS
