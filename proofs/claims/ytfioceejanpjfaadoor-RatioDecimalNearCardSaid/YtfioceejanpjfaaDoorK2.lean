/-
  The walks: the functions compute what the plain ones say. Condition: the plain function has a value.
-/
import Derived.Test.YtfioceejanpjfaaDoorK1
import Derived.Test.YtfioceejanpjfaaDoorD2
namespace Go.LS
open Go.Proofs
set_option linter.all false
set_option linter.unusedSimpArgs false
set_option linter.unusedVariables false
set_option maxRecDepth 20000

set_option maxHeartbeats 4000000 in
theorem ok_ratio_Apportion (total : Int) (weights : List Int) (r_ : (List Int) × Int) (H0 : ratio_Apportion total weights = some r_) : CallOK Tryd.prog 38 [.one (.p (pi total)), .one (.p (.sl 1 (List.map encI weights)))] [] [.one (.p (.sl 1 (List.map encI r_.1))), .one (.p (pi r_.2))] [] := by
  refine callOK (n := 99) (rs := [.tmp 4, .tmp 5]) (nb := 0) (V := []) Tryd.func38 rfl (by kernel_rfl) rfl rfl rfl rfl (Nat.le_of_ble_eq_true rfl) (by decide) ?_
  unfold ratio_Apportion at H0
  refine lok_rt E0 (⟨99, mkS [(2, .x (.one (.ptr 102 0))), (3, .x (.one (.ptr 103 0)))], mkH [(102, .var [.p (pi total)]), (103, .var [.p (.sl 1 (List.map encI weights))])]⟩) ?_
  refine lok_seq ?_
  refine lok_rt E0 (⟨99, mkS [(2, .x (.one (.ptr 102 0))), (3, .x (.one (.ptr 103 0))), (17, .x (.one (.p (.val (.bool (decide ((100 : Int) < (weights.length : Int))))))))], mkH [(102, .var [.p (pi total)]), (103, .var [.p (.sl 1 (List.map encI weights))])]⟩) ?_
  refine lok_c (decide ((100 : Int) < (weights.length : Int))) ?_ ?_
  · intro b_22
    replace H0 := cpos H0 b_22
    refine lok_rt E0 (⟨99, mkS [(4, .x (.one (.vw 104))), (5, .x (.one (.p (pi (3 : Int)))))], mkH [(104, .arr 1 (List.map encI ([] : List Int)))]⟩) ?_
    refine lok_ret ?_
    obtain rfl := Option.some.inj H0
    try simp only [thenL, blockL]
    exact fin_au _ (.inr rfl) [] (⟨99, mkS [(4, .x (.one (.p (.sl 1 (List.map encI ([] : List Int)))))), (5, .x (.one (.p (pi (3 : Int)))))], mkH []⟩) rfl rfl (Imp.trans (imp_frz 104 1 (List.map encI ([] : List Int))) imp_au)
  · intro b_22
    replace H0 := cneg H0 b_22
    refine lok_skip ?_
    try simp only [thenL, blockL, ↓reduceIte, reduceCtorEq]
    refine lok_seq ?_
    refine lok_rt E0 (⟨99, mkS [(2, .x (.one (.ptr 102 0))), (3, .x (.one (.ptr 103 0))), (23, .x (.one (.p (.val (.bool ((decide (total < (0 : Int))) || (decide ((1073741824 : Int) < total))))))))], mkH [(102, .var [.p (pi total)]), (103, .var [.p (.sl 1 (List.map encI weights))])]⟩) ?_
    refine lok_c ((decide (total < (0 : Int))) || (decide ((1073741824 : Int) < total))) ?_ ?_
    · intro b_21
      replace H0 := cpos H0 b_21
      refine lok_rt E0 (⟨99, mkS [(4, .x (.one (.vw 104))), (5, .x (.one (.p (pi (2 : Int)))))], mkH [(104, .arr 1 (List.map encI ([] : List Int)))]⟩) ?_
      refine lok_ret ?_
      obtain rfl := Option.some.inj H0
      try simp only [thenL, blockL]
      exact fin_au _ (.inr rfl) [] (⟨99, mkS [(4, .x (.one (.p (.sl 1 (List.map encI ([] : List Int)))))), (5, .x (.one (.p (pi (2 : Int)))))], mkH []⟩) rfl rfl (Imp.trans (imp_frz 104 1 (List.map encI ([] : List Int))) imp_au)
    · intro b_21
      replace H0 := cneg H0 b_21
      refine lok_skip ?_
      try simp only [thenL, blockL, ↓reduceIte, reduceCtorEq]
      refine lok_rt E0 (⟨99, mkS [(2, .x (.one (.ptr 102 0))), (3, .x (.one (.ptr 103 0))), (6, .x (.one (.ptr 106 0)))], mkH [(102, .var [.p (pi total)]), (103, .var [.p (.sl 1 (List.map encI weights))]), (106, .var [.p (pi (0 : Int))])]⟩) ?_
      refine lok_join (fun x_ : Int => ratio_Apportion_j5 total weights x_ = some r_) (fun x_ => ⟨99, mkS [(2, .x (.one (.ptr 102 0))), (3, .x (.one (.ptr 103 0))), (6, .x (.one (.ptr 106 0)))], mkH [(102, .var [.p (pi total)]), (103, .var [.p (.sl 1 (List.map encI weights))]), (106, .var [.p (pi x_)])]⟩) ?hyratio_Apportion_j5 ?hxratio_Apportion_j5
      case hyratio_Apportion_j5 =>
        rintro sum H0
        try dsimp only at H0 ⊢
        unfold ratio_Apportion_j5 at H0
        refine lok_seq ?_
        refine lok_rt E0 (⟨99, mkS [(2, .x (.one (.ptr 102 0))), (3, .x (.one (.ptr 103 0))), (6, .x (.one (.ptr 106 0))), (41, .x (.one (.p (.val (.bool (sum == (0 : Int)))))))], mkH [(102, .var [.p (pi total)]), (103, .var [.p (.sl 1 (List.map encI weights))]), (106, .var [.p (pi sum)])]⟩) ?_
        refine lok_c (sum == (0 : Int)) ?_ ?_
        · intro b_16
          replace H0 := cpos H0 b_16
          refine lok_rt E0 (⟨99, mkS [(4, .x (.one (.vw 104))), (5, .x (.one (.p (pi (10 : Int)))))], mkH [(104, .arr 1 (List.map encI ([] : List Int)))]⟩) ?_
          refine lok_ret ?_
          obtain rfl := Option.some.inj H0
          try simp only [thenL, blockL]
          exact fin_au _ (.inr rfl) [] (⟨99, mkS [(4, .x (.one (.p (.sl 1 (List.map encI ([] : List Int)))))), (5, .x (.one (.p (pi (10 : Int)))))], mkH []⟩) rfl rfl (Imp.trans (imp_frz 104 1 (List.map encI ([] : List Int))) imp_au)
        · intro b_16
          replace H0 := cneg H0 b_16
          refine lok_skip ?_
          try simp only [thenL, blockL, ↓reduceIte, reduceCtorEq]
          replace H0 := req_some H0
          obtain ⟨q_15, H0⟩ := H0
          refine lok_rt E0 (⟨99, mkS [(2, .x (.one (.ptr 102 0))), (3, .x (.one (.ptr 103 0))), (6, .x (.one (.ptr 106 0))), (9, .x (.one (.vw 144)))], mkH [(102, .var [.p (pi total)]), (103, .var [.p (.sl 1 (List.map encI weights))]), (106, .var [.p (pi sum)]), (144, .arr 1 (List.map encI (rep (weights.length : Int) (0 : Int))))]⟩) ?_
          replace H0 := req_some H0
          obtain ⟨q_14, H0⟩ := H0
          refine lok_rt E0 (⟨99, mkS [(2, .x (.one (.ptr 102 0))), (3, .x (.one (.ptr 103 0))), (6, .x (.one (.ptr 106 0))), (9, .x (.one (.vw 144))), (10, .x (.one (.vw 147)))], mkH [(102, .var [.p (pi total)]), (103, .var [.p (.sl 1 (List.map encI weights))]), (106, .var [.p (pi sum)]), (144, .arr 1 (List.map encI (rep (weights.length : Int) (0 : Int)))), (147, .arr 1 (List.map encI (rep (weights.length : Int) (0 : Int))))]⟩) ?_
          refine lok_rt E0 (⟨99, mkS [(2, .x (.one (.ptr 102 0))), (3, .x (.one (.ptr 103 0))), (6, .x (.one (.ptr 106 0))), (9, .x (.one (.vw 144))), (10, .x (.one (.vw 147))), (11, .x (.one (.p (pi total))))], mkH [(102, .var [.p (pi total)]), (103, .var [.p (.sl 1 (List.map encI weights))]), (106, .var [.p (pi sum)]), (144, .arr 1 (List.map encI (rep (weights.length : Int) (0 : Int)))), (147, .arr 1 (List.map encI (rep (weights.length : Int) (0 : Int))))]⟩) ?_
          refine lok_join (fun x_ : Int × (List Int) × (List Int) => ratio_Apportion_j3 total weights sum x_.1 x_.2.1 x_.2.2 = some r_) (fun x_ => ⟨99, mkS [(2, .x (.one (.ptr 102 0))), (3, .x (.one (.ptr 103 0))), (6, .x (.one (.ptr 106 0))), (9, .x (.one (.vw 144))), (10, .x (.one (.vw 147))), (11, .x (.one (.p (pi x_.1))))], mkH [(102, .var [.p (pi total)]), (103, .var [.p (.sl 1 (List.map encI weights))]), (106, .var [.p (pi sum)]), (144, .arr 1 (List.map encI x_.2.1)), (147, .arr 1 (List.map encI x_.2.2))]⟩) ?hyratio_Apportion_j3 ?hxratio_Apportion_j3
          case hyratio_Apportion_j3 =>
            rintro ⟨left, w, w1⟩ H0
            try dsimp only at H0 ⊢
            unfold ratio_Apportion_j3 at H0
            replace H0 := bind_some H0
            obtain ⟨⟨y, y1, y2, y3⟩, h_0, H0⟩ := H0
            try dsimp only at H0
            replace H0 := req_some H0
            obtain ⟨q_5, H0⟩ := H0
            refine lok_rt (Env.of E0 [⟨some 77, 57, [.one (.vw 0), .one (.fn 58 [1, 2, 3])], [.arr 1 (List.map encI w1), .var [.p (pi total)], .var [.p (.sl 1 (List.map encI weights))], .var [.p (pi sum)]], [], [some (.arr 1 (List.map encI y)), some (.var [.p (pi y1)]), some (.var [.p (.sl 1 (List.map encI y2))]), some (.var [.p (pi y3)])], True, fun _ => ok_slices_SortStableFunc_intint_ratio_Apportion_f1 w1 total weights sum (y, y1, y2, y3) h_0, [true, false]⟩]) (⟨99, mkS [(9, .x (.one (.vw 144))), (10, .x (.one (.vw 147))), (11, .x (.one (.p (pi left))))], mkH [(144, .arr 1 (List.map encI w)), (147, .arr 1 (List.map encI y))]⟩) ?_
            refine lok_join (fun x_ : (List Int) => ratio_Apportion_j1 x_ = some r_) (fun x_ => ⟨99, mkS [(9, .x (.one (.vw 144)))], mkH [(144, .arr 1 (List.map encI x_))]⟩) ?hyratio_Apportion_j1 ?hxratio_Apportion_j1
            case hyratio_Apportion_j1 =>
              rintro w2 H0
              try dsimp only at H0 ⊢
              unfold ratio_Apportion_j1 at H0
              refine lok_rt E0 (⟨99, mkS [(4, .x (.one (.vw 144))), (5, .x (.one (.p (pi (0 : Int)))))], mkH [(144, .arr 1 (List.map encI w2))]⟩) ?_
              refine lok_ret ?_
              obtain rfl := Option.some.inj H0
              try simp only [thenL, blockL]
              exact fin_au _ (.inr rfl) [] (⟨99, mkS [(4, .x (.one (.p (.sl 1 (List.map encI w2))))), (5, .x (.one (.p (pi (0 : Int)))))], mkH []⟩) rfl rfl (Imp.trans (imp_frz 144 1 (List.map encI w2)) imp_au)
            case hxratio_Apportion_j1 =>
              refine lok_rt E0 (⟨99, mkS [(9, .x (.one (.vw 144))), (10, .x (.one (.vw 147))), (11, .x (.one (.p (pi left)))), (14, .x (.one (.p (pi (0 : Int)))))], mkH [(144, .arr 1 (List.map encI w)), (147, .arr 1 (List.map encI y))]⟩) ?_
              refine lok_block ?_
              replace H0 := bind_some H0
              obtain ⟨v_1, hv_1, H0⟩ := H0
              refine lok_iter (fun x_ => ⟨99, mkS [(9, .x (.one (.vw 144))), (10, .x (.one (.vw 147))), (11, .x (.one (.p (pi left)))), (14, .x (.one (.p (pi x_.1))))], mkH [(144, .arr 1 (List.map encI x_.2)), (147, .arr 1 (List.map encI y))]⟩) hv_1 imp_au ?_
              · rintro ⟨k, w3⟩ o_1 H1 k_1
                unfold ratio_Apportion_l2 at H1
                try dsimp only at H1 ⊢
                refine lok_seq ?_
                refine lok_rt E0 (⟨99, mkS [(9, .x (.one (.vw 144))), (10, .x (.one (.vw 147))), (11, .x (.one (.p (pi left)))), (14, .x (.one (.p (pi k)))), (86, .x (.one (.p (.val (.bool ((decide (k < left)) && (decide (k < (y.length : Int)))))))))], mkH [(144, .arr 1 (List.map encI w3)), (147, .arr 1 (List.map encI y))]⟩) ?_
                refine lok_c ((decide (k < left)) && (decide (k < (y.length : Int)))) ?_ ?_
                · intro b_4
                  replace H1 := cpos H1 b_4
                  refine lok_skip ?_
                  try simp only [thenL, blockL, ↓reduceIte, reduceCtorEq]
                  refine lok_seq ?_
                  refine lok_block ?_
                  replace H1 := req_some H1
                  obtain ⟨⟨q_2, q_3⟩, H1⟩ := H1
                  refine lok_rl E0 (⟨99, mkS [(9, .x (.one (.vw 144))), (10, .x (.one (.vw 147))), (11, .x (.one (.p (pi left)))), (14, .x (.one (.p (pi k))))], mkH [(144, .arr 1 (List.map encI (setI w3 (ix y k) (IntKind.i64.wrap ((ix w3 (ix y k)) + (1 : Int)))))), (147, .arr 1 (List.map encI y))]⟩) ?_
                  try simp only [thenL, blockL, ↓reduceIte, reduceCtorEq]
                  refine lok_rl E0 (⟨99, mkS [(9, .x (.one (.vw 144))), (10, .x (.one (.vw 147))), (11, .x (.one (.p (pi left)))), (14, .x (.one (.p (pi (IntKind.i64.wrap (k + (1 : Int)))))))], mkH [(144, .arr 1 (List.map encI (setI w3 (ix y k) (IntKind.i64.wrap ((ix w3 (ix y k)) + (1 : Int)))))), (147, .arr 1 (List.map encI y))]⟩) ?_
                  try simp only [thenL, blockL, ↓reduceIte, reduceCtorEq]
                  exact ⟨((IntKind.i64.wrap (k + (1 : Int))), (setI w3 (ix y k) (IntKind.i64.wrap ((ix w3 (ix y k)) + (1 : Int))))), (Option.some.inj H1).symm, imp_au⟩
                · intro b_4
                  replace H1 := cneg H1 b_4
                  refine lok_exit ?_
                  try simp only [thenL, blockL, ↓reduceIte, reduceCtorEq]
                  have e_1 := k_1 _ (Option.some.inj H1).symm
                  subst e_1
                  try dsimp only at H0
                  try simp only [thenL, blockL, ↓reduceIte, reduceCtorEq]
                  exact ⟨w3, H0, imp_au⟩
          case hxratio_Apportion_j3 =>
            refine lok_rt E0 (⟨99, mkS [(2, .x (.one (.ptr 102 0))), (3, .x (.one (.ptr 103 0))), (6, .x (.one (.ptr 106 0))), (9, .x (.one (.vw 144))), (10, .x (.one (.vw 147))), (11, .x (.one (.p (pi total)))), (49, .x (.one (.p (.sl 1 (List.map encI weights))))), (50, .x (.one (.p (pi (weights.length : Int))))), (51, .x (.one (.p (pi (0 : Int)))))], mkH [(102, .var [.p (pi total)]), (103, .var [.p (.sl 1 (List.map encI weights))]), (106, .var [.p (pi sum)]), (144, .arr 1 (List.map encI (rep (weights.length : Int) (0 : Int)))), (147, .arr 1 (List.map encI (rep (weights.length : Int) (0 : Int))))]⟩) ?_
            refine lok_block ?_
            replace H0 := bind_some H0
            obtain ⟨v_6, hv_6, H0⟩ := H0
            refine lok_iter (fun x_ => ⟨99, mkS [(2, .x (.one (.ptr 102 0))), (3, .x (.one (.ptr 103 0))), (6, .x (.one (.ptr 106 0))), (9, .x (.one (.vw 144))), (10, .x (.one (.vw 147))), (11, .x (.one (.p (pi x_.1)))), (49, .x (.one (.p (.sl 1 (List.map encI weights))))), (50, .x (.one (.p (pi (weights.length : Int))))), (51, .x (.one (.p (pi x_.2.1))))], mkH [(102, .var [.p (pi total)]), (103, .var [.p (.sl 1 (List.map encI weights))]), (106, .var [.p (pi sum)]), (144, .arr 1 (List.map encI x_.2.2.1)), (147, .arr 1 (List.map encI x_.2.2.2))]⟩) hv_6 imp_au ?_
            · rintro ⟨left1, v, w5, w6⟩ o_1 H1 k_1
              unfold ratio_Apportion_l4 at H1
              try dsimp only at H1 ⊢
              refine lok_rt E0 (⟨99, mkS [(2, .x (.one (.ptr 102 0))), (3, .x (.one (.ptr 103 0))), (6, .x (.one (.ptr 106 0))), (9, .x (.one (.vw 144))), (10, .x (.one (.vw 147))), (11, .x (.one (.p (pi left1)))), (49, .x (.one (.p (.sl 1 (List.map encI weights))))), (50, .x (.one (.p (pi (weights.length : Int))))), (51, .x (.one (.p (pi v)))), (52, .x (.one (.p (.val (.bool (decide (v < (weights.length : Int))))))))], mkH [(102, .var [.p (pi total)]), (103, .var [.p (.sl 1 (List.map encI weights))]), (106, .var [.p (pi sum)]), (144, .arr 1 (List.map encI w5)), (147, .arr 1 (List.map encI w6))]⟩) ?_
              refine lok_seq ?_
              refine lok_c (decide (v < (weights.length : Int))) ?_ ?_
              · intro b_13
                replace H1 := cpos H1 b_13
                refine lok_skip ?_
                try simp only [thenL, blockL, ↓reduceIte, reduceCtorEq]
                refine lok_seq ?_
                refine lok_block ?_
                replace H1 := req_some H1
                obtain ⟨q_12, H1⟩ := H1
                refine lok_rt E0 (⟨99, mkS [(2, .x (.one (.ptr 102 0))), (3, .x (.one (.ptr 103 0))), (6, .x (.one (.ptr 106 0))), (9, .x (.one (.vw 144))), (10, .x (.one (.vw 147))), (11, .x (.one (.p (pi left1)))), (12, .x (.one (.p (pi v)))), (13, .x (.one (.p (pi (ix weights v))))), (49, .x (.one (.p (.sl 1 (List.map encI weights))))), (50, .x (.one (.p (pi (weights.length : Int))))), (51, .x (.one (.p (pi v))))], mkH [(102, .var [.p (pi total)]), (103, .var [.p (.sl 1 (List.map encI weights))]), (106, .var [.p (pi sum)]), (144, .arr 1 (List.map encI w5)), (147, .arr 1 (List.map encI w6))]⟩) ?_
                replace H1 := req_some H1
                obtain ⟨⟨q_10, q_11⟩, H1⟩ := H1
                replace H1 := bindV_some H1
                obtain ⟨w9, a_7, H1⟩ := H1
                refine lok_rtg E0 a_7 (⟨99, mkS [(2, .x (.one (.ptr 102 0))), (3, .x (.one (.ptr 103 0))), (6, .x (.one (.ptr 106 0))), (9, .x (.one (.vw 144))), (10, .x (.one (.vw 147))), (11, .x (.one (.p (pi left1)))), (12, .x (.one (.p (pi v)))), (49, .x (.one (.p (.sl 1 (List.map encI weights))))), (50, .x (.one (.p (pi (weights.length : Int))))), (51, .x (.one (.p (pi v))))], mkH [(102, .var [.p (pi total)]), (103, .var [.p (.sl 1 (List.map encI weights))]), (106, .var [.p (pi sum)]), (144, .arr 1 (List.map encI w9)), (147, .arr 1 (List.map encI w6))]⟩) ?_
                replace H1 := req_some H1
                obtain ⟨q_9, H1⟩ := H1
                refine lok_rt E0 (⟨99, mkS [(2, .x (.one (.ptr 102 0))), (3, .x (.one (.ptr 103 0))), (6, .x (.one (.ptr 106 0))), (9, .x (.one (.vw 144))), (10, .x (.one (.vw 147))), (11, .x (.one (.p (pi left1)))), (12, .x (.one (.p (pi v)))), (49, .x (.one (.p (.sl 1 (List.map encI weights))))), (50, .x (.one (.p (pi (weights.length : Int))))), (51, .x (.one (.p (pi v))))], mkH [(102, .var [.p (pi total)]), (103, .var [.p (.sl 1 (List.map encI weights))]), (106, .var [.p (pi sum)]), (144, .arr 1 (List.map encI w9)), (147, .arr 1 (List.map encI (setI w6 v v)))]⟩) ?_
                replace H1 := req_some H1
                obtain ⟨q_8, H1⟩ := H1
                refine lok_rl E0 (⟨99, mkS [(2, .x (.one (.ptr 102 0))), (3, .x (.one (.ptr 103 0))), (6, .x (.one (.ptr 106 0))), (9, .x (.one (.vw 144))), (10, .x (.one (.vw 147))), (11, .x (.one (.p (pi (IntKind.i64.wrap (left1 - (ix w9 v))))))), (49, .x (.one (.p (.sl 1 (List.map encI weights))))), (50, .x (.one (.p (pi (weights.length : Int))))), (51, .x (.one (.p (pi v))))], mkH [(102, .var [.p (pi total)]), (103, .var [.p (.sl 1 (List.map encI weights))]), (106, .var [.p (pi sum)]), (144, .arr 1 (List.map encI w9)), (147, .arr 1 (List.map encI (setI w6 v v)))]⟩) ?_
                try simp only [thenL, blockL, ↓reduceIte, reduceCtorEq]
                refine lok_rl E0 (⟨99, mkS [(2, .x (.one (.ptr 102 0))), (3, .x (.one (.ptr 103 0))), (6, .x (.one (.ptr 106 0))), (9, .x (.one (.vw 144))), (10, .x (.one (.vw 147))), (11, .x (.one (.p (pi (IntKind.i64.wrap (left1 - (ix w9 v))))))), (49, .x (.one (.p (.sl 1 (List.map encI weights))))), (50, .x (.one (.p (pi (weights.length : Int))))), (51, .x (.one (.p (pi (IntKind.i64.wrap (v + (1 : Int)))))))], mkH [(102, .var [.p (pi total)]), (103, .var [.p (.sl 1 (List.map encI weights))]), (106, .var [.p (pi sum)]), (144, .arr 1 (List.map encI w9)), (147, .arr 1 (List.map encI (setI w6 v v)))]⟩) ?_
                try simp only [thenL, blockL, ↓reduceIte, reduceCtorEq]
                exact ⟨((IntKind.i64.wrap (left1 - (ix w9 v))), (IntKind.i64.wrap (v + (1 : Int))), w9, (setI w6 v v)), (Option.some.inj H1).symm, imp_au⟩
              · intro b_13
                replace H1 := cneg H1 b_13
                refine lok_exit ?_
                try simp only [thenL, blockL, ↓reduceIte, reduceCtorEq]
                have e_1 := k_1 _ (Option.some.inj H1).symm
                subst e_1
                try dsimp only at H0
                try simp only [thenL, blockL, ↓reduceIte, reduceCtorEq]
                exact ⟨(left1, w5, w6), H0, imp_au⟩
      case hxratio_Apportion_j5 =>
        refine lok_rt E0 (⟨99, mkS [(2, .x (.one (.ptr 102 0))), (3, .x (.one (.ptr 103 0))), (6, .x (.one (.ptr 106 0))), (24, .x (.one (.p (.sl 1 (List.map encI weights))))), (25, .x (.one (.p (pi (weights.length : Int))))), (26, .x (.one (.p (pi (0 : Int)))))], mkH [(102, .var [.p (pi total)]), (103, .var [.p (.sl 1 (List.map encI weights))]), (106, .var [.p (pi (0 : Int))])]⟩) ?_
        refine lok_block ?_
        replace H0 := bind_some H0
        obtain ⟨v_17, hv_17, H0⟩ := H0
        refine lok_iter (fun x_ => ⟨99, mkS [(2, .x (.one (.ptr 102 0))), (3, .x (.one (.ptr 103 0))), (6, .x (.one (.ptr 106 0))), (24, .x (.one (.p (.sl 1 (List.map encI weights))))), (25, .x (.one (.p (pi (weights.length : Int))))), (26, .x (.one (.p (pi x_.1))))], mkH [(102, .var [.p (pi total)]), (103, .var [.p (.sl 1 (List.map encI weights))]), (106, .var [.p (pi x_.2)])]⟩) hv_17 imp_au ?_
        · rintro ⟨v1, sum1⟩ o_1 H1 k_1
          unfold ratio_Apportion_l6 at H1
          try dsimp only at H1 ⊢
          refine lok_rt E0 (⟨99, mkS [(2, .x (.one (.ptr 102 0))), (3, .x (.one (.ptr 103 0))), (6, .x (.one (.ptr 106 0))), (24, .x (.one (.p (.sl 1 (List.map encI weights))))), (25, .x (.one (.p (pi (weights.length : Int))))), (26, .x (.one (.p (pi v1)))), (27, .x (.one (.p (.val (.bool (decide (v1 < (weights.length : Int))))))))], mkH [(102, .var [.p (pi total)]), (103, .var [.p (.sl 1 (List.map encI weights))]), (106, .var [.p (pi sum1)])]⟩) ?_
          refine lok_seq ?_
          refine lok_c (decide (v1 < (weights.length : Int))) ?_ ?_
          · intro b_20
            replace H1 := cpos H1 b_20
            refine lok_skip ?_
            try simp only [thenL, blockL, ↓reduceIte, reduceCtorEq]
            refine lok_seq ?_
            refine lok_block ?_
            replace H1 := req_some H1
            obtain ⟨q_19, H1⟩ := H1
            refine lok_rt E0 (⟨99, mkS [(2, .x (.one (.ptr 102 0))), (3, .x (.one (.ptr 103 0))), (6, .x (.one (.ptr 106 0))), (8, .x (.one (.p (pi (ix weights v1))))), (24, .x (.one (.p (.sl 1 (List.map encI weights))))), (25, .x (.one (.p (pi (weights.length : Int))))), (26, .x (.one (.p (pi v1))))], mkH [(102, .var [.p (pi total)]), (103, .var [.p (.sl 1 (List.map encI weights))]), (106, .var [.p (pi sum1)])]⟩) ?_
            refine lok_seq ?_
            refine lok_rt E0 (⟨99, mkS [(2, .x (.one (.ptr 102 0))), (3, .x (.one (.ptr 103 0))), (6, .x (.one (.ptr 106 0))), (8, .x (.one (.p (pi (ix weights v1))))), (24, .x (.one (.p (.sl 1 (List.map encI weights))))), (25, .x (.one (.p (pi (weights.length : Int))))), (26, .x (.one (.p (pi v1)))), (35, .x (.one (.p (.val (.bool ((decide ((ix weights v1) < (0 : Int))) || (decide ((1073741824 : Int) < (ix weights v1)))))))))], mkH [(102, .var [.p (pi total)]), (103, .var [.p (.sl 1 (List.map encI weights))]), (106, .var [.p (pi sum1)])]⟩) ?_
            refine lok_c ((decide ((ix weights v1) < (0 : Int))) || (decide ((1073741824 : Int) < (ix weights v1)))) ?_ ?_
            · intro b_18
              replace H1 := cpos H1 b_18
              refine lok_rt E0 (⟨99, mkS [(4, .x (.one (.vw 104))), (5, .x (.one (.p (pi (2 : Int)))))], mkH [(104, .arr 1 (List.map encI ([] : List Int)))]⟩) ?_
              refine lok_ret ?_
              try simp only [thenL, blockL, ↓reduceIte, reduceCtorEq]
              have e_1 := k_1 _ (Option.some.inj H1).symm
              subst e_1
              try dsimp only at H0
              obtain rfl := Option.some.inj H0
              try simp only [thenL, blockL]
              exact fin_au _ (.inr rfl) [] (⟨99, mkS [(4, .x (.one (.p (.sl 1 (List.map encI ([] : List Int)))))), (5, .x (.one (.p (pi (2 : Int)))))], mkH []⟩) rfl rfl (Imp.trans (imp_frz 104 1 (List.map encI ([] : List Int))) imp_au)
            · intro b_18
              replace H1 := cneg H1 b_18
              refine lok_skip ?_
              try simp only [thenL, blockL, ↓reduceIte, reduceCtorEq]
              refine lok_rl E0 (⟨99, mkS [(2, .x (.one (.ptr 102 0))), (3, .x (.one (.ptr 103 0))), (6, .x (.one (.ptr 106 0))), (24, .x (.one (.p (.sl 1 (List.map encI weights))))), (25, .x (.one (.p (pi (weights.length : Int))))), (26, .x (.one (.p (pi v1))))], mkH [(102, .var [.p (pi total)]), (103, .var [.p (.sl 1 (List.map encI weights))]), (106, .var [.p (pi (IntKind.i64.wrap (sum1 + (ix weights v1))))])]⟩) ?_
              try simp only [thenL, blockL, ↓reduceIte, reduceCtorEq]
              refine lok_rl E0 (⟨99, mkS [(2, .x (.one (.ptr 102 0))), (3, .x (.one (.ptr 103 0))), (6, .x (.one (.ptr 106 0))), (24, .x (.one (.p (.sl 1 (List.map encI weights))))), (25, .x (.one (.p (pi (weights.length : Int))))), (26, .x (.one (.p (pi (IntKind.i64.wrap (v1 + (1 : Int)))))))], mkH [(102, .var [.p (pi total)]), (103, .var [.p (.sl 1 (List.map encI weights))]), (106, .var [.p (pi (IntKind.i64.wrap (sum1 + (ix weights v1))))])]⟩) ?_
              try simp only [thenL, blockL, ↓reduceIte, reduceCtorEq]
              exact ⟨((IntKind.i64.wrap (v1 + (1 : Int))), (IntKind.i64.wrap (sum1 + (ix weights v1)))), (Option.some.inj H1).symm, imp_au⟩
          · intro b_20
            replace H1 := cneg H1 b_20
            refine lok_exit ?_
            try simp only [thenL, blockL, ↓reduceIte, reduceCtorEq]
            have e_1 := k_1 _ (Option.some.inj H1).symm
            subst e_1
            try dsimp only at H0
            try simp only [thenL, blockL, ↓reduceIte, reduceCtorEq]
            exact ⟨sum1, H0, imp_au⟩
theorem ok_law01_awake  (r_ : Bool) (H0 : law01_awake = some r_) : CallOK Tryd.prog 11 [] [] [.one (.p (.val (.bool r_)))] [] := by
  refine callOK (n := 48) (rs := [.tmp 0]) (nb := 0) (V := []) Tryd.func11 rfl (by kernel_rfl) rfl rfl rfl rfl (Nat.le_of_ble_eq_true rfl) (by decide) ?_
  unfold law01_awake at H0
  refine lok_rt E0 (⟨48, mkS [], mkH []⟩) ?_
  replace H0 := bind_some H0
  obtain ⟨⟨y, y1⟩, h_0, H0⟩ := H0
  try dsimp only at H0
  refine lok_rt (Env.of E0 [⟨some 6, 37, [.one (.p (pi (6 : Int))), .one (.p (pi (-4 : Int)))], [], [.agg [.p (pi y.Num), .p (pi y.Den)], .one (.p (pi y1))], [], True, fun _ => ok_ratio_New (6 : Int) (-4 : Int) (y, y1) h_0, []⟩]) (⟨48, mkS [(1, .x (.one (.ptr 101 0))), (2, .x (.one (.p (pi y1))))], mkH [(101, .var [.p (pi y.Num), .p (pi y.Den)])]⟩) ?_
  replace H0 := bind_some H0
  obtain ⟨⟨y2, y3⟩, h_1, H0⟩ := H0
  try dsimp only at H0
  refine lok_rt (Env.of E0 [⟨some 11, 38, [.one (.p (pi (3 : Int))), .one (.p (.sl 1 (List.map encI ([(5 : Int), (3 : Int), (0 : Int)]))))], [], [.one (.p (.sl 1 (List.map encI y2))), .one (.p (pi y3))], [], True, fun _ => ok_ratio_Apportion (3 : Int) ([(5 : Int), (3 : Int), (0 : Int)]) (y2, y3) h_1, []⟩]) (⟨48, mkS [(1, .x (.one (.ptr 101 0))), (2, .x (.one (.p (pi y1)))), (3, .x (.one (.p (.sl 1 (List.map encI y2))))), (4, .x (.one (.p (pi y3))))], mkH [(101, .var [.p (pi y.Num), .p (pi y.Den)])]⟩) ?_
  replace H0 := req_some H0
  obtain ⟨⟨q_2, q_3, q_4⟩, H0⟩ := H0
  refine lok_rt E0 (⟨48, mkS [(0, .x (.one (.p (.val (.bool (((((((y1 == (0 : Int)) && ((y.Num == (-3 : Int)) && (y.Den == (2 : Int)))) && (y3 == (0 : Int))) && ((y2.length : Int) == (3 : Int))) && ((ix y2 (0 : Int)) == (2 : Int))) && ((ix y2 (1 : Int)) == (1 : Int))) && ((ix y2 (2 : Int)) == (0 : Int))))))))], mkH []⟩) ?_
  refine lok_ret ?_
  obtain rfl := Option.some.inj H0
  try simp only [thenL, blockL]
  exact fin_au _ (.inr rfl) [] (⟨48, mkS [(0, .x (.one (.p (.val (.bool (((((((y1 == (0 : Int)) && ((y.Num == (-3 : Int)) && (y.Den == (2 : Int)))) && (y3 == (0 : Int))) && ((y2.length : Int) == (3 : Int))) && ((ix y2 (0 : Int)) == (2 : Int))) && ((ix y2 (1 : Int)) == (1 : Int))) && ((ix y2 (2 : Int)) == (0 : Int))))))))], mkH []⟩) rfl rfl imp_au
theorem ok_make_New (l : List Int) (r_ : make_Tape) (H0 : make_New l = some r_) : CallOK Tryd.prog 6 [.one (.p (.sl 1 (List.map encI l)))] [] [.one (.ptr 0 0)] [some (.var [.p (.sl 1 (List.map encI r_.L)), .p (pi r_.At)])] := by
  refine callOK (n := 11) (rs := [.tmp 2]) (nb := 0) (V := []) Tryd.func6 rfl (by kernel_rfl) rfl rfl rfl rfl (Nat.le_of_ble_eq_true rfl) (by decide) ?_
  unfold make_New at H0
  refine lok_rt E0 (⟨11, mkS [(0, .x (.one (.p (.sl 1 (List.map encI l)))))], mkH []⟩) ?_
  refine lok_join (fun x_ : (List Int) => make_New_j1 x_ = some r_) (fun x_ => ⟨11, mkS [(0, .x (.one (.p (.sl 1 (List.map encI x_)))))], mkH []⟩) ?hymake_New_j1 ?hxmake_New_j1
  case hymake_New_j1 =>
    rintro l1 H0
    try dsimp only at H0 ⊢
    unfold make_New_j1 at H0
    refine lok_rt E0 (⟨11, mkS [(2, .x (.one (.ptr 110 0)))], mkH [(110, .var [.p (.sl 1 (List.map encI l1)), .p (pi (0 : Int))])]⟩) ?_
    refine lok_ret ?_
    obtain rfl := Option.some.inj H0
    try simp only [thenL, blockL]
    exact fin_nu [110] _ (.inr rfl) [110] (⟨11, mkS [(2, .x (.one (.ptr 110 0)))], mkH [(110, .var [.p (.sl 1 (List.map encI l1)), .p (pi (0 : Int))])]⟩) rfl rfl imp_au
  case hxmake_New_j1 =>
    refine lok_rt E0 (⟨11, mkS [(0, .x (.one (.p (.sl 1 (List.map encI l))))), (5, .x (.one (.p (.val (.bool (decide ((600 : Int) < (l.length : Int))))))))], mkH []⟩) ?_
    refine lok_c (decide ((600 : Int) < (l.length : Int))) ?_ ?_
    · intro b_1
      replace H0 := cpos H0 b_1
      replace H0 := req_some H0
      obtain ⟨q_0, H0⟩ := H0
      refine lok_rl E0 (⟨11, mkS [(0, .x (.one (.p (.sl 1 (List.map encI (List.take (600 : Int).toNat l))))))], mkH []⟩) ?_
      try simp only [thenL, blockL, ↓reduceIte, reduceCtorEq]
      exact ⟨(List.take (600 : Int).toNat l), H0, imp_au⟩
    · intro b_1
      replace H0 := cneg H0 b_1
      refine lok_skip ?_
      try simp only [thenL, blockL, ↓reduceIte, reduceCtorEq]
      exact ⟨l, H0, imp_au⟩
theorem ok_make_Tape_Raw (t : make_Tape) (r_ : Int × make_Tape) (H0 : make_Tape_Raw t = some r_) : CallOK Tryd.prog 66 [.one (.ptr 0 0)] [.var [.p (.sl 1 (List.map encI t.L)), .p (pi t.At)]] [.one (.p (pi r_.1))] [some (.var [.p (.sl 1 (List.map encI r_.2.L)), .p (pi r_.2.At)])] := by
  refine callOK (n := 31) (rs := [.tmp 2]) (nb := 1) (V := [0]) Tryd.func66 rfl (by kernel_rfl) rfl rfl rfl rfl (Nat.le_of_ble_eq_true rfl) (by decide) ?_
  unfold make_Tape_Raw at H0
  refine lok_rt E0 (⟨31, mkS [(0, .x (.one (.ptr 0 0)))], mkH [(0, .var [.p (.sl 1 (List.map encI t.L)), .p (pi t.At)])]⟩) ?_
  refine lok_seq ?_
  refine lok_dt E0 9 (⟨31, mkS [(0, .x (.one (.ptr 0 0))), (12, .x (.one (.p (.val (.bool (decide ((t.L.length : Int) ≤ t.At)))))))], mkH [(0, .var [.p (.sl 1 (List.map encI t.L)), .p (pi t.At)])]⟩) (by kernel_rfl) (by kernel_rfl) ?_
  refine lok_c (decide ((t.L.length : Int) ≤ t.At)) ?_ ?_
  · intro b_2
    replace H0 := cpos H0 b_2
    refine lok_rt E0 (⟨31, mkS [(2, .x (.one (.p (pi (0 : Int)))))], mkH [(0, .var [.p (.sl 1 (List.map encI t.L)), .p (pi t.At)])]⟩) ?_
    refine lok_ret ?_
    obtain rfl := Option.some.inj H0
    try simp only [thenL, blockL]
    exact fin_au _ (.inr rfl) [0] (⟨31, mkS [(2, .x (.one (.p (pi (0 : Int)))))], mkH [(0, .var [.p (.sl 1 (List.map encI t.L)), .p (pi t.At)])]⟩) rfl rfl imp_au
  · intro b_2
    replace H0 := cneg H0 b_2
    refine lok_skip ?_
    try simp only [thenL, blockL, ↓reduceIte, reduceCtorEq]
    refine lok_rt E0 (⟨31, mkS [(0, .x (.one (.ptr 0 0)))], mkH [(0, .var [.p (.sl 1 (List.map encI t.L)), .p (pi (IntKind.i64.wrap (t.At + (1 : Int))))])]⟩) ?_
    replace H0 := req_some H0
    obtain ⟨q_1, H0⟩ := H0
    replace H0 := bindV_some H0
    obtain ⟨v, a_0, H0⟩ := H0
    refine lok_dtg E0 9 a_0 (⟨31, mkS [(2, .x (.one (.p (pi v))))], mkH [(0, .var [.p (.sl 1 (List.map encI t.L)), .p (pi (IntKind.i64.wrap (t.At + (1 : Int))))])]⟩) (by kernel_rfl) (by kernel_rfl) ?_
    refine lok_ret ?_
    obtain rfl := Option.some.inj H0
    try simp only [thenL, blockL]
    exact fin_au _ (.inr rfl) [0] (⟨31, mkS [(2, .x (.one (.p (pi v))))], mkH [(0, .var [.p (.sl 1 (List.map encI t.L)), .p (pi (IntKind.i64.wrap (t.At + (1 : Int))))])]⟩) rfl rfl imp_au
theorem ok_make_Cut (x : Int) (n : Int) (r_ : Int) (H0 : make_Cut x n = some r_) : CallOK Tryd.prog 8 [.one (.p (pi x)), .one (.p (pi n))] [] [.one (.p (pi r_))] [] := by
  refine callOK (n := 16) (rs := [.tmp 4]) (nb := 0) (V := []) Tryd.func8 rfl (by kernel_rfl) rfl rfl rfl rfl (Nat.le_of_ble_eq_true rfl) (by decide) ?_
  unfold make_Cut at H0
  refine lok_rt E0 (⟨16, mkS [(0, .x (.one (.p (pi x)))), (1, .x (.one (.p (pi n))))], mkH []⟩) ?_
  refine lok_seq ?_
  refine lok_rt E0 (⟨16, mkS [(0, .x (.one (.p (pi x)))), (1, .x (.one (.p (pi n)))), (6, .x (.one (.p (.val (.bool (decide (n < (1 : Int))))))))], mkH []⟩) ?_
  refine lok_c (decide (n < (1 : Int))) ?_ ?_
  · intro b_2
    replace H0 := cpos H0 b_2
    refine lok_rt E0 (⟨16, mkS [(4, .x (.one (.p (pi (0 : Int)))))], mkH []⟩) ?_
    refine lok_ret ?_
    obtain rfl := Option.some.inj H0
    try simp only [thenL, blockL]
    exact fin_au _ (.inr rfl) [] (⟨16, mkS [(4, .x (.one (.p (pi (0 : Int)))))], mkH []⟩) rfl rfl imp_au
  · intro b_2
    replace H0 := cneg H0 b_2
    refine lok_skip ?_
    try simp only [thenL, blockL, ↓reduceIte, reduceCtorEq]
    replace H0 := req_some H0
    obtain ⟨q_1, H0⟩ := H0
    refine lok_rt E0 (⟨16, mkS [(0, .x (.one (.p (pi (Int.tmod x n))))), (1, .x (.one (.p (pi n))))], mkH []⟩) ?_
    refine lok_join (fun x_ : Int => make_Cut_j1 x_ = some r_) (fun x_ => ⟨16, mkS [(0, .x (.one (.p (pi x_))))], mkH []⟩) ?hymake_Cut_j1 ?hxmake_Cut_j1
    case hymake_Cut_j1 =>
      rintro x1 H0
      try dsimp only at H0 ⊢
      unfold make_Cut_j1 at H0
      refine lok_rt E0 (⟨16, mkS [(4, .x (.one (.p (pi x1))))], mkH []⟩) ?_
      refine lok_ret ?_
      obtain rfl := Option.some.inj H0
      try simp only [thenL, blockL]
      exact fin_au _ (.inr rfl) [] (⟨16, mkS [(4, .x (.one (.p (pi x1))))], mkH []⟩) rfl rfl imp_au
    case hxmake_Cut_j1 =>
      refine lok_rt E0 (⟨16, mkS [(0, .x (.one (.p (pi (Int.tmod x n))))), (1, .x (.one (.p (pi n)))), (11, .x (.one (.p (.val (.bool (decide ((Int.tmod x n) < (0 : Int))))))))], mkH []⟩) ?_
      refine lok_c (decide ((Int.tmod x n) < (0 : Int))) ?_ ?_
      · intro b_0
        replace H0 := cpos H0 b_0
        refine lok_rl E0 (⟨16, mkS [(0, .x (.one (.p (pi (IntKind.i64.wrap ((Int.tmod x n) + n))))))], mkH []⟩) ?_
        try simp only [thenL, blockL, ↓reduceIte, reduceCtorEq]
        exact ⟨(IntKind.i64.wrap ((Int.tmod x n) + n)), H0, imp_au⟩
      · intro b_0
        replace H0 := cneg H0 b_0
        refine lok_skip ?_
        try simp only [thenL, blockL, ↓reduceIte, reduceCtorEq]
        exact ⟨(Int.tmod x n), H0, imp_au⟩
theorem ok_make_Tape_Next (t : make_Tape) (n : Int) (r_ : Int × make_Tape) (H0 : make_Tape_Next t n = some r_) : CallOK Tryd.prog 48 [.one (.ptr 0 0), .one (.p (pi n))] [.var [.p (.sl 1 (List.map encI t.L)), .p (pi t.At)]] [.one (.p (pi r_.1))] [some (.var [.p (.sl 1 (List.map encI r_.2.L)), .p (pi r_.2.At)])] := by
  refine callOK (n := 9) (rs := [.tmp 4]) (nb := 1) (V := [0]) Tryd.func48 rfl (by kernel_rfl) rfl rfl rfl rfl (Nat.le_of_ble_eq_true rfl) (by decide) ?_
  unfold make_Tape_Next at H0
  refine lok_rt E0 (⟨9, mkS [(0, .x (.one (.ptr 0 0))), (1, .x (.one (.p (pi n))))], mkH [(0, .var [.p (.sl 1 (List.map encI t.L)), .p (pi t.At)])]⟩) ?_
  replace H0 := bind_some H0
  obtain ⟨⟨y, y1⟩, h_0, H0⟩ := H0
  try dsimp only at H0
  replace H0 := bind_some H0
  obtain ⟨y2, h_1, H0⟩ := H0
  refine lok_rt (Env.of E0 [⟨some 6, 66, [.one (.ptr 0 0)], [.var [.p (.sl 1 (List.map encI t.L)), .p (pi t.At)]], [.one (.p (pi y))], [some (.var [.p (.sl 1 (List.map encI y1.L)), .p (pi y1.At)])], True, fun _ => ok_make_Tape_Raw t (y, y1) h_0, []⟩,
      ⟨some 8, 8, [.one (.p (pi y)), .one (.p (pi n))], [], [.one (.p (pi y2))], [], True, fun _ => ok_make_Cut y n y2 h_1, []⟩]) (⟨9, mkS [(4, .x (.one (.p (pi y2))))], mkH [(0, .var [.p (.sl 1 (List.map encI y1.L)), .p (pi y1.At)])]⟩) ?_
  refine lok_ret ?_
  obtain rfl := Option.some.inj H0
  try simp only [thenL, blockL]
  exact fin_au _ (.inr rfl) [0] (⟨9, mkS [(4, .x (.one (.p (pi y2))))], mkH [(0, .var [.p (.sl 1 (List.map encI y1.L)), .p (pi y1.At)])]⟩) rfl rfl imp_au
theorem ok_make_Tape_One (t : make_Tape) (n : Int) (r_ : Bool × make_Tape) (H0 : make_Tape_One t n = some r_) : CallOK Tryd.prog 20 [.one (.ptr 0 0), .one (.p (pi n))] [.var [.p (.sl 1 (List.map encI t.L)), .p (pi t.At)]] [.one (.p (.val (.bool r_.1)))] [some (.var [.p (.sl 1 (List.map encI r_.2.L)), .p (pi r_.2.At)])] := by
  refine callOK (n := 11) (rs := [.tmp 4]) (nb := 1) (V := [0]) Tryd.func20 rfl (by kernel_rfl) rfl rfl rfl rfl (Nat.le_of_ble_eq_true rfl) (by decide) ?_
  unfold make_Tape_One at H0
  refine lok_rt E0 (⟨11, mkS [(0, .x (.one (.ptr 0 0))), (1, .x (.one (.p (pi n))))], mkH [(0, .var [.p (.sl 1 (List.map encI t.L)), .p (pi t.At)])]⟩) ?_
  replace H0 := bind_some H0
  obtain ⟨⟨y, y1⟩, h_0, H0⟩ := H0
  try dsimp only at H0
  refine lok_rt (Env.of E0 [⟨some 7, 48, [.one (.ptr 0 0), .one (.p (pi n))], [.var [.p (.sl 1 (List.map encI t.L)), .p (pi t.At)]], [.one (.p (pi y))], [some (.var [.p (.sl 1 (List.map encI y1.L)), .p (pi y1.At)])], True, fun _ => ok_make_Tape_Next t n (y, y1) h_0, []⟩]) (⟨11, mkS [(4, .x (.one (.p (.val (.bool (y == (IntKind.i64.wrap (n - (1 : Int)))))))))], mkH [(0, .var [.p (.sl 1 (List.map encI y1.L)), .p (pi y1.At)])]⟩) ?_
  refine lok_ret ?_
  obtain rfl := Option.some.inj H0
  try simp only [thenL, blockL]
  exact fin_au _ (.inr rfl) [0] (⟨11, mkS [(4, .x (.one (.p (.val (.bool (y == (IntKind.i64.wrap (n - (1 : Int)))))))))], mkH [(0, .var [.p (.sl 1 (List.map encI y1.L)), .p (pi y1.At)])]⟩) rfl rfl imp_au
theorem ok_make_Tape_Range (t : make_Tape) (low : Int) (high : Int) (r_ : Int × make_Tape) (H0 : make_Tape_Range t low high = some r_) : CallOK Tryd.prog 22 [.one (.ptr 0 0), .one (.p (pi low)), .one (.p (pi high))] [.var [.p (.sl 1 (List.map encI t.L)), .p (pi t.At)]] [.one (.p (pi r_.1))] [some (.var [.p (.sl 1 (List.map encI r_.2.L)), .p (pi r_.2.At)])] := by
  refine callOK (n := 15) (rs := [.tmp 6]) (nb := 1) (V := [0]) Tryd.func22 rfl (by kernel_rfl) rfl rfl rfl rfl (Nat.le_of_ble_eq_true rfl) (by decide) ?_
  unfold make_Tape_Range at H0
  refine lok_rt E0 (⟨15, mkS [(0, .x (.one (.ptr 0 0))), (1, .x (.one (.p (pi low)))), (2, .x (.one (.p (pi high))))], mkH [(0, .var [.p (.sl 1 (List.map encI t.L)), .p (pi t.At)])]⟩) ?_
  replace H0 := bind_some H0
  obtain ⟨⟨y, y1⟩, h_0, H0⟩ := H0
  try dsimp only at H0
  refine lok_rt (Env.of E0 [⟨some 13, 48, [.one (.ptr 0 0), .one (.p (pi (IntKind.i64.wrap ((IntKind.i64.wrap (high - low)) + (1 : Int)))))], [.var [.p (.sl 1 (List.map encI t.L)), .p (pi t.At)]], [.one (.p (pi y))], [some (.var [.p (.sl 1 (List.map encI y1.L)), .p (pi y1.At)])], True, fun _ => ok_make_Tape_Next t (IntKind.i64.wrap ((IntKind.i64.wrap (high - low)) + (1 : Int))) (y, y1) h_0, []⟩]) (⟨15, mkS [(6, .x (.one (.p (pi (IntKind.i64.wrap (low + y))))))], mkH [(0, .var [.p (.sl 1 (List.map encI y1.L)), .p (pi y1.At)])]⟩) ?_
  refine lok_ret ?_
  obtain rfl := Option.some.inj H0
  try simp only [thenL, blockL]
  exact fin_au _ (.inr rfl) [0] (⟨15, mkS [(6, .x (.one (.p (pi (IntKind.i64.wrap (low + y))))))], mkH [(0, .var [.p (.sl 1 (List.map encI y1.L)), .p (pi y1.At)])]⟩) rfl rfl imp_au
theorem ok_ref01_Reduce (negative : Bool) (num : ref01_Wide) (den : ref01_Wide) (r_ : api_Ratio × Int) (H0 : ref01_Reduce negative num den = some r_) : CallOK Tryd.prog 62 [.one (.p (.val (.bool negative))), .agg [.p (.val (.int .u64 num.Hi)), .p (.val (.int .u64 num.Lo))], .agg [.p (.val (.int .u64 den.Hi)), .p (.val (.int .u64 den.Lo))]] [] [.agg [.p (pi r_.1.Num), .p (pi r_.1.Den)], .one (.p (pi r_.2))] [] := by
  refine callOK (n := 61) (rs := [.cell 6 24, .tmp 7]) (nb := 0) (V := []) Tryd.func62 rfl (by kernel_rfl) rfl rfl rfl rfl (Nat.le_of_ble_eq_true rfl) (by decide) ?_
  unfold ref01_Reduce at H0
  refine lok_rt E0 (⟨61, mkS [(0, .x (.one (.p (.val (.bool negative))))), (4, .x (.one (.ptr 104 0))), (5, .x (.one (.ptr 105 0))), (6, .x (.one (.ptr 106 0)))], mkH [(104, .var [.p (.val (.int .u64 num.Hi)), .p (.val (.int .u64 num.Lo))]), (105, .var [.p (.val (.int .u64 den.Hi)), .p (.val (.int .u64 den.Lo))]), (106, .var [.p (pi (0 : Int)), .p (pi (0 : Int))])]⟩) ?_
  replace H0 := bind_some H0
  obtain ⟨y, h_0, H0⟩ := H0
  refine lok_rt (Env.of E0 [⟨some 16, 43, [.agg [.p (.val (.int .u64 num.Hi)), .p (.val (.int .u64 num.Lo))], .agg [.p (.val (.int .u64 den.Hi)), .p (.val (.int .u64 den.Lo))]], [], [.agg [.p (.val (.int .u64 y.Hi)), .p (.val (.int .u64 y.Lo))]], [], True, fun _ => ok_ref01_Divisor num den y h_0, []⟩]) (⟨61, mkS [(0, .x (.one (.p (.val (.bool negative))))), (4, .x (.one (.ptr 104 0))), (5, .x (.one (.ptr 105 0))), (6, .x (.one (.ptr 106 0))), (8, .x (.one (.ptr 108 0)))], mkH [(104, .var [.p (.val (.int .u64 num.Hi)), .p (.val (.int .u64 num.Lo))]), (105, .var [.p (.val (.int .u64 den.Hi)), .p (.val (.int .u64 den.Lo))]), (106, .var [.p (pi (0 : Int)), .p (pi (0 : Int))]), (108, .var [.p (.val (.int .u64 y.Hi)), .p (.val (.int .u64 y.Lo))])]⟩) ?_
  replace H0 := bind_some H0
  obtain ⟨⟨y1, y2⟩, h_1, H0⟩ := H0
  try dsimp only at H0
  refine lok_rt (Env.of E0 [⟨some 20, 31, [.agg [.p (.val (.int .u64 num.Hi)), .p (.val (.int .u64 num.Lo))], .agg [.p (.val (.int .u64 y.Hi)), .p (.val (.int .u64 y.Lo))]], [], [.agg [.p (.val (.int .u64 y1.Hi)), .p (.val (.int .u64 y1.Lo))], .agg [.p (.val (.int .u64 y2.Hi)), .p (.val (.int .u64 y2.Lo))]], [], True, fun _ => ok_ref01_Divide num y (y1, y2) h_1, []⟩]) (⟨61, mkS [(0, .x (.one (.p (.val (.bool negative))))), (5, .x (.one (.ptr 105 0))), (6, .x (.one (.ptr 106 0))), (8, .x (.one (.ptr 108 0))), (9, .x (.one (.ptr 109 0)))], mkH [(105, .var [.p (.val (.int .u64 den.Hi)), .p (.val (.int .u64 den.Lo))]), (106, .var [.p (pi (0 : Int)), .p (pi (0 : Int))]), (108, .var [.p (.val (.int .u64 y.Hi)), .p (.val (.int .u64 y.Lo))]), (109, .var [.p (.val (.int .u64 y1.Hi)), .p (.val (.int .u64 y1.Lo))])]⟩) ?_
  replace H0 := bind_some H0
  obtain ⟨⟨y3, y4⟩, h_2, H0⟩ := H0
  try dsimp only at H0
  refine lok_rt (Env.of E0 [⟨some 26, 31, [.agg [.p (.val (.int .u64 den.Hi)), .p (.val (.int .u64 den.Lo))], .agg [.p (.val (.int .u64 y.Hi)), .p (.val (.int .u64 y.Lo))]], [], [.agg [.p (.val (.int .u64 y3.Hi)), .p (.val (.int .u64 y3.Lo))], .agg [.p (.val (.int .u64 y4.Hi)), .p (.val (.int .u64 y4.Lo))]], [], True, fun _ => ok_ref01_Divide den y (y3, y4) h_2, []⟩]) (⟨61, mkS [(0, .x (.one (.p (.val (.bool negative))))), (6, .x (.one (.ptr 106 0))), (9, .x (.one (.ptr 109 0))), (11, .x (.one (.ptr 111 0)))], mkH [(106, .var [.p (pi (0 : Int)), .p (pi (0 : Int))]), (109, .var [.p (.val (.int .u64 y1.Hi)), .p (.val (.int .u64 y1.Lo))]), (111, .var [.p (.val (.int .u64 y3.Hi)), .p (.val (.int .u64 y3.Lo))])]⟩) ?_
  refine lok_seq ?_
  refine lok_rt E0 (⟨61, mkS [(0, .x (.one (.p (.val (.bool negative))))), (6, .x (.one (.ptr 106 0))), (9, .x (.one (.ptr 109 0))), (11, .x (.one (.ptr 111 0))), (46, .x (.one (.p (.val (.bool ((((decide ((0 : Int) < y1.Hi)) || (decide ((0 : Int) < y3.Hi))) || (decide ((1152921504606846976 : Int) < y1.Lo))) || (decide ((1152921504606846976 : Int) < y3.Lo))))))))], mkH [(106, .var [.p (pi (0 : Int)), .p (pi (0 : Int))]), (109, .var [.p (.val (.int .u64 y1.Hi)), .p (.val (.int .u64 y1.Lo))]), (111, .var [.p (.val (.int .u64 y3.Hi)), .p (.val (.int .u64 y3.Lo))])]⟩) ?_
  refine lok_c ((((decide ((0 : Int) < y1.Hi)) || (decide ((0 : Int) < y3.Hi))) || (decide ((1152921504606846976 : Int) < y1.Lo))) || (decide ((1152921504606846976 : Int) < y3.Lo))) ?_ ?_
  · intro b_4
    replace H0 := cpos H0 b_4
    refine lok_rt E0 (⟨61, mkS [(6, .x (.one (.ptr 106 0))), (7, .x (.one (.p (pi (6 : Int)))))], mkH [(106, .var [.p (pi (0 : Int)), .p (pi (0 : Int))])]⟩) ?_
    refine lok_ret ?_
    obtain rfl := Option.some.inj H0
    try simp only [thenL, blockL]
    exact fin_au _ (.inr rfl) [] (⟨61, mkS [(6, .x (.one (.ptr 106 0))), (7, .x (.one (.p (pi (6 : Int)))))], mkH [(106, .var [.p (pi (0 : Int)), .p (pi (0 : Int))])]⟩) rfl rfl imp_au
  · intro b_4
    replace H0 := cneg H0 b_4
    refine lok_skip ?_
    try simp only [thenL, blockL, ↓reduceIte, reduceCtorEq]
    refine lok_rt E0 (⟨61, mkS [(0, .x (.one (.p (.val (.bool negative))))), (6, .x (.one (.ptr 106 0))), (13, .x (.one (.ptr 113 0)))], mkH [(106, .var [.p (pi (0 : Int)), .p (pi (0 : Int))]), (113, .var [.p (pi (IntKind.i64.wrap y1.Lo)), .p (pi (IntKind.i64.wrap y3.Lo))])]⟩) ?_
    refine lok_join (fun x_ : Int => ref01_Reduce_j1 y3 x_ = some r_) (fun x_ => ⟨61, mkS [(6, .x (.one (.ptr 106 0))), (13, .x (.one (.ptr 113 0)))], mkH [(106, .var [.p (pi (0 : Int)), .p (pi (0 : Int))]), (113, .var [.p (pi x_), .p (pi (IntKind.i64.wrap y3.Lo))])]⟩) ?hyref01_Reduce_j1 ?hxref01_Reduce_j1
    case hyref01_Reduce_j1 =>
      rintro out H0
      try dsimp only at H0 ⊢
      unfold ref01_Reduce_j1 at H0
      refine lok_rt E0 (⟨61, mkS [(6, .x (.one (.ptr 106 0))), (7, .x (.one (.p (pi (0 : Int)))))], mkH [(106, .var [.p (pi out), .p (pi (IntKind.i64.wrap y3.Lo))])]⟩) ?_
      refine lok_ret ?_
      obtain rfl := Option.some.inj H0
      try simp only [thenL, blockL]
      exact fin_au _ (.inr rfl) [] (⟨61, mkS [(6, .x (.one (.ptr 106 0))), (7, .x (.one (.p (pi (0 : Int)))))], mkH [(106, .var [.p (pi out), .p (pi (IntKind.i64.wrap y3.Lo))])]⟩) rfl rfl imp_au
    case hxref01_Reduce_j1 =>
      refine lok_rt E0 (⟨61, mkS [(6, .x (.one (.ptr 106 0))), (13, .x (.one (.ptr 113 0))), (55, .x (.one (.p (.val (.bool negative)))))], mkH [(106, .var [.p (pi (0 : Int)), .p (pi (0 : Int))]), (113, .var [.p (pi (IntKind.i64.wrap y1.Lo)), .p (pi (IntKind.i64.wrap y3.Lo))])]⟩) ?_
      refine lok_c negative ?_ ?_
      · intro b_3
        replace H0 := cpos H0 b_3
        refine lok_rl E0 (⟨61, mkS [(6, .x (.one (.ptr 106 0))), (13, .x (.one (.ptr 113 0)))], mkH [(106, .var [.p (pi (0 : Int)), .p (pi (0 : Int))]), (113, .var [.p (pi (IntKind.i64.wrap (0 - (IntKind.i64.wrap y1.Lo)))), .p (pi (IntKind.i64.wrap y3.Lo))])]⟩) ?_
        try simp only [thenL, blockL, ↓reduceIte, reduceCtorEq]
        exact ⟨(IntKind.i64.wrap (0 - (IntKind.i64.wrap y1.Lo))), H0, imp_au⟩
      · intro b_3
        replace H0 := cneg H0 b_3
        refine lok_skip ?_
        try simp only [thenL, blockL, ↓reduceIte, reduceCtorEq]
        exact ⟨(IntKind.i64.wrap y1.Lo), H0, imp_au⟩
theorem ok_ref01_New (num : Int) (den : Int) (r_ : api_Ratio × Int) (H0 : ref01_New num den = some r_) : CallOK Tryd.prog 44 [.one (.p (pi num)), .one (.p (pi den))] [] [.agg [.p (pi r_.1.Num), .p (pi r_.1.Den)], .one (.p (pi r_.2))] [] := by
  refine callOK (n := 23) (rs := [.cell 4 24, .tmp 5]) (nb := 0) (V := []) Tryd.func44 rfl (by kernel_rfl) rfl rfl rfl rfl (Nat.le_of_ble_eq_true rfl) (by decide) ?_
  unfold ref01_New at H0
  refine lok_rt E0 (⟨23, mkS [(0, .x (.one (.p (pi num)))), (1, .x (.one (.p (pi den)))), (4, .x (.one (.ptr 104 0)))], mkH [(104, .var [.p (pi (0 : Int)), .p (pi (0 : Int))])]⟩) ?_
  refine lok_seq ?_
  refine lok_rt E0 (⟨23, mkS [(0, .x (.one (.p (pi num)))), (1, .x (.one (.p (pi den)))), (4, .x (.one (.ptr 104 0))), (7, .x (.one (.p (.val (.bool (den == (0 : Int)))))))], mkH [(104, .var [.p (pi (0 : Int)), .p (pi (0 : Int))])]⟩) ?_
  refine lok_c (den == (0 : Int)) ?_ ?_
  · intro b_3
    replace H0 := cpos H0 b_3
    refine lok_rt E0 (⟨23, mkS [(4, .x (.one (.ptr 104 0))), (5, .x (.one (.p (pi (2 : Int)))))], mkH [(104, .var [.p (pi (0 : Int)), .p (pi (0 : Int))])]⟩) ?_
    refine lok_ret ?_
    obtain rfl := Option.some.inj H0
    try simp only [thenL, blockL]
    exact fin_au _ (.inr rfl) [] (⟨23, mkS [(4, .x (.one (.ptr 104 0))), (5, .x (.one (.p (pi (2 : Int)))))], mkH [(104, .var [.p (pi (0 : Int)), .p (pi (0 : Int))])]⟩) rfl rfl imp_au
  · intro b_3
    replace H0 := cneg H0 b_3
    refine lok_skip ?_
    try simp only [thenL, blockL, ↓reduceIte, reduceCtorEq]
    replace H0 := bind_some H0
    obtain ⟨y, h_0, H0⟩ := H0
    replace H0 := bind_some H0
    obtain ⟨y1, h_1, H0⟩ := H0
    replace H0 := bind_some H0
    obtain ⟨⟨y2, y3⟩, h_2, H0⟩ := H0
    try dsimp only at H0
    refine lok_rt (Env.of E0 [⟨some 15, 30, [.one (.p (pi num))], [], [.one (.p (.val (.int .u64 y)))], [], True, fun _ => ok_ref01_Size num y h_0, []⟩,
      ⟨some 18, 30, [.one (.p (pi den))], [], [.one (.p (.val (.int .u64 y1)))], [], True, fun _ => ok_ref01_Size den y1 h_1, []⟩,
      ⟨some 20, 62, [.one (.p (.val (.bool (!((decide (num < (0 : Int))) == (decide (den < (0 : Int)))))))), .agg [.p (.val (.int .u64 (0 : Int))), .p (.val (.int .u64 y))], .agg [.p (.val (.int .u64 (0 : Int))), .p (.val (.int .u64 y1))]], [], [.agg [.p (pi y2.Num), .p (pi y2.Den)], .one (.p (pi y3))], [], True, fun _ => ok_ref01_Reduce (!((decide (num < (0 : Int))) == (decide (den < (0 : Int))))) (ref01_Wide.mk (0 : Int) y) (ref01_Wide.mk (0 : Int) y1) (y2, y3) h_2, []⟩]) (⟨23, mkS [(4, .x (.one (.ptr 104 0))), (5, .x (.one (.p (pi y3))))], mkH [(104, .var [.p (pi y2.Num), .p (pi y2.Den)])]⟩) ?_
    refine lok_ret ?_
    obtain rfl := Option.some.inj H0
    try simp only [thenL, blockL]
    exact fin_au _ (.inr rfl) [] (⟨23, mkS [(4, .x (.one (.ptr 104 0))), (5, .x (.one (.p (pi y3))))], mkH [(104, .var [.p (pi y2.Num), .p (pi y2.Den)])]⟩) rfl rfl imp_au
theorem ok_make_Tape_Pick (t : make_Tape) (l : List Int) (r_ : Int × make_Tape) (H0 : make_Tape_Pick t l = some r_) : CallOK Tryd.prog 47 [.one (.ptr 0 0), .one (.p (.sl 1 (List.map encI l)))] [.var [.p (.sl 1 (List.map encI t.L)), .p (pi t.At)]] [.one (.p (pi r_.1))] [some (.var [.p (.sl 1 (List.map encI r_.2.L)), .p (pi r_.2.At)])] := by
  refine callOK (n := 12) (rs := [.tmp 4]) (nb := 1) (V := [0]) Tryd.func47 rfl (by kernel_rfl) rfl rfl rfl rfl (Nat.le_of_ble_eq_true rfl) (by decide) ?_
  unfold make_Tape_Pick at H0
  refine lok_rt E0 (⟨12, mkS [(0, .x (.one (.ptr 0 0))), (1, .x (.one (.p (.sl 1 (List.map encI l)))))], mkH [(0, .var [.p (.sl 1 (List.map encI t.L)), .p (pi t.At)])]⟩) ?_
  replace H0 := bind_some H0
  obtain ⟨⟨y, y1⟩, h_0, H0⟩ := H0
  try dsimp only at H0
  replace H0 := req_some H0
  obtain ⟨q_1, H0⟩ := H0
  refine lok_rt (Env.of E0 [⟨some 9, 48, [.one (.ptr 0 0), .one (.p (pi (l.length : Int)))], [.var [.p (.sl 1 (List.map encI t.L)), .p (pi t.At)]], [.one (.p (pi y))], [some (.var [.p (.sl 1 (List.map encI y1.L)), .p (pi y1.At)])], True, fun _ => ok_make_Tape_Next t (l.length : Int) (y, y1) h_0, []⟩]) (⟨12, mkS [(4, .x (.one (.p (pi (ix l y)))))], mkH [(0, .var [.p (.sl 1 (List.map encI y1.L)), .p (pi y1.At)])]⟩) ?_
  refine lok_ret ?_
  obtain rfl := Option.some.inj H0
  try simp only [thenL, blockL]
  exact fin_au _ (.inr rfl) [0] (⟨12, mkS [(4, .x (.one (.p (pi (ix l y)))))], mkH [(0, .var [.p (.sl 1 (List.map encI y1.L)), .p (pi y1.At)])]⟩) rfl rfl imp_au
set_option maxHeartbeats 4000000 in
theorem ok_make_Tape_Ratio (t : make_Tape) (r_ : api_Ratio × make_Tape) (H0 : make_Tape_Ratio t = some r_) : CallOK Tryd.prog 19 [.one (.ptr 0 0)] [.var [.p (.sl 1 (List.map encI t.L)), .p (pi t.At)]] [.agg [.p (pi r_.1.Num), .p (pi r_.1.Den)]] [some (.var [.p (.sl 1 (List.map encI r_.2.L)), .p (pi r_.2.At)])] := by
  refine callOK (n := 31) (rs := [.cell 2 24]) (nb := 1) (V := [0]) Tryd.func19 rfl (by kernel_rfl) rfl rfl rfl rfl (Nat.le_of_ble_eq_true rfl) (by decide) ?_
  unfold make_Tape_Ratio at H0
  refine lok_rt E0 (⟨31, mkS [(0, .x (.one (.ptr 0 0))), (2, .x (.one (.ptr 102 0)))], mkH [(0, .var [.p (.sl 1 (List.map encI t.L)), .p (pi t.At)]), (102, .var [.p (pi (0 : Int)), .p (pi (0 : Int))])]⟩) ?_
  replace H0 := bind_some H0
  obtain ⟨⟨y, y1⟩, h_0, H0⟩ := H0
  try dsimp only at H0
  replace H0 := bind_some H0
  obtain ⟨⟨y2, y3⟩, h_1, H0⟩ := H0
  try dsimp only at H0
  refine lok_rt (Env.of E0 [⟨some 8, 22, [.one (.ptr 0 0), .one (.p (pi (-9 : Int))), .one (.p (pi (9 : Int)))], [.var [.p (.sl 1 (List.map encI t.L)), .p (pi t.At)]], [.one (.p (pi y))], [some (.var [.p (.sl 1 (List.map encI y1.L)), .p (pi y1.At)])], True, fun _ => ok_make_Tape_Range t (-9 : Int) (9 : Int) (y, y1) h_0, []⟩,
      ⟨some 10, 22, [.one (.ptr 0 0), .one (.p (pi (1 : Int))), .one (.p (pi (9 : Int)))], [.var [.p (.sl 1 (List.map encI y1.L)), .p (pi y1.At)]], [.one (.p (pi y2))], [some (.var [.p (.sl 1 (List.map encI y3.L)), .p (pi y3.At)])], True, fun _ => ok_make_Tape_Range y1 (1 : Int) (9 : Int) (y2, y3) h_1, []⟩]) (⟨31, mkS [(0, .x (.one (.ptr 0 0))), (2, .x (.one (.ptr 102 0))), (3, .x (.one (.p (pi y)))), (4, .x (.one (.p (pi y2))))], mkH [(0, .var [.p (.sl 1 (List.map encI y3.L)), .p (pi y3.At)]), (102, .var [.p (pi (0 : Int)), .p (pi (0 : Int))])]⟩) ?_
  refine lok_join (fun x_ : Int × (List Int) × Int => make_Tape_Ratio_j2 y2 x_.1 x_.2.1 x_.2.2 = some r_) (fun x_ => ⟨31, mkS [(0, .x (.one (.ptr 0 0))), (2, .x (.one (.ptr 102 0))), (3, .x (.one (.p (pi x_.1)))), (4, .x (.one (.p (pi y2))))], mkH [(0, .var [.p (.sl 1 (List.map encI x_.2.1)), .p (pi x_.2.2)]), (102, .var [.p (pi (0 : Int)), .p (pi (0 : Int))])]⟩) ?hymake_Tape_Ratio_j2 ?hxmake_Tape_Ratio_j2
  case hymake_Tape_Ratio_j2 =>
    rintro ⟨num, t1, t2⟩ H0
    try dsimp only at H0 ⊢
    unfold make_Tape_Ratio_j2 at H0
    refine lok_join (fun x_ : Int × (List Int) × Int => make_Tape_Ratio_j1 num x_.1 x_.2.1 x_.2.2 = some r_) (fun x_ => ⟨31, mkS [(2, .x (.one (.ptr 102 0))), (3, .x (.one (.p (pi num)))), (4, .x (.one (.p (pi x_.1))))], mkH [(0, .var [.p (.sl 1 (List.map encI x_.2.1)), .p (pi x_.2.2)]), (102, .var [.p (pi (0 : Int)), .p (pi (0 : Int))])]⟩) ?hymake_Tape_Ratio_j1 ?hxmake_Tape_Ratio_j1
    case hymake_Tape_Ratio_j1 =>
      rintro ⟨den, t3, t4⟩ H0
      try dsimp only at H0 ⊢
      unfold make_Tape_Ratio_j1 at H0
      replace H0 := bind_some H0
      obtain ⟨⟨y4, y5⟩, h_2, H0⟩ := H0
      try dsimp only at H0
      refine lok_rt (Env.of E0 [⟨some 24, 44, [.one (.p (pi num)), .one (.p (pi den))], [], [.agg [.p (pi y4.Num), .p (pi y4.Den)], .one (.p (pi y5))], [], True, fun _ => ok_ref01_New num den (y4, y5) h_2, []⟩]) (⟨31, mkS [(2, .x (.one (.ptr 102 0))), (5, .x (.one (.ptr 105 0))), (6, .x (.one (.p (pi y5))))], mkH [(0, .var [.p (.sl 1 (List.map encI t3)), .p (pi t4)]), (102, .var [.p (pi (0 : Int)), .p (pi (0 : Int))]), (105, .var [.p (pi y4.Num), .p (pi y4.Den)])]⟩) ?_
      refine lok_seq ?_
      refine lok_rt E0 (⟨31, mkS [(2, .x (.one (.ptr 102 0))), (5, .x (.one (.ptr 105 0))), (28, .x (.one (.p (.val (.bool (y5 != (0 : Int)))))))], mkH [(0, .var [.p (.sl 1 (List.map encI t3)), .p (pi t4)]), (102, .var [.p (pi (0 : Int)), .p (pi (0 : Int))]), (105, .var [.p (pi y4.Num), .p (pi y4.Den)])]⟩) ?_
      refine lok_c (y5 != (0 : Int)) ?_ ?_
      · intro b_3
        replace H0 := cpos H0 b_3
        refine lok_rt E0 (⟨31, mkS [(2, .x (.one (.ptr 102 0)))], mkH [(0, .var [.p (.sl 1 (List.map encI t3)), .p (pi t4)]), (102, .var [.p (pi (1 : Int)), .p (pi (1 : Int))])]⟩) ?_
        refine lok_ret ?_
        obtain rfl := Option.some.inj H0
        try simp only [thenL, blockL]
        exact fin_au _ (.inr rfl) [0] (⟨31, mkS [(2, .x (.one (.ptr 102 0)))], mkH [(0, .var [.p (.sl 1 (List.map encI t3)), .p (pi t4)]), (102, .var [.p (pi (1 : Int)), .p (pi (1 : Int))])]⟩) rfl rfl imp_au
      · intro b_3
        replace H0 := cneg H0 b_3
        refine lok_skip ?_
        try simp only [thenL, blockL, ↓reduceIte, reduceCtorEq]
        refine lok_rt E0 (⟨31, mkS [(2, .x (.one (.ptr 102 0)))], mkH [(0, .var [.p (.sl 1 (List.map encI t3)), .p (pi t4)]), (102, .var [.p (pi y4.Num), .p (pi y4.Den)])]⟩) ?_
        refine lok_ret ?_
        obtain rfl := Option.some.inj H0
        try simp only [thenL, blockL]
        exact fin_au _ (.inr rfl) [0] (⟨31, mkS [(2, .x (.one (.ptr 102 0)))], mkH [(0, .var [.p (.sl 1 (List.map encI t3)), .p (pi t4)]), (102, .var [.p (pi y4.Num), .p (pi y4.Den)])]⟩) rfl rfl imp_au
    case hxmake_Tape_Ratio_j1 =>
      replace H0 := bind_some H0
      obtain ⟨⟨y6, y7⟩, h_4, H0⟩ := H0
      try dsimp only at H0
      refine lok_rt (Env.of E0 [⟨some 17, 20, [.one (.ptr 0 0), .one (.p (pi (4 : Int)))], [.var [.p (.sl 1 (List.map encI t1)), .p (pi t2)]], [.one (.p (.val (.bool y6)))], [some (.var [.p (.sl 1 (List.map encI y7.L)), .p (pi y7.At)])], True, fun _ => ok_make_Tape_One (make_Tape.mk t1 t2) (4 : Int) (y6, y7) h_4, []⟩]) (⟨31, mkS [(0, .x (.one (.ptr 0 0))), (2, .x (.one (.ptr 102 0))), (3, .x (.one (.p (pi num)))), (4, .x (.one (.p (pi y2)))), (17, .x (.one (.p (.val (.bool y6)))))], mkH [(0, .var [.p (.sl 1 (List.map encI y7.L)), .p (pi y7.At)]), (102, .var [.p (pi (0 : Int)), .p (pi (0 : Int))])]⟩) ?_
      refine lok_c y6 ?_ ?_
      · intro b_6
        replace H0 := cpos H0 b_6
        replace H0 := bind_some H0
        obtain ⟨⟨y8, y9⟩, h_5, H0⟩ := H0
        try dsimp only at H0
        refine lok_rl (Env.of E0 [⟨some 20, 47, [.one (.ptr 0 0), .one (.p (.sl 1 (List.map encI ([(1152921504606846976 : Int), (1152921504606846975 : Int), (576460752303423488 : Int), (1073741824 : Int), (1000000000 : Int), (1000000007 : Int), (432345564227567616 : Int), (1152921504606846869 : Int)]))))], [.var [.p (.sl 1 (List.map encI y7.L)), .p (pi y7.At)]], [.one (.p (pi y8))], [some (.var [.p (.sl 1 (List.map encI y9.L)), .p (pi y9.At)])], True, fun _ => ok_make_Tape_Pick y7 ([(1152921504606846976 : Int), (1152921504606846975 : Int), (576460752303423488 : Int), (1073741824 : Int), (1000000000 : Int), (1000000007 : Int), (432345564227567616 : Int), (1152921504606846869 : Int)]) (y8, y9) h_5, []⟩]) (⟨31, mkS [(2, .x (.one (.ptr 102 0))), (3, .x (.one (.p (pi num)))), (4, .x (.one (.p (pi y8))))], mkH [(0, .var [.p (.sl 1 (List.map encI y9.L)), .p (pi y9.At)]), (102, .var [.p (pi (0 : Int)), .p (pi (0 : Int))])]⟩) ?_
        try simp only [thenL, blockL, ↓reduceIte, reduceCtorEq]
        exact ⟨(y8, y9.L, y9.At), H0, imp_au⟩
      · intro b_6
        replace H0 := cneg H0 b_6
        refine lok_skip ?_
        try simp only [thenL, blockL, ↓reduceIte, reduceCtorEq]
        exact ⟨(y2, y7.L, y7.At), H0, imp_au⟩
  case hxmake_Tape_Ratio_j2 =>
    replace H0 := bind_some H0
    obtain ⟨⟨y10, y11⟩, h_7, H0⟩ := H0
    try dsimp only at H0
    refine lok_rt (Env.of E0 [⟨some 12, 20, [.one (.ptr 0 0), .one (.p (pi (4 : Int)))], [.var [.p (.sl 1 (List.map encI y3.L)), .p (pi y3.At)]], [.one (.p (.val (.bool y10)))], [some (.var [.p (.sl 1 (List.map encI y11.L)), .p (pi y11.At)])], True, fun _ => ok_make_Tape_One y3 (4 : Int) (y10, y11) h_7, []⟩]) (⟨31, mkS [(0, .x (.one (.ptr 0 0))), (2, .x (.one (.ptr 102 0))), (3, .x (.one (.p (pi y)))), (4, .x (.one (.p (pi y2)))), (12, .x (.one (.p (.val (.bool y10)))))], mkH [(0, .var [.p (.sl 1 (List.map encI y11.L)), .p (pi y11.At)]), (102, .var [.p (pi (0 : Int)), .p (pi (0 : Int))])]⟩) ?_
    refine lok_c y10 ?_ ?_
    · intro b_9
      replace H0 := cpos H0 b_9
      replace H0 := bind_some H0
      obtain ⟨⟨y12, y13⟩, h_8, H0⟩ := H0
      try dsimp only at H0
      refine lok_rl (Env.of E0 [⟨some 15, 47, [.one (.ptr 0 0), .one (.p (.sl 1 (List.map encI ([(1152921504606846976 : Int), (1152921504606846975 : Int), (-1152921504606846976 : Int), (576460752303423488 : Int), (1073741824 : Int), (3486784401 : Int), (-1000000007 : Int), (1152921504606846883 : Int)]))))], [.var [.p (.sl 1 (List.map encI y11.L)), .p (pi y11.At)]], [.one (.p (pi y12))], [some (.var [.p (.sl 1 (List.map encI y13.L)), .p (pi y13.At)])], True, fun _ => ok_make_Tape_Pick y11 ([(1152921504606846976 : Int), (1152921504606846975 : Int), (-1152921504606846976 : Int), (576460752303423488 : Int), (1073741824 : Int), (3486784401 : Int), (-1000000007 : Int), (1152921504606846883 : Int)]) (y12, y13) h_8, []⟩]) (⟨31, mkS [(0, .x (.one (.ptr 0 0))), (2, .x (.one (.ptr 102 0))), (3, .x (.one (.p (pi y12)))), (4, .x (.one (.p (pi y2))))], mkH [(0, .var [.p (.sl 1 (List.map encI y13.L)), .p (pi y13.At)]), (102, .var [.p (pi (0 : Int)), .p (pi (0 : Int))])]⟩) ?_
      try simp only [thenL, blockL, ↓reduceIte, reduceCtorEq]
      exact ⟨(y12, y13.L, y13.At), H0, imp_au⟩
    · intro b_9
      replace H0 := cneg H0 b_9
      refine lok_skip ?_
      try simp only [thenL, blockL, ↓reduceIte, reduceCtorEq]
      exact ⟨(y, y11.L, y11.At), H0, imp_au⟩
theorem ok_make_Tape_Wild (t : make_Tape) (r_ : Int × make_Tape) (H0 : make_Tape_Wild t = some r_) : CallOK Tryd.prog 49 [.one (.ptr 0 0)] [.var [.p (.sl 1 (List.map encI t.L)), .p (pi t.At)]] [.one (.p (pi r_.1))] [some (.var [.p (.sl 1 (List.map encI r_.2.L)), .p (pi r_.2.At)])] := by
  refine callOK (n := 6) (rs := [.tmp 2]) (nb := 1) (V := [0]) Tryd.func49 rfl (by kernel_rfl) rfl rfl rfl rfl (Nat.le_of_ble_eq_true rfl) (by decide) ?_
  unfold make_Tape_Wild at H0
  refine lok_rt E0 (⟨6, mkS [(0, .x (.one (.ptr 0 0)))], mkH [(0, .var [.p (.sl 1 (List.map encI t.L)), .p (pi t.At)])]⟩) ?_
  replace H0 := bind_some H0
  obtain ⟨⟨y, y1⟩, h_0, H0⟩ := H0
  try dsimp only at H0
  refine lok_rt (Env.of E0 [⟨some 5, 47, [.one (.ptr 0 0), .one (.p (.sl 1 (List.map encI ([(-1 : Int), (0 : Int), (1 : Int), (2 : Int), (31 : Int), (32 : Int), (99 : Int), (100 : Int), (200 : Int), (201 : Int), (9999 : Int), (10000 : Int), (1000000 : Int), (1000001 : Int), (1152921504606846976 : Int), (1152921504606846977 : Int), (-1152921504606846976 : Int), (9223372036854775807 : Int), (-9223372036854775808 : Int)]))))], [.var [.p (.sl 1 (List.map encI t.L)), .p (pi t.At)]], [.one (.p (pi y))], [some (.var [.p (.sl 1 (List.map encI y1.L)), .p (pi y1.At)])], True, fun _ => ok_make_Tape_Pick t ([(-1 : Int), (0 : Int), (1 : Int), (2 : Int), (31 : Int), (32 : Int), (99 : Int), (100 : Int), (200 : Int), (201 : Int), (9999 : Int), (10000 : Int), (1000000 : Int), (1000001 : Int), (1152921504606846976 : Int), (1152921504606846977 : Int), (-1152921504606846976 : Int), (9223372036854775807 : Int), (-9223372036854775808 : Int)]) (y, y1) h_0, []⟩]) (⟨6, mkS [(2, .x (.one (.p (pi y))))], mkH [(0, .var [.p (.sl 1 (List.map encI y1.L)), .p (pi y1.At)])]⟩) ?_
  refine lok_ret ?_
  obtain rfl := Option.some.inj H0
  try simp only [thenL, blockL]
  exact fin_au _ (.inr rfl) [0] (⟨6, mkS [(2, .x (.one (.p (pi y))))], mkH [(0, .var [.p (.sl 1 (List.map encI y1.L)), .p (pi y1.At)])]⟩) rfl rfl imp_au
theorem ok_make_Tape_Spoil (t : make_Tape) (x : Int) (n : Int) (r_ : Int × make_Tape) (H0 : make_Tape_Spoil t x n = some r_) : CallOK Tryd.prog 21 [.one (.ptr 0 0), .one (.p (pi x)), .one (.p (pi n))] [.var [.p (.sl 1 (List.map encI t.L)), .p (pi t.At)]] [.one (.p (pi r_.1))] [some (.var [.p (.sl 1 (List.map encI r_.2.L)), .p (pi r_.2.At)])] := by
  refine callOK (n := 17) (rs := [.tmp 6]) (nb := 1) (V := [0]) Tryd.func21 rfl (by kernel_rfl) rfl rfl rfl rfl (Nat.le_of_ble_eq_true rfl) (by decide) ?_
  unfold make_Tape_Spoil at H0
  refine lok_rt E0 (⟨17, mkS [(0, .x (.one (.ptr 0 0))), (1, .x (.one (.p (pi x)))), (2, .x (.one (.p (pi n))))], mkH [(0, .var [.p (.sl 1 (List.map encI t.L)), .p (pi t.At)])]⟩) ?_
  refine lok_seq ?_
  rcases bcases (decide ((0 : Int) < n)) with g_0_0 | g_0_0
  · replace H0 := cpos H0 g_0_0
    replace H0 := bind_some H0
    obtain ⟨⟨y, y1⟩, h_0, H0⟩ := H0
    try dsimp only at H0
    refine lok_rtg (Env.of E0 [⟨some 12, 20, [.one (.ptr 0 0), .one (.p (pi n))], [.var [.p (.sl 1 (List.map encI t.L)), .p (pi t.At)]], [.one (.p (.val (.bool y)))], [some (.var [.p (.sl 1 (List.map encI y1.L)), .p (pi y1.At)])], True, fun _ => ok_make_Tape_One t n (y, y1) h_0, []⟩]) g_0_0 (⟨17, mkS [(0, .x (.one (.ptr 0 0))), (1, .x (.one (.p (pi x)))), (13, .x (.one (.p (.val (.bool y)))))], mkH [(0, .var [.p (.sl 1 (List.map encI y1.L)), .p (pi y1.At)])]⟩) ?_
    refine lok_c y ?_ ?_
    · intro b_2
      replace H0 := cpos H0 b_2
      replace H0 := bind_some H0
      obtain ⟨⟨y2, y3⟩, h_1, H0⟩ := H0
      try dsimp only at H0
      refine lok_rt (Env.of E0 [⟨some 15, 49, [.one (.ptr 0 0)], [.var [.p (.sl 1 (List.map encI y1.L)), .p (pi y1.At)]], [.one (.p (pi y2))], [some (.var [.p (.sl 1 (List.map encI y3.L)), .p (pi y3.At)])], True, fun _ => ok_make_Tape_Wild y1 (y2, y3) h_1, []⟩]) (⟨17, mkS [(6, .x (.one (.p (pi y2))))], mkH [(0, .var [.p (.sl 1 (List.map encI y3.L)), .p (pi y3.At)])]⟩) ?_
      refine lok_ret ?_
      obtain rfl := Option.some.inj H0
      try simp only [thenL, blockL]
      exact fin_au _ (.inr rfl) [0] (⟨17, mkS [(6, .x (.one (.p (pi y2))))], mkH [(0, .var [.p (.sl 1 (List.map encI y3.L)), .p (pi y3.At)])]⟩) rfl rfl imp_au
    · intro b_2
      replace H0 := cneg H0 b_2
      refine lok_skip ?_
      try simp only [thenL, blockL, ↓reduceIte, reduceCtorEq]
      refine lok_rt E0 (⟨17, mkS [(6, .x (.one (.p (pi x))))], mkH [(0, .var [.p (.sl 1 (List.map encI y1.L)), .p (pi y1.At)])]⟩) ?_
      refine lok_ret ?_
      obtain rfl := Option.some.inj H0
      try simp only [thenL, blockL]
      exact fin_au _ (.inr rfl) [0] (⟨17, mkS [(6, .x (.one (.p (pi x))))], mkH [(0, .var [.p (.sl 1 (List.map encI y1.L)), .p (pi y1.At)])]⟩) rfl rfl imp_au
  · replace H0 := cneg H0 g_0_0
    refine lok_rtg E0 g_0_0 (⟨17, mkS [(0, .x (.one (.ptr 0 0))), (1, .x (.one (.p (pi x)))), (13, .x (.one (.p (.val (.bool false)))))], mkH [(0, .var [.p (.sl 1 (List.map encI t.L)), .p (pi t.At)])]⟩) ?_
    refine lok_c false ?_ ?_
    · intro h; exact absurd h (by decide)
    · intro _
      refine lok_skip ?_
      try simp only [thenL, blockL, ↓reduceIte, reduceCtorEq]
      refine lok_rt E0 (⟨17, mkS [(6, .x (.one (.p (pi x))))], mkH [(0, .var [.p (.sl 1 (List.map encI t.L)), .p (pi t.At)])]⟩) ?_
      refine lok_ret ?_
      obtain rfl := Option.some.inj H0
      try simp only [thenL, blockL]
      exact fin_au _ (.inr rfl) [0] (⟨17, mkS [(6, .x (.one (.p (pi x))))], mkH [(0, .var [.p (.sl 1 (List.map encI t.L)), .p (pi t.At)])]⟩) rfl rfl imp_au
theorem ok_make_Tape_Loose (t : make_Tape) (r_ : api_Ratio × make_Tape) (H0 : make_Tape_Loose t = some r_) : CallOK Tryd.prog 7 [.one (.ptr 0 0)] [.var [.p (.sl 1 (List.map encI t.L)), .p (pi t.At)]] [.agg [.p (pi r_.1.Num), .p (pi r_.1.Den)]] [some (.var [.p (.sl 1 (List.map encI r_.2.L)), .p (pi r_.2.At)])] := by
  refine callOK (n := 18) (rs := [.cell 2 24]) (nb := 1) (V := [0]) Tryd.func7 rfl (by kernel_rfl) rfl rfl rfl rfl (Nat.le_of_ble_eq_true rfl) (by decide) ?_
  unfold make_Tape_Loose at H0
  refine lok_rt E0 (⟨18, mkS [(0, .x (.one (.ptr 0 0))), (2, .x (.one (.ptr 102 0)))], mkH [(0, .var [.p (.sl 1 (List.map encI t.L)), .p (pi t.At)]), (102, .var [.p (pi (0 : Int)), .p (pi (0 : Int))])]⟩) ?_
  replace H0 := bind_some H0
  obtain ⟨⟨y, y1⟩, h_0, H0⟩ := H0
  try dsimp only at H0
  refine lok_rt (Env.of E0 [⟨some 5, 19, [.one (.ptr 0 0)], [.var [.p (.sl 1 (List.map encI t.L)), .p (pi t.At)]], [.agg [.p (pi y.Num), .p (pi y.Den)]], [some (.var [.p (.sl 1 (List.map encI y1.L)), .p (pi y1.At)])], True, fun _ => ok_make_Tape_Ratio t (y, y1) h_0, []⟩]) (⟨18, mkS [(0, .x (.one (.ptr 0 0))), (2, .x (.one (.ptr 102 0))), (3, .x (.one (.ptr 103 0)))], mkH [(0, .var [.p (.sl 1 (List.map encI y1.L)), .p (pi y1.At)]), (102, .var [.p (pi (0 : Int)), .p (pi (0 : Int))]), (103, .var [.p (pi y.Num), .p (pi y.Den)])]⟩) ?_
  refine lok_seq ?_
  replace H0 := bind_some H0
  obtain ⟨⟨y2, y3⟩, h_1, H0⟩ := H0
  try dsimp only at H0
  refine lok_rt (Env.of E0 [⟨some 7, 20, [.one (.ptr 0 0), .one (.p (pi (3 : Int)))], [.var [.p (.sl 1 (List.map encI y1.L)), .p (pi y1.At)]], [.one (.p (.val (.bool y2)))], [some (.var [.p (.sl 1 (List.map encI y3.L)), .p (pi y3.At)])], True, fun _ => ok_make_Tape_One y1 (3 : Int) (y2, y3) h_1, []⟩]) (⟨18, mkS [(0, .x (.one (.ptr 0 0))), (2, .x (.one (.ptr 102 0))), (3, .x (.one (.ptr 103 0))), (7, .x (.one (.p (.val (.bool y2)))))], mkH [(0, .var [.p (.sl 1 (List.map encI y3.L)), .p (pi y3.At)]), (102, .var [.p (pi (0 : Int)), .p (pi (0 : Int))]), (103, .var [.p (pi y.Num), .p (pi y.Den)])]⟩) ?_
  refine lok_c y2 ?_ ?_
  · intro b_6
    replace H0 := cpos H0 b_6
    replace H0 := bind_some H0
    obtain ⟨⟨y4, y5⟩, h_2, H0⟩ := H0
    try dsimp only at H0
    replace H0 := bind_some H0
    obtain ⟨⟨y6, y7⟩, h_3, H0⟩ := H0
    try dsimp only at H0
    replace H0 := bind_some H0
    obtain ⟨⟨y8, y9⟩, h_4, H0⟩ := H0
    try dsimp only at H0
    replace H0 := bind_some H0
    obtain ⟨⟨y10, y11⟩, h_5, H0⟩ := H0
    try dsimp only at H0
    refine lok_rt (Env.of E0 [⟨some 10, 22, [.one (.ptr 0 0), .one (.p (pi (-8 : Int))), .one (.p (pi (8 : Int)))], [.var [.p (.sl 1 (List.map encI y3.L)), .p (pi y3.At)]], [.one (.p (pi y4))], [some (.var [.p (.sl 1 (List.map encI y5.L)), .p (pi y5.At)])], True, fun _ => ok_make_Tape_Range y3 (-8 : Int) (8 : Int) (y4, y5) h_2, []⟩,
      ⟨some 11, 21, [.one (.ptr 0 0), .one (.p (pi y4)), .one (.p (pi (3 : Int)))], [.var [.p (.sl 1 (List.map encI y5.L)), .p (pi y5.At)]], [.one (.p (pi y6))], [some (.var [.p (.sl 1 (List.map encI y7.L)), .p (pi y7.At)])], True, fun _ => ok_make_Tape_Spoil y5 y4 (3 : Int) (y6, y7) h_3, []⟩,
      ⟨some 14, 22, [.one (.ptr 0 0), .one (.p (pi (-1 : Int))), .one (.p (pi (8 : Int)))], [.var [.p (.sl 1 (List.map encI y7.L)), .p (pi y7.At)]], [.one (.p (pi y8))], [some (.var [.p (.sl 1 (List.map encI y9.L)), .p (pi y9.At)])], True, fun _ => ok_make_Tape_Range y7 (-1 : Int) (8 : Int) (y8, y9) h_4, []⟩,
      ⟨some 15, 21, [.one (.ptr 0 0), .one (.p (pi y8)), .one (.p (pi (3 : Int)))], [.var [.p (.sl 1 (List.map encI y9.L)), .p (pi y9.At)]], [.one (.p (pi y10))], [some (.var [.p (.sl 1 (List.map encI y11.L)), .p (pi y11.At)])], True, fun _ => ok_make_Tape_Spoil y9 y8 (3 : Int) (y10, y11) h_5, []⟩]) (⟨18, mkS [(2, .x (.one (.ptr 102 0)))], mkH [(0, .var [.p (.sl 1 (List.map encI y11.L)), .p (pi y11.At)]), (102, .var [.p (pi y6), .p (pi y10)])]⟩) ?_
    refine lok_ret ?_
    obtain rfl := Option.some.inj H0
    try simp only [thenL, blockL]
    exact fin_au _ (.inr rfl) [0] (⟨18, mkS [(2, .x (.one (.ptr 102 0)))], mkH [(0, .var [.p (.sl 1 (List.map encI y11.L)), .p (pi y11.At)]), (102, .var [.p (pi y6), .p (pi y10)])]⟩) rfl rfl imp_au
  · intro b_6
    replace H0 := cneg H0 b_6
    refine lok_skip ?_
    try simp only [thenL, blockL, ↓reduceIte, reduceCtorEq]
    refine lok_rt E0 (⟨18, mkS [(2, .x (.one (.ptr 102 0)))], mkH [(0, .var [.p (.sl 1 (List.map encI y3.L)), .p (pi y3.At)]), (102, .var [.p (pi y.Num), .p (pi y.Den)])]⟩) ?_
    refine lok_ret ?_
    obtain rfl := Option.some.inj H0
    try simp only [thenL, blockL]
    exact fin_au _ (.inr rfl) [0] (⟨18, mkS [(2, .x (.one (.ptr 102 0)))], mkH [(0, .var [.p (.sl 1 (List.map encI y3.L)), .p (pi y3.At)]), (102, .var [.p (pi y.Num), .p (pi y.Den)])]⟩) rfl rfl imp_au
theorem ok_ratio_Valid (a : api_Ratio) (r_ : Bool) (H0 : ratio_Valid a = some r_) : CallOK Tryd.prog 23 [.agg [.p (pi a.Num), .p (pi a.Den)]] [] [.one (.p (.val (.bool r_)))] [] := by
  refine callOK (n := 29) (rs := [.tmp 2]) (nb := 0) (V := []) Tryd.func23 rfl (by kernel_rfl) rfl rfl rfl rfl (Nat.le_of_ble_eq_true rfl) (by decide) ?_
  unfold ratio_Valid at H0
  refine lok_rt E0 (⟨29, mkS [(1, .x (.one (.ptr 101 0)))], mkH [(101, .var [.p (pi a.Num), .p (pi a.Den)])]⟩) ?_
  refine lok_seq ?_
  refine lok_rt E0 (⟨29, mkS [(1, .x (.one (.ptr 101 0))), (20, .x (.one (.p (.val (.bool ((((decide (a.Den < (1 : Int))) || (decide ((1152921504606846976 : Int) < a.Den))) || (decide (a.Num < (-1152921504606846976 : Int)))) || (decide ((1152921504606846976 : Int) < a.Num))))))))], mkH [(101, .var [.p (pi a.Num), .p (pi a.Den)])]⟩) ?_
  refine lok_c ((((decide (a.Den < (1 : Int))) || (decide ((1152921504606846976 : Int) < a.Den))) || (decide (a.Num < (-1152921504606846976 : Int)))) || (decide ((1152921504606846976 : Int) < a.Num))) ?_ ?_
  · intro b_2
    replace H0 := cpos H0 b_2
    refine lok_rt E0 (⟨29, mkS [(2, .x (.one (.p (.val (.bool false)))))], mkH []⟩) ?_
    refine lok_ret ?_
    obtain rfl := Option.some.inj H0
    try simp only [thenL, blockL]
    exact fin_au _ (.inr rfl) [] (⟨29, mkS [(2, .x (.one (.p (.val (.bool false)))))], mkH []⟩) rfl rfl imp_au
  · intro b_2
    replace H0 := cneg H0 b_2
    refine lok_skip ?_
    try simp only [thenL, blockL, ↓reduceIte, reduceCtorEq]
    replace H0 := bind_some H0
    obtain ⟨y, h_0, H0⟩ := H0
    replace H0 := bind_some H0
    obtain ⟨y1, h_1, H0⟩ := H0
    refine lok_dt (Env.of E0 [⟨some 23, 25, [.one (.p (pi a.Num))], [], [.one (.p (.val (.int .u64 y)))], [], True, fun _ => ok_ratio_magnitude a.Num y h_0, []⟩,
      ⟨some 27, 50, [.one (.p (.val (.int .u64 y))), .one (.p (.val (.int .u64 (IntKind.u64.wrap a.Den))))], [], [.one (.p (.val (.int .u64 y1)))], [], True, fun _ => ok_ratio_gcd y (IntKind.u64.wrap a.Den) y1 h_1, []⟩]) 6 (⟨29, mkS [(2, .x (.one (.p (.val (.bool (y1 == (1 : Int)))))))], mkH []⟩) (by kernel_rfl) (by kernel_rfl) ?_
    refine lok_ret ?_
    obtain rfl := Option.some.inj H0
    try simp only [thenL, blockL]
    exact fin_au _ (.inr rfl) [] (⟨29, mkS [(2, .x (.one (.p (.val (.bool (y1 == (1 : Int)))))))], mkH []⟩) rfl rfl imp_au
theorem ok_ratio_power (n : Int) (r_ : Int) (H0 : ratio_power n = some r_) : CallOK Tryd.prog 24 [.one (.p (pi n))] [] [.one (.p (.val (.int .u64 r_)))] [] := by
  refine callOK (n := 11) (rs := [.tmp 2]) (nb := 0) (V := []) Tryd.func24 rfl (by kernel_rfl) rfl rfl rfl rfl (Nat.le_of_ble_eq_true rfl) (by decide) ?_
  unfold ratio_power at H0
  refine lok_rt E0 (⟨11, mkS [(0, .x (.one (.p (pi n))))], mkH []⟩) ?_
  refine lok_rt E0 (⟨11, mkS [(0, .x (.one (.p (pi n)))), (3, .x (.one (.p (.val (.int .u64 (1 : Int))))))], mkH []⟩) ?_
  refine lok_join (fun x_ : Int => ratio_power_j1 x_ = some r_) (fun x_ => ⟨11, mkS [(3, .x (.one (.p (.val (.int .u64 x_)))))], mkH []⟩) ?hyratio_power_j1 ?hxratio_power_j1
  case hyratio_power_j1 =>
    rintro p H0
    try dsimp only at H0 ⊢
    unfold ratio_power_j1 at H0
    refine lok_rt E0 (⟨11, mkS [(2, .x (.one (.p (.val (.int .u64 p)))))], mkH []⟩) ?_
    refine lok_ret ?_
    obtain rfl := Option.some.inj H0
    try simp only [thenL, blockL]
    exact fin_au _ (.inr rfl) [] (⟨11, mkS [(2, .x (.one (.p (.val (.int .u64 p)))))], mkH []⟩) rfl rfl imp_au
  case hxratio_power_j1 =>
    refine lok_rt E0 (⟨11, mkS [(3, .x (.one (.p (.val (.int .u64 (1 : Int)))))), (4, .x (.one (.p (pi n)))), (5, .x (.one (.p (pi (0 : Int)))))], mkH []⟩) ?_
    refine lok_block ?_
    replace H0 := bind_some H0
    obtain ⟨v_0, hv_0, H0⟩ := H0
    refine lok_iter (fun x_ => ⟨11, mkS [(3, .x (.one (.p (.val (.int .u64 x_.1))))), (4, .x (.one (.p (pi n)))), (5, .x (.one (.p (pi x_.2))))], mkH []⟩) hv_0 imp_au ?_
    · rintro ⟨p1, v⟩ o_1 H1 k_1
      unfold ratio_power_l2 at H1
      try dsimp only at H1 ⊢
      refine lok_rt E0 (⟨11, mkS [(3, .x (.one (.p (.val (.int .u64 p1))))), (4, .x (.one (.p (pi n)))), (5, .x (.one (.p (pi v)))), (6, .x (.one (.p (.val (.bool (decide (v < n)))))))], mkH []⟩) ?_
      refine lok_seq ?_
      refine lok_c (decide (v < n)) ?_ ?_
      · intro b_1
        replace H1 := cpos H1 b_1
        refine lok_skip ?_
        try simp only [thenL, blockL, ↓reduceIte, reduceCtorEq]
        refine lok_seq ?_
        refine lok_block ?_
        refine lok_rl E0 (⟨11, mkS [(3, .x (.one (.p (.val (.int .u64 (IntKind.u64.wrap (p1 * (10 : Int)))))))), (4, .x (.one (.p (pi n)))), (5, .x (.one (.p (pi v))))], mkH []⟩) ?_
        try simp only [thenL, blockL, ↓reduceIte, reduceCtorEq]
        refine lok_rl E0 (⟨11, mkS [(3, .x (.one (.p (.val (.int .u64 (IntKind.u64.wrap (p1 * (10 : Int)))))))), (4, .x (.one (.p (pi n)))), (5, .x (.one (.p (pi (IntKind.i64.wrap (v + (1 : Int)))))))], mkH []⟩) ?_
        try simp only [thenL, blockL, ↓reduceIte, reduceCtorEq]
        exact ⟨((IntKind.u64.wrap (p1 * (10 : Int))), (IntKind.i64.wrap (v + (1 : Int)))), (Option.some.inj H1).symm, imp_au⟩
      · intro b_1
        replace H1 := cneg H1 b_1
        refine lok_exit ?_
        try simp only [thenL, blockL, ↓reduceIte, reduceCtorEq]
        have e_1 := k_1 _ (Option.some.inj H1).symm
        subst e_1
        try dsimp only at H0
        try simp only [thenL, blockL, ↓reduceIte, reduceCtorEq]
        exact ⟨p1, H0, imp_au⟩
theorem ok_ratio_product (a : Int) (b : Int) (r_ : ratio_wide) (H0 : ratio_product a b = some r_) : CallOK Tryd.prog 26 [.one (.p (.val (.int .u64 a))), .one (.p (.val (.int .u64 b)))] [] [.agg [.p (.val (.int .u64 r_.hi)), .p (.val (.int .u64 r_.lo))]] [] := by
  refine callOK (n := 16) (rs := [.cell 4 46]) (nb := 0) (V := []) Tryd.func26 rfl (by kernel_rfl) rfl rfl rfl rfl (Nat.le_of_ble_eq_true rfl) (by decide) ?_
  unfold ratio_product at H0
  refine lok_rt E0 (⟨16, mkS [(0, .x (.one (.p (.val (.int .u64 a))))), (1, .x (.one (.p (.val (.int .u64 b))))), (4, .x (.one (.ptr 104 0)))], mkH [(104, .var [.p (.val (.int .u64 (0 : Int))), .p (.val (.int .u64 (0 : Int)))])]⟩) ?_
  replace H0 := bind_some H0
  obtain ⟨⟨y, y1⟩, h_0, H0⟩ := H0
  try dsimp only at H0
  refine lok_rt (Env.of E0 [⟨some 10, 51, [.one (.p (.val (.int .u64 a))), .one (.p (.val (.int .u64 b)))], [], [.one (.p (.val (.int .u64 y))), .one (.p (.val (.int .u64 y1)))], [], True, fun _ => ok_bits_Mul64 a b (y, y1) h_0, []⟩]) (⟨16, mkS [(4, .x (.one (.ptr 104 0))), (5, .x (.one (.p (.val (.int .u64 y))))), (6, .x (.one (.p (.val (.int .u64 y1)))))], mkH [(104, .var [.p (.val (.int .u64 (0 : Int))), .p (.val (.int .u64 (0 : Int)))])]⟩) ?_
  refine lok_rt E0 (⟨16, mkS [(4, .x (.one (.ptr 104 0)))], mkH [(104, .var [.p (.val (.int .u64 y)), .p (.val (.int .u64 y1))])]⟩) ?_
  refine lok_ret ?_
  obtain rfl := Option.some.inj H0
  try simp only [thenL, blockL]
  exact fin_au _ (.inr rfl) [] (⟨16, mkS [(4, .x (.one (.ptr 104 0)))], mkH [(104, .var [.p (.val (.int .u64 y)), .p (.val (.int .u64 y1))])]⟩) rfl rfl imp_au
set_option maxHeartbeats 4000000 in
theorem ok_ratio_Decimal (a : api_Ratio) (digits : Int) (r_ : Str) (H0 : ratio_Decimal a digits = some r_) : CallOK Tryd.prog 9 [.agg [.p (pi a.Num), .p (pi a.Den)], .one (.p (pi digits))] [] [.one (.p (.val (.string (bs r_))))] [] := by
  refine callOK (n := 114) (rs := [.tmp 4]) (nb := 0) (V := []) Tryd.func9 rfl (by kernel_rfl) rfl rfl rfl rfl (Nat.le_of_ble_eq_true rfl) (by decide) ?_
  unfold ratio_Decimal at H0
  refine lok_rt E0 (⟨114, mkS [(1, .x (.one (.p (pi digits)))), (2, .x (.one (.ptr 102 0)))], mkH [(102, .var [.p (pi a.Num), .p (pi a.Den)])]⟩) ?_
  refine lok_seq ?_
  replace H0 := bind_some H0
  obtain ⟨y, h_0, H0⟩ := H0
  refine lok_rt (Env.of E0 [⟨some 16, 23, [.agg [.p (pi a.Num), .p (pi a.Den)]], [], [.one (.p (.val (.bool y)))], [], True, fun _ => ok_ratio_Valid a y h_0, []⟩]) (⟨114, mkS [(1, .x (.one (.p (pi digits)))), (2, .x (.one (.ptr 102 0))), (25, .x (.one (.p (.val (.bool (((!y) || (decide (digits < (0 : Int)))) || (decide ((9 : Int) < digits))))))))], mkH [(102, .var [.p (pi a.Num), .p (pi a.Den)])]⟩) ?_
  refine lok_c (((!y) || (decide (digits < (0 : Int)))) || (decide ((9 : Int) < digits))) ?_ ?_
  · intro b_23
    replace H0 := cpos H0 b_23
    refine lok_rt E0 (⟨114, mkS [(4, .x (.one (.p (.val (.string (bs ([] : Str)))))))], mkH []⟩) ?_
    refine lok_ret ?_
    obtain rfl := Option.some.inj H0
    try simp only [thenL, blockL]
    exact fin_au _ (.inr rfl) [] (⟨114, mkS [(4, .x (.one (.p (.val (.string (bs ([] : Str)))))))], mkH []⟩) rfl rfl imp_au
  · intro b_23
    replace H0 := cneg H0 b_23
    refine lok_skip ?_
    try simp only [thenL, blockL, ↓reduceIte, reduceCtorEq]
    replace H0 := bind_some H0
    obtain ⟨y1, h_1, H0⟩ := H0
    refine lok_dt (Env.of E0 [⟨some 30, 24, [.one (.p (pi digits))], [], [.one (.p (.val (.int .u64 y1)))], [], True, fun _ => ok_ratio_power digits y1 h_1, []⟩]) 5 (⟨114, mkS [(1, .x (.one (.p (pi digits)))), (2, .x (.one (.ptr 102 0))), (5, .x (.one (.p (.val (.int .u64 (IntKind.u64.wrap a.Den)))))), (6, .x (.one (.p (.val (.int .u64 y1)))))], mkH [(102, .var [.p (pi a.Num), .p (pi a.Den)])]⟩) (by kernel_rfl) (by kernel_rfl) ?_
    replace H0 := bind_some H0
    obtain ⟨y2, h_2, H0⟩ := H0
    replace H0 := req_some H0
    obtain ⟨q_21, H0⟩ := H0
    replace H0 := bind_some H0
    obtain ⟨y3, h_3, H0⟩ := H0
    replace H0 := req_some H0
    obtain ⟨q_22, H0⟩ := H0
    refine lok_dt (Env.of E0 [⟨some 33, 25, [.one (.p (pi a.Num))], [], [.one (.p (.val (.int .u64 y2)))], [], True, fun _ => ok_ratio_magnitude a.Num y2 h_2, []⟩,
      ⟨some 38, 25, [.one (.p (pi a.Num))], [], [.one (.p (.val (.int .u64 y3)))], [], True, fun _ => ok_ratio_magnitude a.Num y3 h_3, []⟩]) 11 (⟨114, mkS [(1, .x (.one (.p (pi digits)))), (2, .x (.one (.ptr 102 0))), (5, .x (.one (.p (.val (.int .u64 (IntKind.u64.wrap a.Den)))))), (6, .x (.one (.p (.val (.int .u64 y1))))), (7, .x (.one (.p (.val (.int .u64 (IntKind.u64.wrap (Int.tdiv y2 (IntKind.u64.wrap a.Den)))))))), (8, .x (.one (.p (.val (.int .u64 (Int.tmod y3 (IntKind.u64.wrap a.Den)))))))], mkH [(102, .var [.p (pi a.Num), .p (pi a.Den)])]⟩) (by kernel_rfl) (by kernel_rfl) ?_
    replace H0 := bind_some H0
    obtain ⟨y4, h_4, H0⟩ := H0
    refine lok_rt (Env.of E0 [⟨some 43, 26, [.one (.p (.val (.int .u64 (Int.tmod y3 (IntKind.u64.wrap a.Den))))), .one (.p (.val (.int .u64 y1)))], [], [.agg [.p (.val (.int .u64 y4.hi)), .p (.val (.int .u64 y4.lo))]], [], True, fun _ => ok_ratio_product (Int.tmod y3 (IntKind.u64.wrap a.Den)) y1 y4 h_4, []⟩]) (⟨114, mkS [(1, .x (.one (.p (pi digits)))), (2, .x (.one (.ptr 102 0))), (5, .x (.one (.p (.val (.int .u64 (IntKind.u64.wrap a.Den)))))), (6, .x (.one (.p (.val (.int .u64 y1))))), (7, .x (.one (.p (.val (.int .u64 (IntKind.u64.wrap (Int.tdiv y2 (IntKind.u64.wrap a.Den)))))))), (9, .x (.one (.ptr 109 0)))], mkH [(102, .var [.p (pi a.Num), .p (pi a.Den)]), (109, .var [.p (.val (.int .u64 y4.hi)), .p (.val (.int .u64 y4.lo))])]⟩) ?_
    replace H0 := bind_some H0
    obtain ⟨y5, h_5, H0⟩ := H0
    replace H0 := bind_some H0
    obtain ⟨y6, h_6, H0⟩ := H0
    refine lok_dt (Env.of E0 [⟨some 46, 27, [.agg [.p (.val (.int .u64 y4.hi)), .p (.val (.int .u64 y4.lo))], .one (.p (.val (.int .u64 (IntKind.u64.wrap a.Den))))], [], [.agg [.p (.val (.int .u64 y5.hi)), .p (.val (.int .u64 y5.lo))]], [], True, fun _ => ok_ratio_wide_over y4 (IntKind.u64.wrap a.Den) y5 h_5, []⟩,
      ⟨some 50, 28, [.agg [.p (.val (.int .u64 y4.hi)), .p (.val (.int .u64 y4.lo))], .one (.p (.val (.int .u64 (IntKind.u64.wrap a.Den))))], [], [.one (.p (.val (.int .u64 y6)))], [], True, fun _ => ok_ratio_wide_mod y4 (IntKind.u64.wrap a.Den) y6 h_6, []⟩]) 7 (⟨114, mkS [(1, .x (.one (.p (pi digits)))), (2, .x (.one (.ptr 102 0))), (5, .x (.one (.p (.val (.int .u64 (IntKind.u64.wrap a.Den)))))), (6, .x (.one (.p (.val (.int .u64 y1))))), (7, .x (.one (.p (.val (.int .u64 (IntKind.u64.wrap (Int.tdiv y2 (IntKind.u64.wrap a.Den)))))))), (10, .x (.one (.p (.val (.int .u64 y5.lo))))), (11, .x (.one (.p (.val (.int .u64 y6)))))], mkH [(102, .var [.p (pi a.Num), .p (pi a.Den)])]⟩) (by kernel_rfl) (by kernel_rfl) ?_
    refine lok_rt E0 (⟨114, mkS [(1, .x (.one (.p (pi digits)))), (2, .x (.one (.ptr 102 0))), (5, .x (.one (.p (.val (.int .u64 (IntKind.u64.wrap a.Den)))))), (6, .x (.one (.p (.val (.int .u64 y1))))), (7, .x (.one (.p (.val (.int .u64 (IntKind.u64.wrap (Int.tdiv y2 (IntKind.u64.wrap a.Den)))))))), (10, .x (.one (.p (.val (.int .u64 y5.lo))))), (11, .x (.one (.p (.val (.int .u64 y6))))), (12, .x (.one (.p (.val (.bool ((Int.tmod y5.lo (2 : Int)) == (1 : Int)))))))], mkH [(102, .var [.p (pi a.Num), .p (pi a.Den)])]⟩) ?_
    refine lok_join (fun x_ : Bool => ratio_Decimal_j7 a digits y1 y2 y5 y6 x_ = some r_) (fun x_ => ⟨114, mkS [(1, .x (.one (.p (pi digits)))), (2, .x (.one (.ptr 102 0))), (5, .x (.one (.p (.val (.int .u64 (IntKind.u64.wrap a.Den)))))), (6, .x (.one (.p (.val (.int .u64 y1))))), (7, .x (.one (.p (.val (.int .u64 (IntKind.u64.wrap (Int.tdiv y2 (IntKind.u64.wrap a.Den)))))))), (10, .x (.one (.p (.val (.int .u64 y5.lo))))), (11, .x (.one (.p (.val (.int .u64 y6))))), (12, .x (.one (.p (.val (.bool x_)))))], mkH [(102, .var [.p (pi a.Num), .p (pi a.Den)])]⟩) ?hyratio_Decimal_j7 ?hxratio_Decimal_j7
    case hyratio_Decimal_j7 =>
      rintro odd H0
      try dsimp only at H0 ⊢
      unfold ratio_Decimal_j7 at H0
      refine lok_join (fun x_ : Int => ratio_Decimal_j6 a digits y1 y2 x_ = some r_) (fun x_ => ⟨114, mkS [(1, .x (.one (.p (pi digits)))), (2, .x (.one (.ptr 102 0))), (6, .x (.one (.p (.val (.int .u64 y1))))), (7, .x (.one (.p (.val (.int .u64 (IntKind.u64.wrap (Int.tdiv y2 (IntKind.u64.wrap a.Den)))))))), (10, .x (.one (.p (.val (.int .u64 x_)))))], mkH [(102, .var [.p (pi a.Num), .p (pi a.Den)])]⟩) ?hyratio_Decimal_j6 ?hxratio_Decimal_j6
      case hyratio_Decimal_j6 =>
        rintro places H0
        try dsimp only at H0 ⊢
        unfold ratio_Decimal_j6 at H0
        refine lok_join (fun x_ : Int × Int => ratio_Decimal_j5 a digits x_.1 x_.2 = some r_) (fun x_ => ⟨114, mkS [(1, .x (.one (.p (pi digits)))), (2, .x (.one (.ptr 102 0))), (7, .x (.one (.p (.val (.int .u64 x_.1))))), (10, .x (.one (.p (.val (.int .u64 x_.2)))))], mkH [(102, .var [.p (pi a.Num), .p (pi a.Den)])]⟩) ?hyratio_Decimal_j5 ?hxratio_Decimal_j5
        case hyratio_Decimal_j5 =>
          rintro ⟨whole, places1⟩ H0
          try dsimp only at H0 ⊢
          unfold ratio_Decimal_j5 at H0
          replace H0 := bind_some H0
          obtain ⟨y7, h_7, H0⟩ := H0
          refine lok_rt (Env.of E0 [⟨some 85, 29, [.one (.p (.val (.int .u64 whole))), .one (.p (pi (10 : Int)))], [], [.one (.p (.val (.string (bs y7))))], [], True, fun _ => ok_strconv_FormatUint whole (10 : Int) y7 h_7, []⟩]) (⟨114, mkS [(1, .x (.one (.p (pi digits)))), (2, .x (.one (.ptr 102 0))), (7, .x (.one (.p (.val (.int .u64 whole))))), (10, .x (.one (.p (.val (.int .u64 places1))))), (13, .x (.one (.p (.val (.string (bs y7))))))], mkH [(102, .var [.p (pi a.Num), .p (pi a.Den)])]⟩) ?_
          refine lok_join (fun x_ : Str => ratio_Decimal_j2 a whole places1 x_ = some r_) (fun x_ => ⟨114, mkS [(2, .x (.one (.ptr 102 0))), (7, .x (.one (.p (.val (.int .u64 whole))))), (10, .x (.one (.p (.val (.int .u64 places1))))), (13, .x (.one (.p (.val (.string (bs x_))))))], mkH [(102, .var [.p (pi a.Num), .p (pi a.Den)])]⟩) ?hyratio_Decimal_j2 ?hxratio_Decimal_j2
          case hyratio_Decimal_j2 =>
            rintro text H0
            try dsimp only at H0 ⊢
            unfold ratio_Decimal_j2 at H0
            refine lok_join (fun x_ : Str => ratio_Decimal_j1 x_ = some r_) (fun x_ => ⟨114, mkS [(13, .x (.one (.p (.val (.string (bs x_))))))], mkH []⟩) ?hyratio_Decimal_j1 ?hxratio_Decimal_j1
            case hyratio_Decimal_j1 =>
              rintro text1 H0
              try dsimp only at H0 ⊢
              unfold ratio_Decimal_j1 at H0
              refine lok_rt E0 (⟨114, mkS [(4, .x (.one (.p (.val (.string (bs text1))))))], mkH []⟩) ?_
              refine lok_ret ?_
              obtain rfl := Option.some.inj H0
              try simp only [thenL, blockL]
              exact fin_au _ (.inr rfl) [] (⟨114, mkS [(4, .x (.one (.p (.val (.string (bs text1))))))], mkH []⟩) rfl rfl imp_au
            case hxratio_Decimal_j1 =>
              refine lok_rt E0 (⟨114, mkS [(13, .x (.one (.p (.val (.string (bs text)))))), (110, .x (.one (.p (.val (.bool ((decide (a.Num < (0 : Int))) && ((whole != (0 : Int)) || (places1 != (0 : Int)))))))))], mkH []⟩) ?_
              refine lok_c ((decide (a.Num < (0 : Int))) && ((whole != (0 : Int)) || (places1 != (0 : Int)))) ?_ ?_
              · intro b_9
                replace H0 := cpos H0 b_9
                replace H0 := req_some H0
                obtain ⟨q_8, H0⟩ := H0
                refine lok_rl E0 (⟨114, mkS [(13, .x (.one (.p (.val (.string (bs (([45] : Str) ++ text)))))))], mkH []⟩) ?_
                try simp only [thenL, blockL, ↓reduceIte, reduceCtorEq]
                exact ⟨(([45] : Str) ++ text), H0, imp_au⟩
              · intro b_9
                replace H0 := cneg H0 b_9
                refine lok_skip ?_
                try simp only [thenL, blockL, ↓reduceIte, reduceCtorEq]
                exact ⟨text, H0, imp_au⟩
          case hxratio_Decimal_j2 =>
            refine lok_rt E0 (⟨114, mkS [(1, .x (.one (.p (pi digits)))), (2, .x (.one (.ptr 102 0))), (7, .x (.one (.p (.val (.int .u64 whole))))), (10, .x (.one (.p (.val (.int .u64 places1))))), (13, .x (.one (.p (.val (.string (bs y7)))))), (87, .x (.one (.p (.val (.bool (decide ((0 : Int) < digits)))))))], mkH [(102, .var [.p (pi a.Num), .p (pi a.Den)])]⟩) ?_
            refine lok_c (decide ((0 : Int) < digits)) ?_ ?_
            · intro b_16
              replace H0 := cpos H0 b_16
              replace H0 := bind_some H0
              obtain ⟨y8, h_10, H0⟩ := H0
              refine lok_rt (Env.of E0 [⟨some 89, 29, [.one (.p (.val (.int .u64 places1))), .one (.p (pi (10 : Int)))], [], [.one (.p (.val (.string (bs y8))))], [], True, fun _ => ok_strconv_FormatUint places1 (10 : Int) y8 h_10, []⟩]) (⟨114, mkS [(1, .x (.one (.p (pi digits)))), (2, .x (.one (.ptr 102 0))), (7, .x (.one (.p (.val (.int .u64 whole))))), (10, .x (.one (.p (.val (.int .u64 places1))))), (13, .x (.one (.p (.val (.string (bs y7)))))), (14, .x (.one (.p (.val (.string (bs y8))))))], mkH [(102, .var [.p (pi a.Num), .p (pi a.Den)])]⟩) ?_
              refine lok_join (fun x_ : Str => ratio_Decimal_j3 a whole places1 y7 x_ = some r_) (fun x_ => ⟨114, mkS [(2, .x (.one (.ptr 102 0))), (7, .x (.one (.p (.val (.int .u64 whole))))), (10, .x (.one (.p (.val (.int .u64 places1))))), (13, .x (.one (.p (.val (.string (bs y7)))))), (14, .x (.one (.p (.val (.string (bs x_))))))], mkH [(102, .var [.p (pi a.Num), .p (pi a.Den)])]⟩) ?hyratio_Decimal_j3 ?hxratio_Decimal_j3
              case hyratio_Decimal_j3 =>
                rintro behind H0
                try dsimp only at H0 ⊢
                unfold ratio_Decimal_j3 at H0
                replace H0 := req_some H0
                obtain ⟨⟨q_11, q_12⟩, H0⟩ := H0
                refine lok_rl E0 (⟨114, mkS [(2, .x (.one (.ptr 102 0))), (7, .x (.one (.p (.val (.int .u64 whole))))), (10, .x (.one (.p (.val (.int .u64 places1))))), (13, .x (.one (.p (.val (.string (bs (y7 ++ (([46] : Str) ++ behind))))))))], mkH [(102, .var [.p (pi a.Num), .p (pi a.Den)])]⟩) ?_
                try simp only [thenL, blockL, ↓reduceIte, reduceCtorEq]
                exact ⟨(y7 ++ (([46] : Str) ++ behind)), H0, imp_au⟩
              case hxratio_Decimal_j3 =>
                refine lok_block ?_
                replace H0 := bind_some H0
                obtain ⟨v_13, hv_13, H0⟩ := H0
                refine lok_iter (fun x_ => ⟨114, mkS [(1, .x (.one (.p (pi digits)))), (2, .x (.one (.ptr 102 0))), (7, .x (.one (.p (.val (.int .u64 whole))))), (10, .x (.one (.p (.val (.int .u64 places1))))), (13, .x (.one (.p (.val (.string (bs y7)))))), (14, .x (.one (.p (.val (.string (bs x_))))))], mkH [(102, .var [.p (pi a.Num), .p (pi a.Den)])]⟩) hv_13 imp_au ?_
                · rintro behind1 o_1 H1 k_1
                  unfold ratio_Decimal_l4 at H1
                  try dsimp only at H1 ⊢
                  refine lok_seq ?_
                  refine lok_rt E0 (⟨114, mkS [(1, .x (.one (.p (pi digits)))), (2, .x (.one (.ptr 102 0))), (7, .x (.one (.p (.val (.int .u64 whole))))), (10, .x (.one (.p (.val (.int .u64 places1))))), (13, .x (.one (.p (.val (.string (bs y7)))))), (14, .x (.one (.p (.val (.string (bs behind1)))))), (93, .x (.one (.p (.val (.bool (decide ((behind1.length : Int) < digits)))))))], mkH [(102, .var [.p (pi a.Num), .p (pi a.Den)])]⟩) ?_
                  refine lok_c (decide ((behind1.length : Int) < digits)) ?_ ?_
                  · intro b_15
                    replace H1 := cpos H1 b_15
                    refine lok_skip ?_
                    try simp only [thenL, blockL, ↓reduceIte, reduceCtorEq]
                    refine lok_block ?_
                    replace H1 := req_some H1
                    obtain ⟨q_14, H1⟩ := H1
                    refine lok_rl E0 (⟨114, mkS [(1, .x (.one (.p (pi digits)))), (2, .x (.one (.ptr 102 0))), (7, .x (.one (.p (.val (.int .u64 whole))))), (10, .x (.one (.p (.val (.int .u64 places1))))), (13, .x (.one (.p (.val (.string (bs y7)))))), (14, .x (.one (.p (.val (.string (bs (([48] : Str) ++ behind1)))))))], mkH [(102, .var [.p (pi a.Num), .p (pi a.Den)])]⟩) ?_
                    try simp only [thenL, blockL, ↓reduceIte, reduceCtorEq]
                    exact ⟨(([48] : Str) ++ behind1), (Option.some.inj H1).symm, imp_au⟩
                  · intro b_15
                    replace H1 := cneg H1 b_15
                    refine lok_exit ?_
                    try simp only [thenL, blockL, ↓reduceIte, reduceCtorEq]
                    have e_1 := k_1 _ (Option.some.inj H1).symm
                    subst e_1
                    try dsimp only at H0
                    try simp only [thenL, blockL, ↓reduceIte, reduceCtorEq]
                    exact ⟨behind1, H0, imp_au⟩
            · intro b_16
              replace H0 := cneg H0 b_16
              refine lok_skip ?_
              try simp only [thenL, blockL, ↓reduceIte, reduceCtorEq]
              exact ⟨y7, H0, imp_au⟩
        case hxratio_Decimal_j5 =>
          refine lok_rt E0 (⟨114, mkS [(1, .x (.one (.p (pi digits)))), (2, .x (.one (.ptr 102 0))), (6, .x (.one (.p (.val (.int .u64 y1))))), (7, .x (.one (.p (.val (.int .u64 (IntKind.u64.wrap (Int.tdiv y2 (IntKind.u64.wrap a.Den)))))))), (10, .x (.one (.p (.val (.int .u64 places))))), (78, .x (.one (.p (.val (.bool (decide (y1 ≤ places)))))))], mkH [(102, .var [.p (pi a.Num), .p (pi a.Den)])]⟩) ?_
          refine lok_c (decide (y1 ≤ places)) ?_ ?_
          · intro b_18
            replace H0 := cpos H0 b_18
            replace H0 := bindV_some H0
            obtain ⟨whole1, a_17, H0⟩ := H0
            refine lok_rlg E0 a_17 (⟨114, mkS [(1, .x (.one (.p (pi digits)))), (2, .x (.one (.ptr 102 0))), (7, .x (.one (.p (.val (.int .u64 whole1))))), (10, .x (.one (.p (.val (.int .u64 (IntKind.u64.wrap (places - y1)))))))], mkH [(102, .var [.p (pi a.Num), .p (pi a.Den)])]⟩) ?_
            try simp only [thenL, blockL, ↓reduceIte, reduceCtorEq]
            exact ⟨(whole1, (IntKind.u64.wrap (places - y1))), H0, imp_au⟩
          · intro b_18
            replace H0 := cneg H0 b_18
            refine lok_skip ?_
            try simp only [thenL, blockL, ↓reduceIte, reduceCtorEq]
            exact ⟨((IntKind.u64.wrap (Int.tdiv y2 (IntKind.u64.wrap a.Den))), places), H0, imp_au⟩
      case hxratio_Decimal_j6 =>
        refine lok_rt E0 (⟨114, mkS [(1, .x (.one (.p (pi digits)))), (2, .x (.one (.ptr 102 0))), (6, .x (.one (.p (.val (.int .u64 y1))))), (7, .x (.one (.p (.val (.int .u64 (IntKind.u64.wrap (Int.tdiv y2 (IntKind.u64.wrap a.Den)))))))), (10, .x (.one (.p (.val (.int .u64 y5.lo))))), (73, .x (.one (.p (.val (.bool ((decide ((IntKind.u64.wrap ((IntKind.u64.wrap a.Den) - y6)) < y6)) || ((y6 == (IntKind.u64.wrap ((IntKind.u64.wrap a.Den) - y6))) && odd)))))))], mkH [(102, .var [.p (pi a.Num), .p (pi a.Den)])]⟩) ?_
        refine lok_c ((decide ((IntKind.u64.wrap ((IntKind.u64.wrap a.Den) - y6)) < y6)) || ((y6 == (IntKind.u64.wrap ((IntKind.u64.wrap a.Den) - y6))) && odd)) ?_ ?_
        · intro b_19
          replace H0 := cpos H0 b_19
          refine lok_rl E0 (⟨114, mkS [(1, .x (.one (.p (pi digits)))), (2, .x (.one (.ptr 102 0))), (6, .x (.one (.p (.val (.int .u64 y1))))), (7, .x (.one (.p (.val (.int .u64 (IntKind.u64.wrap (Int.tdiv y2 (IntKind.u64.wrap a.Den)))))))), (10, .x (.one (.p (.val (.int .u64 (IntKind.u64.wrap (y5.lo + (1 : Int))))))))], mkH [(102, .var [.p (pi a.Num), .p (pi a.Den)])]⟩) ?_
          try simp only [thenL, blockL, ↓reduceIte, reduceCtorEq]
          exact ⟨(IntKind.u64.wrap (y5.lo + (1 : Int))), H0, imp_au⟩
        · intro b_19
          replace H0 := cneg H0 b_19
          refine lok_skip ?_
          try simp only [thenL, blockL, ↓reduceIte, reduceCtorEq]
          exact ⟨y5.lo, H0, imp_au⟩
    case hxratio_Decimal_j7 =>
      refine lok_rt E0 (⟨114, mkS [(1, .x (.one (.p (pi digits)))), (2, .x (.one (.ptr 102 0))), (5, .x (.one (.p (.val (.int .u64 (IntKind.u64.wrap a.Den)))))), (6, .x (.one (.p (.val (.int .u64 y1))))), (7, .x (.one (.p (.val (.int .u64 (IntKind.u64.wrap (Int.tdiv y2 (IntKind.u64.wrap a.Den)))))))), (10, .x (.one (.p (.val (.int .u64 y5.lo))))), (11, .x (.one (.p (.val (.int .u64 y6))))), (12, .x (.one (.p (.val (.bool ((Int.tmod y5.lo (2 : Int)) == (1 : Int))))))), (55, .x (.one (.p (.val (.bool (digits == (0 : Int)))))))], mkH [(102, .var [.p (pi a.Num), .p (pi a.Den)])]⟩) ?_
      refine lok_c (digits == (0 : Int)) ?_ ?_
      · intro b_20
        replace H0 := cpos H0 b_20
        refine lok_rl E0 (⟨114, mkS [(1, .x (.one (.p (pi digits)))), (2, .x (.one (.ptr 102 0))), (5, .x (.one (.p (.val (.int .u64 (IntKind.u64.wrap a.Den)))))), (6, .x (.one (.p (.val (.int .u64 y1))))), (7, .x (.one (.p (.val (.int .u64 (IntKind.u64.wrap (Int.tdiv y2 (IntKind.u64.wrap a.Den)))))))), (10, .x (.one (.p (.val (.int .u64 y5.lo))))), (11, .x (.one (.p (.val (.int .u64 y6))))), (12, .x (.one (.p (.val (.bool ((Int.tmod (IntKind.u64.wrap (Int.tdiv y2 (IntKind.u64.wrap a.Den))) (2 : Int)) == (1 : Int)))))))], mkH [(102, .var [.p (pi a.Num), .p (pi a.Den)])]⟩) ?_
        try simp only [thenL, blockL, ↓reduceIte, reduceCtorEq]
        exact ⟨((Int.tmod (IntKind.u64.wrap (Int.tdiv y2 (IntKind.u64.wrap a.Den))) (2 : Int)) == (1 : Int)), H0, imp_au⟩
      · intro b_20
        replace H0 := cneg H0 b_20
        refine lok_skip ?_
        try simp only [thenL, blockL, ↓reduceIte, reduceCtorEq]
        exact ⟨((Int.tmod y5.lo (2 : Int)) == (1 : Int)), H0, imp_au⟩
theorem ok_law01_RatioDecimals (t : List Int) (digits : Int) (r_ : Bool) (H0 : law01_RatioDecimals t digits = some r_) : CallOK Tryd.prog 3 [.one (.p (.sl 1 (List.map encI t))), .one (.p (pi digits))] [] [.one (.p (.val (.bool r_)))] [] := by
  refine callOK (n := 31) (rs := [.tmp 4]) (nb := 0) (V := []) Tryd.func3 rfl (by kernel_rfl) rfl rfl rfl rfl (Nat.le_of_ble_eq_true rfl) (by decide) ?_
  unfold law01_RatioDecimals at H0
  refine lok_rt E0 (⟨31, mkS [(0, .x (.one (.p (.sl 1 (List.map encI t))))), (1, .x (.one (.p (pi digits))))], mkH []⟩) ?_
  replace H0 := bind_some H0
  obtain ⟨y, h_0, H0⟩ := H0
  replace H0 := bind_some H0
  obtain ⟨⟨y1, y2⟩, h_1, H0⟩ := H0
  try dsimp only at H0
  refine lok_rt (Env.of E0 [⟨some 8, 6, [.one (.p (.sl 1 (List.map encI t)))], [], [.one (.ptr 0 0)], [some (.var [.p (.sl 1 (List.map encI y.L)), .p (pi y.At)])], True, fun _ => ok_make_New t y h_0, []⟩,
      ⟨some 9, 7, [.one (.ptr 0 0)], [.var [.p (.sl 1 (List.map encI y.L)), .p (pi y.At)]], [.agg [.p (pi y1.Num), .p (pi y1.Den)]], [some (.var [.p (.sl 1 (List.map encI y2.L)), .p (pi y2.At)])], True, fun _ => ok_make_Tape_Loose y (y1, y2) h_1, []⟩]) (⟨31, mkS [(1, .x (.one (.p (pi digits)))), (5, .x (.one (.ptr 105 0)))], mkH [(105, .var [.p (pi y1.Num), .p (pi y1.Den)])]⟩) ?_
  replace H0 := bind_some H0
  obtain ⟨y3, h_2, H0⟩ := H0
  refine lok_rt (Env.of E0 [⟨some 11, 8, [.one (.p (pi digits)), .one (.p (pi (10 : Int)))], [], [.one (.p (pi y3))], [], True, fun _ => ok_make_Cut digits (10 : Int) y3 h_2, []⟩]) (⟨31, mkS [(1, .x (.one (.p (pi digits)))), (5, .x (.one (.ptr 105 0))), (6, .x (.one (.p (pi y3))))], mkH [(105, .var [.p (pi y1.Num), .p (pi y1.Den)])]⟩) ?_
  replace H0 := bind_some H0
  obtain ⟨y4, h_3, H0⟩ := H0
  replace H0 := bind_some H0
  obtain ⟨y5, h_4, H0⟩ := H0
  replace H0 := req_some H0
  obtain ⟨⟨q_5, q_6, q_7⟩, H0⟩ := H0
  refine lok_dt (Env.of E0 [⟨some 14, 9, [.agg [.p (pi y1.Num), .p (pi y1.Den)], .one (.p (pi digits))], [], [.one (.p (.val (.string (bs y4))))], [], True, fun _ => ok_ratio_Decimal y1 digits y4 h_3, []⟩,
      ⟨some 17, 10, [.agg [.p (pi y1.Num), .p (pi y1.Den)], .one (.p (pi digits))], [], [.one (.p (.val (.string (bs y5))))], [], True, fun _ => ok_ref01_Decimal y1 digits y5 h_4, []⟩,
      ⟨some 22, 9, [.agg [.p (pi y1.Num), .p (pi y1.Den)], .one (.p (pi y3))], [], [.one (.p (.val (.string (bs ((ratio_Decimal y1 y3).getD default)))))], [], (ratio_Decimal y1 y3).isSome = true, fun h => ok_ratio_Decimal y1 y3 _ (isSome_get h), []⟩,
      ⟨some 25, 10, [.agg [.p (pi y1.Num), .p (pi y1.Den)], .one (.p (pi y3))], [], [.one (.p (.val (.string (bs ((ref01_Decimal y1 y3).getD default)))))], [], (ref01_Decimal y1 y3).isSome = true, fun h => ok_ref01_Decimal y1 y3 _ (isSome_get h), []⟩,
      ⟨some 29, 11, [], [], [.one (.p (.val (.bool ((law01_awake).getD default))))], [], (law01_awake).isSome = true, fun h => ok_law01_awake _ (isSome_get h), []⟩]) 13 (⟨31, mkS [(4, .x (.one (.p (.val (.bool (((y4 == y5) && (((ratio_Decimal y1 y3).getD default) == ((ref01_Decimal y1 y3).getD default))) && ((law01_awake).getD default)))))))], mkH []⟩) (by kernel_rfl) (by kernel_rfl) ?_
  refine lok_ret ?_
  obtain rfl := Option.some.inj H0
  try simp only [thenL, blockL]
  exact fin_au _ (.inr rfl) [] (⟨31, mkS [(4, .x (.one (.p (.val (.bool (((y4 == y5) && (((ratio_Decimal y1 y3).getD default) == ((ref01_Decimal y1 y3).getD default))) && ((law01_awake).getD default)))))))], mkH []⟩) rfl rfl imp_au
theorem ok_ratio_Format (a : api_Ratio) (r_ : Str) (H0 : ratio_Format a = some r_) : CallOK Tryd.prog 12 [.agg [.p (pi a.Num), .p (pi a.Den)]] [] [.one (.p (.val (.string (bs r_))))] [] := by
  refine callOK (n := 20) (rs := [.tmp 2]) (nb := 0) (V := []) Tryd.func12 rfl (by kernel_rfl) rfl rfl rfl rfl (Nat.le_of_ble_eq_true rfl) (by decide) ?_
  unfold ratio_Format at H0
  refine lok_rt E0 (⟨20, mkS [(1, .x (.one (.ptr 101 0)))], mkH [(101, .var [.p (pi a.Num), .p (pi a.Den)])]⟩) ?_
  refine lok_seq ?_
  replace H0 := bind_some H0
  obtain ⟨y, h_0, H0⟩ := H0
  refine lok_rt (Env.of E0 [⟨some 4, 23, [.agg [.p (pi a.Num), .p (pi a.Den)]], [], [.one (.p (.val (.bool y)))], [], True, fun _ => ok_ratio_Valid a y h_0, []⟩]) (⟨20, mkS [(1, .x (.one (.ptr 101 0))), (5, .x (.one (.p (.val (.bool (!y))))))], mkH [(101, .var [.p (pi a.Num), .p (pi a.Den)])]⟩) ?_
  refine lok_c (!y) ?_ ?_
  · intro b_7
    replace H0 := cpos H0 b_7
    refine lok_rt E0 (⟨20, mkS [(2, .x (.one (.p (.val (.string (bs ([] : Str)))))))], mkH []⟩) ?_
    refine lok_ret ?_
    obtain rfl := Option.some.inj H0
    try simp only [thenL, blockL]
    exact fin_au _ (.inr rfl) [] (⟨20, mkS [(2, .x (.one (.p (.val (.string (bs ([] : Str)))))))], mkH []⟩) rfl rfl imp_au
  · intro b_7
    replace H0 := cneg H0 b_7
    refine lok_skip ?_
    try simp only [thenL, blockL, ↓reduceIte, reduceCtorEq]
    refine lok_seq ?_
    refine lok_rt E0 (⟨20, mkS [(1, .x (.one (.ptr 101 0))), (8, .x (.one (.p (.val (.bool (a.Den == (1 : Int)))))))], mkH [(101, .var [.p (pi a.Num), .p (pi a.Den)])]⟩) ?_
    refine lok_c (a.Den == (1 : Int)) ?_ ?_
    · intro b_6
      replace H0 := cpos H0 b_6
      replace H0 := bind_some H0
      obtain ⟨y1, h_1, H0⟩ := H0
      refine lok_rt (Env.of E0 [⟨some 11, 39, [.one (.p (pi a.Num))], [], [.one (.p (.val (.string (bs y1))))], [], True, fun _ => ok_strconv_Itoa a.Num y1 h_1, []⟩]) (⟨20, mkS [(2, .x (.one (.p (.val (.string (bs y1))))))], mkH []⟩) ?_
      refine lok_ret ?_
      obtain rfl := Option.some.inj H0
      try simp only [thenL, blockL]
      exact fin_au _ (.inr rfl) [] (⟨20, mkS [(2, .x (.one (.p (.val (.string (bs y1))))))], mkH []⟩) rfl rfl imp_au
    · intro b_6
      replace H0 := cneg H0 b_6
      refine lok_skip ?_
      try simp only [thenL, blockL, ↓reduceIte, reduceCtorEq]
      replace H0 := bind_some H0
      obtain ⟨y2, h_2, H0⟩ := H0
      replace H0 := req_some H0
      obtain ⟨q_4, H0⟩ := H0
      replace H0 := bind_some H0
      obtain ⟨y3, h_3, H0⟩ := H0
      replace H0 := req_some H0
      obtain ⟨q_5, H0⟩ := H0
      refine lok_dt (Env.of E0 [⟨some 14, 39, [.one (.p (pi a.Num))], [], [.one (.p (.val (.string (bs y2))))], [], True, fun _ => ok_strconv_Itoa a.Num y2 h_2, []⟩,
      ⟨some 18, 39, [.one (.p (pi a.Den))], [], [.one (.p (.val (.string (bs y3))))], [], True, fun _ => ok_strconv_Itoa a.Den y3 h_3, []⟩]) 7 (⟨20, mkS [(2, .x (.one (.p (.val (.string (bs ((y2 ++ ([47] : Str)) ++ y3)))))))], mkH []⟩) (by kernel_rfl) (by kernel_rfl) ?_
      refine lok_ret ?_
      obtain rfl := Option.some.inj H0
      try simp only [thenL, blockL]
      exact fin_au _ (.inr rfl) [] (⟨20, mkS [(2, .x (.one (.p (.val (.string (bs ((y2 ++ ([47] : Str)) ++ y3)))))))], mkH []⟩) rfl rfl imp_au
theorem ok_ref01_Format (a : api_Ratio) (r_ : Str) (H0 : ref01_Format a = some r_) : CallOK Tryd.prog 13 [.agg [.p (pi a.Num), .p (pi a.Den)]] [] [.one (.p (.val (.string (bs r_))))] [] := by
  refine callOK (n := 29) (rs := [.tmp 2]) (nb := 0) (V := []) Tryd.func13 rfl (by kernel_rfl) rfl rfl rfl rfl (Nat.le_of_ble_eq_true rfl) (by decide) ?_
  unfold ref01_Format at H0
  refine lok_rt E0 (⟨29, mkS [(1, .x (.one (.ptr 101 0)))], mkH [(101, .var [.p (pi a.Num), .p (pi a.Den)])]⟩) ?_
  refine lok_seq ?_
  replace H0 := bind_some H0
  obtain ⟨y, h_0, H0⟩ := H0
  refine lok_rt (Env.of E0 [⟨some 5, 15, [.agg [.p (pi a.Num), .p (pi a.Den)]], [], [.one (.p (.val (.bool y)))], [], True, fun _ => ok_ref01_Valid a y h_0, []⟩]) (⟨29, mkS [(1, .x (.one (.ptr 101 0))), (6, .x (.one (.p (.val (.bool (!y))))))], mkH [(101, .var [.p (pi a.Num), .p (pi a.Den)])]⟩) ?_
  refine lok_c (!y) ?_ ?_
  · intro b_10
    replace H0 := cpos H0 b_10
    refine lok_rt E0 (⟨29, mkS [(2, .x (.one (.p (.val (.string (bs ([] : Str)))))))], mkH []⟩) ?_
    refine lok_ret ?_
    obtain rfl := Option.some.inj H0
    try simp only [thenL, blockL]
    exact fin_au _ (.inr rfl) [] (⟨29, mkS [(2, .x (.one (.p (.val (.string (bs ([] : Str)))))))], mkH []⟩) rfl rfl imp_au
  · intro b_10
    replace H0 := cneg H0 b_10
    refine lok_skip ?_
    try simp only [thenL, blockL, ↓reduceIte, reduceCtorEq]
    replace H0 := bind_some H0
    obtain ⟨y1, h_1, H0⟩ := H0
    replace H0 := bind_some H0
    obtain ⟨y2, h_2, H0⟩ := H0
    refine lok_rt (Env.of E0 [⟨some 9, 30, [.one (.p (pi a.Num))], [], [.one (.p (.val (.int .u64 y1)))], [], True, fun _ => ok_ref01_Size a.Num y1 h_1, []⟩,
      ⟨some 11, 36, [.agg [.p (.val (.int .u64 (0 : Int))), .p (.val (.int .u64 y1))]], [], [.one (.p (.val (.string (bs y2))))], [], True, fun _ => ok_ref01_Digits (ref01_Wide.mk (0 : Int) y1) y2 h_2, []⟩]) (⟨29, mkS [(1, .x (.one (.ptr 101 0))), (3, .x (.one (.p (.val (.string (bs y2))))))], mkH [(101, .var [.p (pi a.Num), .p (pi a.Den)])]⟩) ?_
    refine lok_join (fun x_ : Str => ref01_Format_j1 a x_ = some r_) (fun x_ => ⟨29, mkS [(1, .x (.one (.ptr 101 0))), (3, .x (.one (.p (.val (.string (bs x_))))))], mkH [(101, .var [.p (pi a.Num), .p (pi a.Den)])]⟩) ?hyref01_Format_j1 ?hxref01_Format_j1
    case hyref01_Format_j1 =>
      rintro s H0
      try dsimp only at H0 ⊢
      unfold ref01_Format_j1 at H0
      refine lok_seq ?_
      refine lok_rt E0 (⟨29, mkS [(1, .x (.one (.ptr 101 0))), (3, .x (.one (.p (.val (.string (bs s)))))), (19, .x (.one (.p (.val (.bool (a.Den == (1 : Int)))))))], mkH [(101, .var [.p (pi a.Num), .p (pi a.Den)])]⟩) ?_
      refine lok_c (a.Den == (1 : Int)) ?_ ?_
      · intro b_7
        replace H0 := cpos H0 b_7
        refine lok_rt E0 (⟨29, mkS [(2, .x (.one (.p (.val (.string (bs s))))))], mkH []⟩) ?_
        refine lok_ret ?_
        obtain rfl := Option.some.inj H0
        try simp only [thenL, blockL]
        exact fin_au _ (.inr rfl) [] (⟨29, mkS [(2, .x (.one (.p (.val (.string (bs s))))))], mkH []⟩) rfl rfl imp_au
      · intro b_7
        replace H0 := cneg H0 b_7
        refine lok_skip ?_
        try simp only [thenL, blockL, ↓reduceIte, reduceCtorEq]
        replace H0 := req_some H0
        obtain ⟨q_5, H0⟩ := H0
        replace H0 := bind_some H0
        obtain ⟨y3, h_3, H0⟩ := H0
        replace H0 := bind_some H0
        obtain ⟨y4, h_4, H0⟩ := H0
        replace H0 := req_some H0
        obtain ⟨q_6, H0⟩ := H0
        refine lok_rt (Env.of E0 [⟨some 25, 30, [.one (.p (pi a.Den))], [], [.one (.p (.val (.int .u64 y3)))], [], True, fun _ => ok_ref01_Size a.Den y3 h_3, []⟩,
      ⟨some 27, 36, [.agg [.p (.val (.int .u64 (0 : Int))), .p (.val (.int .u64 y3))]], [], [.one (.p (.val (.string (bs y4))))], [], True, fun _ => ok_ref01_Digits (ref01_Wide.mk (0 : Int) y3) y4 h_4, []⟩]) (⟨29, mkS [(2, .x (.one (.p (.val (.string (bs ((s ++ ([47] : Str)) ++ y4)))))))], mkH []⟩) ?_
        refine lok_ret ?_
        obtain rfl := Option.some.inj H0
        try simp only [thenL, blockL]
        exact fin_au _ (.inr rfl) [] (⟨29, mkS [(2, .x (.one (.p (.val (.string (bs ((s ++ ([47] : Str)) ++ y4)))))))], mkH []⟩) rfl rfl imp_au
    case hxref01_Format_j1 =>
      refine lok_rt E0 (⟨29, mkS [(1, .x (.one (.ptr 101 0))), (3, .x (.one (.p (.val (.string (bs y2)))))), (14, .x (.one (.p (.val (.bool (decide (a.Num < (0 : Int))))))))], mkH [(101, .var [.p (pi a.Num), .p (pi a.Den)])]⟩) ?_
      refine lok_c (decide (a.Num < (0 : Int))) ?_ ?_
      · intro b_9
        replace H0 := cpos H0 b_9
        replace H0 := req_some H0
        obtain ⟨q_8, H0⟩ := H0
        refine lok_rl E0 (⟨29, mkS [(1, .x (.one (.ptr 101 0))), (3, .x (.one (.p (.val (.string (bs (([45] : Str) ++ y2)))))))], mkH [(101, .var [.p (pi a.Num), .p (pi a.Den)])]⟩) ?_
        try simp only [thenL, blockL, ↓reduceIte, reduceCtorEq]
        exact ⟨(([45] : Str) ++ y2), H0, imp_au⟩
      · intro b_9
        replace H0 := cneg H0 b_9
        refine lok_skip ?_
        try simp only [thenL, blockL, ↓reduceIte, reduceCtorEq]
        exact ⟨y2, H0, imp_au⟩
theorem ok_ratio_digitsOf (s : Str) (most : Int) (r_ : Int × Bool) (H0 : ratio_digitsOf s most = some r_) : CallOK Tryd.prog 40 [.one (.p (.val (.string (bs s)))), .one (.p (pi most))] [] [.one (.p (.val (.int .u64 r_.1))), .one (.p (.val (.bool r_.2)))] [] := by
  refine callOK (n := 42) (rs := [.tmp 4, .tmp 5]) (nb := 0) (V := []) Tryd.func40 rfl (by kernel_rfl) rfl rfl rfl rfl (Nat.le_of_ble_eq_true rfl) (by decide) ?_
  unfold ratio_digitsOf at H0
  refine lok_rt E0 (⟨42, mkS [(0, .x (.one (.p (.val (.string (bs s)))))), (1, .x (.one (.p (pi most))))], mkH []⟩) ?_
  refine lok_seq ?_
  refine lok_rt E0 (⟨42, mkS [(0, .x (.one (.p (.val (.string (bs s)))))), (16, .x (.one (.p (.val (.bool ((decide ((s.length : Int) < (1 : Int))) || (decide (most < (s.length : Int)))))))))], mkH []⟩) ?_
  refine lok_c ((decide ((s.length : Int) < (1 : Int))) || (decide (most < (s.length : Int)))) ?_ ?_
  · intro b_7
    replace H0 := cpos H0 b_7
    refine lok_rt E0 (⟨42, mkS [(4, .x (.one (.p (.val (.int .u64 (0 : Int)))))), (5, .x (.one (.p (.val (.bool false)))))], mkH []⟩) ?_
    refine lok_ret ?_
    obtain rfl := Option.some.inj H0
    try simp only [thenL, blockL]
    exact fin_au _ (.inr rfl) [] (⟨42, mkS [(4, .x (.one (.p (.val (.int .u64 (0 : Int)))))), (5, .x (.one (.p (.val (.bool false)))))], mkH []⟩) rfl rfl imp_au
  · intro b_7
    replace H0 := cneg H0 b_7
    refine lok_skip ?_
    try simp only [thenL, blockL, ↓reduceIte, reduceCtorEq]
    refine lok_rt E0 (⟨42, mkS [(0, .x (.one (.p (.val (.string (bs s)))))), (6, .x (.one (.p (.val (.int .u64 (0 : Int))))))], mkH []⟩) ?_
    refine lok_join (fun x_ : Int => ratio_digitsOf_j1 x_ = some r_) (fun x_ => ⟨42, mkS [(6, .x (.one (.p (.val (.int .u64 x_)))))], mkH []⟩) ?hyratio_digitsOf_j1 ?hxratio_digitsOf_j1
    case hyratio_digitsOf_j1 =>
      rintro n H0
      try dsimp only at H0 ⊢
      unfold ratio_digitsOf_j1 at H0
      refine lok_rt E0 (⟨42, mkS [(4, .x (.one (.p (.val (.int .u64 n))))), (5, .x (.one (.p (.val (.bool true)))))], mkH []⟩) ?_
      refine lok_ret ?_
      obtain rfl := Option.some.inj H0
      try simp only [thenL, blockL]
      exact fin_au _ (.inr rfl) [] (⟨42, mkS [(4, .x (.one (.p (.val (.int .u64 n))))), (5, .x (.one (.p (.val (.bool true)))))], mkH []⟩) rfl rfl imp_au
    case hxratio_digitsOf_j1 =>
      refine lok_rt E0 (⟨42, mkS [(0, .x (.one (.p (.val (.string (bs s)))))), (6, .x (.one (.p (.val (.int .u64 (0 : Int)))))), (7, .x (.one (.p (pi (0 : Int)))))], mkH []⟩) ?_
      refine lok_block ?_
      replace H0 := bind_some H0
      obtain ⟨v_0, hv_0, H0⟩ := H0
      refine lok_iter (fun x_ => ⟨42, mkS [(0, .x (.one (.p (.val (.string (bs s)))))), (6, .x (.one (.p (.val (.int .u64 x_.1))))), (7, .x (.one (.p (pi x_.2))))], mkH []⟩) hv_0 imp_au ?_
      · rintro ⟨n1, i⟩ o_1 H1 k_1
        unfold ratio_digitsOf_l2 at H1
        try dsimp only at H1 ⊢
        refine lok_seq ?_
        refine lok_rt E0 (⟨42, mkS [(0, .x (.one (.p (.val (.string (bs s)))))), (6, .x (.one (.p (.val (.int .u64 n1))))), (7, .x (.one (.p (pi i)))), (20, .x (.one (.p (.val (.bool (decide (i < (s.length : Int))))))))], mkH []⟩) ?_
        refine lok_c (decide (i < (s.length : Int))) ?_ ?_
        · intro b_6
          replace H1 := cpos H1 b_6
          refine lok_skip ?_
          try simp only [thenL, blockL, ↓reduceIte, reduceCtorEq]
          refine lok_seq ?_
          refine lok_block ?_
          refine lok_seq ?_
          replace H1 := req_some H1
          obtain ⟨⟨q_4, q_5⟩, H1⟩ := H1
          refine lok_rt E0 (⟨42, mkS [(0, .x (.one (.p (.val (.string (bs s)))))), (6, .x (.one (.p (.val (.int .u64 n1))))), (7, .x (.one (.p (pi i)))), (32, .x (.one (.p (.val (.bool ((decide ((sx s i) < (48 : Int))) || (decide ((57 : Int) < (sx s i)))))))))], mkH []⟩) ?_
          refine lok_c ((decide ((sx s i) < (48 : Int))) || (decide ((57 : Int) < (sx s i)))) ?_ ?_
          · intro b_3
            replace H1 := cpos H1 b_3
            refine lok_rt E0 (⟨42, mkS [(4, .x (.one (.p (.val (.int .u64 (0 : Int)))))), (5, .x (.one (.p (.val (.bool false)))))], mkH []⟩) ?_
            refine lok_ret ?_
            try simp only [thenL, blockL, ↓reduceIte, reduceCtorEq]
            have e_1 := k_1 _ (Option.some.inj H1).symm
            subst e_1
            try dsimp only at H0
            obtain rfl := Option.some.inj H0
            try simp only [thenL, blockL]
            exact fin_au _ (.inr rfl) [] (⟨42, mkS [(4, .x (.one (.p (.val (.int .u64 (0 : Int)))))), (5, .x (.one (.p (.val (.bool false)))))], mkH []⟩) rfl rfl imp_au
          · intro b_3
            replace H1 := cneg H1 b_3
            refine lok_skip ?_
            try simp only [thenL, blockL, ↓reduceIte, reduceCtorEq]
            replace H1 := req_some H1
            obtain ⟨q_2, H1⟩ := H1
            replace H1 := bindV_some H1
            obtain ⟨n3, a_1, H1⟩ := H1
            refine lok_rlg E0 a_1 (⟨42, mkS [(0, .x (.one (.p (.val (.string (bs s)))))), (6, .x (.one (.p (.val (.int .u64 n3))))), (7, .x (.one (.p (pi i))))], mkH []⟩) ?_
            try simp only [thenL, blockL, ↓reduceIte, reduceCtorEq]
            refine lok_rl E0 (⟨42, mkS [(0, .x (.one (.p (.val (.string (bs s)))))), (6, .x (.one (.p (.val (.int .u64 n3))))), (7, .x (.one (.p (pi (IntKind.i64.wrap (i + (1 : Int)))))))], mkH []⟩) ?_
            try simp only [thenL, blockL, ↓reduceIte, reduceCtorEq]
            exact ⟨(n3, (IntKind.i64.wrap (i + (1 : Int)))), (Option.some.inj H1).symm, imp_au⟩
        · intro b_6
          replace H1 := cneg H1 b_6
          refine lok_exit ?_
          try simp only [thenL, blockL, ↓reduceIte, reduceCtorEq]
          have e_1 := k_1 _ (Option.some.inj H1).symm
          subst e_1
          try dsimp only at H0
          try simp only [thenL, blockL, ↓reduceIte, reduceCtorEq]
          exact ⟨n1, H0, imp_au⟩
theorem ok_ratio_wide_plus (a : ratio_wide) (b : ratio_wide) (r_ : ratio_wide) (H0 : ratio_wide_plus a b = some r_) : CallOK Tryd.prog 42 [.agg [.p (.val (.int .u64 a.hi)), .p (.val (.int .u64 a.lo))], .agg [.p (.val (.int .u64 b.hi)), .p (.val (.int .u64 b.lo))]] [] [.agg [.p (.val (.int .u64 r_.hi)), .p (.val (.int .u64 r_.lo))]] [] := by
  refine callOK (n := 29) (rs := [.cell 4 46]) (nb := 0) (V := []) Tryd.func42 rfl (by kernel_rfl) rfl rfl rfl rfl (Nat.le_of_ble_eq_true rfl) (by decide) ?_
  unfold ratio_wide_plus at H0
  refine lok_rt E0 (⟨29, mkS [(2, .x (.one (.ptr 102 0))), (3, .x (.one (.ptr 103 0))), (4, .x (.one (.ptr 104 0)))], mkH [(102, .var [.p (.val (.int .u64 a.hi)), .p (.val (.int .u64 a.lo))]), (103, .var [.p (.val (.int .u64 b.hi)), .p (.val (.int .u64 b.lo))]), (104, .var [.p (.val (.int .u64 (0 : Int))), .p (.val (.int .u64 (0 : Int)))])]⟩) ?_
  replace H0 := bind_some H0
  obtain ⟨⟨y, y1⟩, h_0, H0⟩ := H0
  try dsimp only at H0
  refine lok_rt (Env.of E0 [⟨some 14, 56, [.one (.p (.val (.int .u64 a.lo))), .one (.p (.val (.int .u64 b.lo))), .one (.p (.val (.int .u64 (0 : Int))))], [], [.one (.p (.val (.int .u64 y))), .one (.p (.val (.int .u64 y1)))], [], True, fun _ => ok_bits_Add64 a.lo b.lo (0 : Int) (y, y1) h_0, []⟩]) (⟨29, mkS [(2, .x (.one (.ptr 102 0))), (3, .x (.one (.ptr 103 0))), (4, .x (.one (.ptr 104 0))), (5, .x (.one (.p (.val (.int .u64 y))))), (6, .x (.one (.p (.val (.int .u64 y1)))))], mkH [(102, .var [.p (.val (.int .u64 a.hi)), .p (.val (.int .u64 a.lo))]), (103, .var [.p (.val (.int .u64 b.hi)), .p (.val (.int .u64 b.lo))]), (104, .var [.p (.val (.int .u64 (0 : Int))), .p (.val (.int .u64 (0 : Int)))])]⟩) ?_
  replace H0 := bind_some H0
  obtain ⟨⟨y2, y3⟩, h_1, H0⟩ := H0
  try dsimp only at H0
  refine lok_rt (Env.of E0 [⟨some 23, 56, [.one (.p (.val (.int .u64 a.hi))), .one (.p (.val (.int .u64 b.hi))), .one (.p (.val (.int .u64 y1)))], [], [.one (.p (.val (.int .u64 y2))), .one (.p (.val (.int .u64 y3)))], [], True, fun _ => ok_bits_Add64 a.hi b.hi y1 (y2, y3) h_1, []⟩]) (⟨29, mkS [(4, .x (.one (.ptr 104 0))), (5, .x (.one (.p (.val (.int .u64 y))))), (7, .x (.one (.p (.val (.int .u64 y2)))))], mkH [(104, .var [.p (.val (.int .u64 (0 : Int))), .p (.val (.int .u64 (0 : Int)))])]⟩) ?_
  refine lok_rt E0 (⟨29, mkS [(4, .x (.one (.ptr 104 0)))], mkH [(104, .var [.p (.val (.int .u64 y2)), .p (.val (.int .u64 y))])]⟩) ?_
  refine lok_ret ?_
  obtain rfl := Option.some.inj H0
  try simp only [thenL, blockL]
  exact fin_au _ (.inr rfl) [] (⟨29, mkS [(4, .x (.one (.ptr 104 0)))], mkH [(104, .var [.p (.val (.int .u64 y2)), .p (.val (.int .u64 y))])]⟩) rfl rfl imp_au
set_option maxHeartbeats 4000000 in
theorem ok_ratio_Parse (s : Str) (r_ : api_Ratio × Int) (H0 : ratio_Parse s = some r_) : CallOK Tryd.prog 14 [.one (.p (.val (.string (bs s))))] [] [.agg [.p (pi r_.1.Num), .p (pi r_.1.Den)], .one (.p (pi r_.2))] [] := by
  refine callOK (n := 112) (rs := [.cell 2 24, .tmp 3]) (nb := 0) (V := []) Tryd.func14 rfl (by kernel_rfl) rfl rfl rfl rfl (Nat.le_of_ble_eq_true rfl) (by decide) ?_
  unfold ratio_Parse at H0
  refine lok_rt E0 (⟨112, mkS [(0, .x (.one (.p (.val (.string (bs s)))))), (2, .x (.one (.ptr 102 0)))], mkH [(102, .var [.p (pi (0 : Int)), .p (pi (0 : Int))])]⟩) ?_
  refine lok_rt E0 (⟨112, mkS [(0, .x (.one (.p (.val (.string (bs s)))))), (2, .x (.one (.ptr 102 0))), (4, .x (.one (.p (.val (.bool false)))))], mkH [(102, .var [.p (pi (0 : Int)), .p (pi (0 : Int))])]⟩) ?_
  refine lok_join (fun x_ : Str × Bool => ratio_Parse_j3 x_.1 x_.2 = some r_) (fun x_ => ⟨112, mkS [(0, .x (.one (.p (.val (.string (bs x_.1)))))), (2, .x (.one (.ptr 102 0))), (4, .x (.one (.p (.val (.bool x_.2)))))], mkH [(102, .var [.p (pi (0 : Int)), .p (pi (0 : Int))])]⟩) ?hyratio_Parse_j3 ?hxratio_Parse_j3
  case hyratio_Parse_j3 =>
    rintro ⟨s1, neg⟩ H0
    try dsimp only at H0 ⊢
    unfold ratio_Parse_j3 at H0
    refine lok_rt E0 (⟨112, mkS [(0, .x (.one (.p (.val (.string (bs s1)))))), (2, .x (.one (.ptr 102 0))), (4, .x (.one (.p (.val (.bool neg))))), (5, .x (.one (.p (pi (0 : Int)))))], mkH [(102, .var [.p (pi (0 : Int)), .p (pi (0 : Int))])]⟩) ?_
    refine lok_join (fun x_ : Int => ratio_Parse_j1 s1 neg x_ = some r_) (fun x_ => ⟨112, mkS [(0, .x (.one (.p (.val (.string (bs s1)))))), (2, .x (.one (.ptr 102 0))), (4, .x (.one (.p (.val (.bool neg))))), (5, .x (.one (.p (pi x_))))], mkH [(102, .var [.p (pi (0 : Int)), .p (pi (0 : Int))])]⟩) ?hyratio_Parse_j1 ?hxratio_Parse_j1
    case hyratio_Parse_j1 =>
      rintro cut H0
      try dsimp only at H0 ⊢
      unfold ratio_Parse_j1 at H0
      replace H0 := req_some H0
      obtain ⟨q_17, H0⟩ := H0
      replace H0 := bind_some H0
      obtain ⟨⟨y, y1⟩, h_0, H0⟩ := H0
      try dsimp only at H0
      refine lok_rt (Env.of E0 [⟨some 45, 40, [.one (.p (.val (.string (bs (List.take cut.toNat s1))))), .one (.p (pi (19 : Int)))], [], [.one (.p (.val (.int .u64 y))), .one (.p (.val (.bool y1)))], [], True, fun _ => ok_ratio_digitsOf (List.take cut.toNat s1) (19 : Int) (y, y1) h_0, []⟩]) (⟨112, mkS [(0, .x (.one (.p (.val (.string (bs s1)))))), (2, .x (.one (.ptr 102 0))), (4, .x (.one (.p (.val (.bool neg))))), (5, .x (.one (.p (pi cut)))), (6, .x (.one (.p (.val (.int .u64 y))))), (7, .x (.one (.p (.val (.bool y1)))))], mkH [(102, .var [.p (pi (0 : Int)), .p (pi (0 : Int))])]⟩) ?_
      refine lok_seq ?_
      refine lok_rt E0 (⟨112, mkS [(0, .x (.one (.p (.val (.string (bs s1)))))), (2, .x (.one (.ptr 102 0))), (4, .x (.one (.p (.val (.bool neg))))), (5, .x (.one (.p (pi cut)))), (6, .x (.one (.p (.val (.int .u64 y))))), (49, .x (.one (.p (.val (.bool (!y1))))))], mkH [(102, .var [.p (pi (0 : Int)), .p (pi (0 : Int))])]⟩) ?_
      refine lok_c (!y1) ?_ ?_
      · intro b_16
        replace H0 := cpos H0 b_16
        refine lok_rt E0 (⟨112, mkS [(2, .x (.one (.ptr 102 0))), (3, .x (.one (.p (pi (7 : Int)))))], mkH [(102, .var [.p (pi (0 : Int)), .p (pi (0 : Int))])]⟩) ?_
        refine lok_ret ?_
        obtain rfl := Option.some.inj H0
        try simp only [thenL, blockL]
        exact fin_au _ (.inr rfl) [] (⟨112, mkS [(2, .x (.one (.ptr 102 0))), (3, .x (.one (.p (pi (7 : Int)))))], mkH [(102, .var [.p (pi (0 : Int)), .p (pi (0 : Int))])]⟩) rfl rfl imp_au
      · intro b_16
        replace H0 := cneg H0 b_16
        refine lok_skip ?_
        try simp only [thenL, blockL, ↓reduceIte, reduceCtorEq]
        refine lok_seq ?_
        refine lok_rt E0 (⟨112, mkS [(0, .x (.one (.p (.val (.string (bs s1)))))), (2, .x (.one (.ptr 102 0))), (4, .x (.one (.p (.val (.bool neg))))), (5, .x (.one (.p (pi cut)))), (6, .x (.one (.p (.val (.int .u64 y))))), (54, .x (.one (.p (.val (.bool (cut == (s1.length : Int)))))))], mkH [(102, .var [.p (pi (0 : Int)), .p (pi (0 : Int))])]⟩) ?_
        refine lok_c (cut == (s1.length : Int)) ?_ ?_
        · intro b_15
          replace H0 := cpos H0 b_15
          replace H0 := bind_some H0
          obtain ⟨⟨y2, y3⟩, h_1, H0⟩ := H0
          try dsimp only at H0
          refine lok_rt (Env.of E0 [⟨some 59, 41, [.agg [.p (.val (.bool neg)), .p (.val (.int .u64 (0 : Int))), .p (.val (.int .u64 y))], .one (.p (.val (.int .u64 (1 : Int))))], [], [.agg [.p (pi y2.Num), .p (pi y2.Den)], .one (.p (pi y3))], [], True, fun _ => ok_ratio_reduced (ratio_signed.mk neg (ratio_wide.mk (0 : Int) y)) (1 : Int) (y2, y3) h_1, []⟩]) (⟨112, mkS [(2, .x (.one (.ptr 102 0))), (3, .x (.one (.p (pi y3))))], mkH [(102, .var [.p (pi y2.Num), .p (pi y2.Den)])]⟩) ?_
          refine lok_ret ?_
          obtain rfl := Option.some.inj H0
          try simp only [thenL, blockL]
          exact fin_au _ (.inr rfl) [] (⟨112, mkS [(2, .x (.one (.ptr 102 0))), (3, .x (.one (.p (pi y3))))], mkH [(102, .var [.p (pi y2.Num), .p (pi y2.Den)])]⟩) rfl rfl imp_au
        · intro b_15
          replace H0 := cneg H0 b_15
          refine lok_skip ?_
          try simp only [thenL, blockL, ↓reduceIte, reduceCtorEq]
          replace H0 := req_some H0
          obtain ⟨q_14, H0⟩ := H0
          refine lok_rt E0 (⟨112, mkS [(0, .x (.one (.p (.val (.string (bs s1)))))), (2, .x (.one (.ptr 102 0))), (4, .x (.one (.p (.val (.bool neg))))), (5, .x (.one (.p (pi cut)))), (6, .x (.one (.p (.val (.int .u64 y))))), (8, .x (.one (.p (.val (.string (bs (List.drop (IntKind.i64.wrap (cut + (1 : Int))).toNat s1)))))))], mkH [(102, .var [.p (pi (0 : Int)), .p (pi (0 : Int))])]⟩) ?_
          refine lok_seq ?_
          replace H0 := req_some H0
          obtain ⟨q_13, H0⟩ := H0
          refine lok_rt E0 (⟨112, mkS [(2, .x (.one (.ptr 102 0))), (4, .x (.one (.p (.val (.bool neg))))), (6, .x (.one (.p (.val (.int .u64 y))))), (8, .x (.one (.p (.val (.string (bs (List.drop (IntKind.i64.wrap (cut + (1 : Int))).toNat s1))))))), (69, .x (.one (.p (.val (.bool ((sx s1 cut) == (47 : Int)))))))], mkH [(102, .var [.p (pi (0 : Int)), .p (pi (0 : Int))])]⟩) ?_
          refine lok_c ((sx s1 cut) == (47 : Int)) ?_ ?_
          · intro b_12
            replace H0 := cpos H0 b_12
            replace H0 := bind_some H0
            obtain ⟨⟨y4, y5⟩, h_2, H0⟩ := H0
            try dsimp only at H0
            refine lok_rt (Env.of E0 [⟨some 72, 40, [.one (.p (.val (.string (bs (List.drop (IntKind.i64.wrap (cut + (1 : Int))).toNat s1))))), .one (.p (pi (19 : Int)))], [], [.one (.p (.val (.int .u64 y4))), .one (.p (.val (.bool y5)))], [], True, fun _ => ok_ratio_digitsOf (List.drop (IntKind.i64.wrap (cut + (1 : Int))).toNat s1) (19 : Int) (y4, y5) h_2, []⟩]) (⟨112, mkS [(2, .x (.one (.ptr 102 0))), (4, .x (.one (.p (.val (.bool neg))))), (6, .x (.one (.p (.val (.int .u64 y))))), (9, .x (.one (.p (.val (.int .u64 y4))))), (10, .x (.one (.p (.val (.bool y5)))))], mkH [(102, .var [.p (pi (0 : Int)), .p (pi (0 : Int))])]⟩) ?_
            refine lok_seq ?_
            refine lok_rt E0 (⟨112, mkS [(2, .x (.one (.ptr 102 0))), (4, .x (.one (.p (.val (.bool neg))))), (6, .x (.one (.p (.val (.int .u64 y))))), (9, .x (.one (.p (.val (.int .u64 y4))))), (76, .x (.one (.p (.val (.bool (!y5))))))], mkH [(102, .var [.p (pi (0 : Int)), .p (pi (0 : Int))])]⟩) ?_
            refine lok_c (!y5) ?_ ?_
            · intro b_5
              replace H0 := cpos H0 b_5
              refine lok_rt E0 (⟨112, mkS [(2, .x (.one (.ptr 102 0))), (3, .x (.one (.p (pi (7 : Int)))))], mkH [(102, .var [.p (pi (0 : Int)), .p (pi (0 : Int))])]⟩) ?_
              refine lok_ret ?_
              obtain rfl := Option.some.inj H0
              try simp only [thenL, blockL]
              exact fin_au _ (.inr rfl) [] (⟨112, mkS [(2, .x (.one (.ptr 102 0))), (3, .x (.one (.p (pi (7 : Int)))))], mkH [(102, .var [.p (pi (0 : Int)), .p (pi (0 : Int))])]⟩) rfl rfl imp_au
            · intro b_5
              replace H0 := cneg H0 b_5
              refine lok_skip ?_
              try simp only [thenL, blockL, ↓reduceIte, reduceCtorEq]
              refine lok_seq ?_
              refine lok_rt E0 (⟨112, mkS [(2, .x (.one (.ptr 102 0))), (4, .x (.one (.p (.val (.bool neg))))), (6, .x (.one (.p (.val (.int .u64 y))))), (9, .x (.one (.p (.val (.int .u64 y4))))), (79, .x (.one (.p (.val (.bool (y4 == (0 : Int)))))))], mkH [(102, .var [.p (pi (0 : Int)), .p (pi (0 : Int))])]⟩) ?_
              refine lok_c (y4 == (0 : Int)) ?_ ?_
              · intro b_4
                replace H0 := cpos H0 b_4
                refine lok_rt E0 (⟨112, mkS [(2, .x (.one (.ptr 102 0))), (3, .x (.one (.p (pi (2 : Int)))))], mkH [(102, .var [.p (pi (0 : Int)), .p (pi (0 : Int))])]⟩) ?_
                refine lok_ret ?_
                obtain rfl := Option.some.inj H0
                try simp only [thenL, blockL]
                exact fin_au _ (.inr rfl) [] (⟨112, mkS [(2, .x (.one (.ptr 102 0))), (3, .x (.one (.p (pi (2 : Int)))))], mkH [(102, .var [.p (pi (0 : Int)), .p (pi (0 : Int))])]⟩) rfl rfl imp_au
              · intro b_4
                replace H0 := cneg H0 b_4
                refine lok_skip ?_
                try simp only [thenL, blockL, ↓reduceIte, reduceCtorEq]
                replace H0 := bind_some H0
                obtain ⟨⟨y6, y7⟩, h_3, H0⟩ := H0
                try dsimp only at H0
                refine lok_rt (Env.of E0 [⟨some 86, 41, [.agg [.p (.val (.bool neg)), .p (.val (.int .u64 (0 : Int))), .p (.val (.int .u64 y))], .one (.p (.val (.int .u64 y4)))], [], [.agg [.p (pi y6.Num), .p (pi y6.Den)], .one (.p (pi y7))], [], True, fun _ => ok_ratio_reduced (ratio_signed.mk neg (ratio_wide.mk (0 : Int) y)) y4 (y6, y7) h_3, []⟩]) (⟨112, mkS [(2, .x (.one (.ptr 102 0))), (3, .x (.one (.p (pi y7))))], mkH [(102, .var [.p (pi y6.Num), .p (pi y6.Den)])]⟩) ?_
                refine lok_ret ?_
                obtain rfl := Option.some.inj H0
                try simp only [thenL, blockL]
                exact fin_au _ (.inr rfl) [] (⟨112, mkS [(2, .x (.one (.ptr 102 0))), (3, .x (.one (.p (pi y7))))], mkH [(102, .var [.p (pi y6.Num), .p (pi y6.Den)])]⟩) rfl rfl imp_au
          · intro b_12
            replace H0 := cneg H0 b_12
            refine lok_skip ?_
            try simp only [thenL, blockL, ↓reduceIte, reduceCtorEq]
            replace H0 := bind_some H0
            obtain ⟨⟨y8, y9⟩, h_6, H0⟩ := H0
            try dsimp only at H0
            refine lok_rt (Env.of E0 [⟨some 91, 40, [.one (.p (.val (.string (bs (List.drop (IntKind.i64.wrap (cut + (1 : Int))).toNat s1))))), .one (.p (pi (9 : Int)))], [], [.one (.p (.val (.int .u64 y8))), .one (.p (.val (.bool y9)))], [], True, fun _ => ok_ratio_digitsOf (List.drop (IntKind.i64.wrap (cut + (1 : Int))).toNat s1) (9 : Int) (y8, y9) h_6, []⟩]) (⟨112, mkS [(2, .x (.one (.ptr 102 0))), (4, .x (.one (.p (.val (.bool neg))))), (6, .x (.one (.p (.val (.int .u64 y))))), (7, .x (.one (.p (.val (.bool y9))))), (8, .x (.one (.p (.val (.string (bs (List.drop (IntKind.i64.wrap (cut + (1 : Int))).toNat s1))))))), (11, .x (.one (.p (.val (.int .u64 y8)))))], mkH [(102, .var [.p (pi (0 : Int)), .p (pi (0 : Int))])]⟩) ?_
            refine lok_seq ?_
            refine lok_rt E0 (⟨112, mkS [(2, .x (.one (.ptr 102 0))), (4, .x (.one (.p (.val (.bool neg))))), (6, .x (.one (.p (.val (.int .u64 y))))), (8, .x (.one (.p (.val (.string (bs (List.drop (IntKind.i64.wrap (cut + (1 : Int))).toNat s1))))))), (11, .x (.one (.p (.val (.int .u64 y8))))), (95, .x (.one (.p (.val (.bool (!y9))))))], mkH [(102, .var [.p (pi (0 : Int)), .p (pi (0 : Int))])]⟩) ?_
            refine lok_c (!y9) ?_ ?_
            · intro b_11
              replace H0 := cpos H0 b_11
              refine lok_rt E0 (⟨112, mkS [(2, .x (.one (.ptr 102 0))), (3, .x (.one (.p (pi (7 : Int)))))], mkH [(102, .var [.p (pi (0 : Int)), .p (pi (0 : Int))])]⟩) ?_
              refine lok_ret ?_
              obtain rfl := Option.some.inj H0
              try simp only [thenL, blockL]
              exact fin_au _ (.inr rfl) [] (⟨112, mkS [(2, .x (.one (.ptr 102 0))), (3, .x (.one (.p (pi (7 : Int)))))], mkH [(102, .var [.p (pi (0 : Int)), .p (pi (0 : Int))])]⟩) rfl rfl imp_au
            · intro b_11
              replace H0 := cneg H0 b_11
              refine lok_skip ?_
              try simp only [thenL, blockL, ↓reduceIte, reduceCtorEq]
              replace H0 := bind_some H0
              obtain ⟨y10, h_7, H0⟩ := H0
              refine lok_rt (Env.of E0 [⟨some 99, 24, [.one (.p (pi ((List.drop (IntKind.i64.wrap (cut + (1 : Int))).toNat s1).length : Int)))], [], [.one (.p (.val (.int .u64 y10)))], [], True, fun _ => ok_ratio_power ((List.drop (IntKind.i64.wrap (cut + (1 : Int))).toNat s1).length : Int) y10 h_7, []⟩]) (⟨112, mkS [(2, .x (.one (.ptr 102 0))), (4, .x (.one (.p (.val (.bool neg))))), (6, .x (.one (.p (.val (.int .u64 y))))), (11, .x (.one (.p (.val (.int .u64 y8))))), (12, .x (.one (.p (.val (.int .u64 y10)))))], mkH [(102, .var [.p (pi (0 : Int)), .p (pi (0 : Int))])]⟩) ?_
              replace H0 := bind_some H0
              obtain ⟨y11, h_8, H0⟩ := H0
              replace H0 := bind_some H0
              obtain ⟨y12, h_9, H0⟩ := H0
              replace H0 := bind_some H0
              obtain ⟨⟨y13, y14⟩, h_10, H0⟩ := H0
              try dsimp only at H0
              refine lok_rt (Env.of E0 [⟨some 103, 26, [.one (.p (.val (.int .u64 y))), .one (.p (.val (.int .u64 y10)))], [], [.agg [.p (.val (.int .u64 y11.hi)), .p (.val (.int .u64 y11.lo))]], [], True, fun _ => ok_ratio_product y y10 y11 h_8, []⟩,
      ⟨some 106, 42, [.agg [.p (.val (.int .u64 y11.hi)), .p (.val (.int .u64 y11.lo))], .agg [.p (.val (.int .u64 (0 : Int))), .p (.val (.int .u64 y8))]], [], [.agg [.p (.val (.int .u64 y12.hi)), .p (.val (.int .u64 y12.lo))]], [], True, fun _ => ok_ratio_wide_plus y11 (ratio_wide.mk (0 : Int) y8) y12 h_9, []⟩,
      ⟨some 109, 41, [.agg [.p (.val (.bool neg)), .p (.val (.int .u64 y12.hi)), .p (.val (.int .u64 y12.lo))], .one (.p (.val (.int .u64 y10)))], [], [.agg [.p (pi y13.Num), .p (pi y13.Den)], .one (.p (pi y14))], [], True, fun _ => ok_ratio_reduced (ratio_signed.mk neg y12) y10 (y13, y14) h_10, []⟩]) (⟨112, mkS [(2, .x (.one (.ptr 102 0))), (3, .x (.one (.p (pi y14))))], mkH [(102, .var [.p (pi y13.Num), .p (pi y13.Den)])]⟩) ?_
              refine lok_ret ?_
              obtain rfl := Option.some.inj H0
              try simp only [thenL, blockL]
              exact fin_au _ (.inr rfl) [] (⟨112, mkS [(2, .x (.one (.ptr 102 0))), (3, .x (.one (.p (pi y14))))], mkH [(102, .var [.p (pi y13.Num), .p (pi y13.Den)])]⟩) rfl rfl imp_au
    case hxratio_Parse_j1 =>
      refine lok_block ?_
      replace H0 := bind_some H0
      obtain ⟨v_18, hv_18, H0⟩ := H0
      refine lok_iter (fun x_ => ⟨112, mkS [(0, .x (.one (.p (.val (.string (bs s1)))))), (2, .x (.one (.ptr 102 0))), (4, .x (.one (.p (.val (.bool neg))))), (5, .x (.one (.p (pi x_))))], mkH [(102, .var [.p (pi (0 : Int)), .p (pi (0 : Int))])]⟩) hv_18 imp_au ?_
      · rintro cut1 o_1 H1 k_1
        unfold ratio_Parse_l2 at H1
        try dsimp only at H1 ⊢
        refine lok_seq ?_
        replace H1 := req_some H1
        obtain ⟨⟨q_20, q_21⟩, H1⟩ := H1
        refine lok_rt E0 (⟨112, mkS [(0, .x (.one (.p (.val (.string (bs s1)))))), (2, .x (.one (.ptr 102 0))), (4, .x (.one (.p (.val (.bool neg))))), (5, .x (.one (.p (pi cut1)))), (38, .x (.one (.p (.val (.bool (((decide (cut1 < (s1.length : Int))) && ((sx s1 cut1) != (47 : Int))) && ((sx s1 cut1) != (46 : Int))))))))], mkH [(102, .var [.p (pi (0 : Int)), .p (pi (0 : Int))])]⟩) ?_
        refine lok_c (((decide (cut1 < (s1.length : Int))) && ((sx s1 cut1) != (47 : Int))) && ((sx s1 cut1) != (46 : Int))) ?_ ?_
        · intro b_19
          replace H1 := cpos H1 b_19
          refine lok_skip ?_
          try simp only [thenL, blockL, ↓reduceIte, reduceCtorEq]
          refine lok_block ?_
          refine lok_rl E0 (⟨112, mkS [(0, .x (.one (.p (.val (.string (bs s1)))))), (2, .x (.one (.ptr 102 0))), (4, .x (.one (.p (.val (.bool neg))))), (5, .x (.one (.p (pi (IntKind.i64.wrap (cut1 + (1 : Int)))))))], mkH [(102, .var [.p (pi (0 : Int)), .p (pi (0 : Int))])]⟩) ?_
          try simp only [thenL, blockL, ↓reduceIte, reduceCtorEq]
          exact ⟨(IntKind.i64.wrap (cut1 + (1 : Int))), (Option.some.inj H1).symm, imp_au⟩
        · intro b_19
          replace H1 := cneg H1 b_19
          refine lok_exit ?_
          try simp only [thenL, blockL, ↓reduceIte, reduceCtorEq]
          have e_1 := k_1 _ (Option.some.inj H1).symm
          subst e_1
          try dsimp only at H0
          try simp only [thenL, blockL, ↓reduceIte, reduceCtorEq]
          exact ⟨cut1, H0, imp_au⟩
  case hxratio_Parse_j3 =>
    replace H0 := req_some H0
    obtain ⟨q_24, H0⟩ := H0
    refine lok_rt E0 (⟨112, mkS [(0, .x (.one (.p (.val (.string (bs s)))))), (2, .x (.one (.ptr 102 0))), (4, .x (.one (.p (.val (.bool false))))), (20, .x (.one (.p (.val (.bool ((decide ((0 : Int) < (s.length : Int))) && ((sx s (0 : Int)) == (45 : Int))))))))], mkH [(102, .var [.p (pi (0 : Int)), .p (pi (0 : Int))])]⟩) ?_
    refine lok_c ((decide ((0 : Int) < (s.length : Int))) && ((sx s (0 : Int)) == (45 : Int))) ?_ ?_
    · intro b_23
      replace H0 := cpos H0 b_23
      refine lok_rt E0 (⟨112, mkS [(0, .x (.one (.p (.val (.string (bs s)))))), (2, .x (.one (.ptr 102 0))), (4, .x (.one (.p (.val (.bool true)))))], mkH [(102, .var [.p (pi (0 : Int)), .p (pi (0 : Int))])]⟩) ?_
      replace H0 := req_some H0
      obtain ⟨q_22, H0⟩ := H0
      refine lok_rl E0 (⟨112, mkS [(0, .x (.one (.p (.val (.string (bs (List.drop (1 : Int).toNat s))))))), (2, .x (.one (.ptr 102 0))), (4, .x (.one (.p (.val (.bool true)))))], mkH [(102, .var [.p (pi (0 : Int)), .p (pi (0 : Int))])]⟩) ?_
      try simp only [thenL, blockL, ↓reduceIte, reduceCtorEq]
      exact ⟨((List.drop (1 : Int).toNat s), true), H0, imp_au⟩
    · intro b_23
      replace H0 := cneg H0 b_23
      refine lok_skip ?_
      try simp only [thenL, blockL, ↓reduceIte, reduceCtorEq]
      exact ⟨(s, false), H0, imp_au⟩
theorem ok_law01_RatioBack (t : List Int) (r_ : Bool) (H0 : law01_RatioBack t = some r_) : CallOK Tryd.prog 4 [.one (.p (.sl 1 (List.map encI t)))] [] [.one (.p (.val (.bool r_)))] [] := by
  refine callOK (n := 39) (rs := [.tmp 2]) (nb := 0) (V := []) Tryd.func4 rfl (by kernel_rfl) rfl rfl rfl rfl (Nat.le_of_ble_eq_true rfl) (by decide) ?_
  unfold law01_RatioBack at H0
  refine lok_rt E0 (⟨39, mkS [(0, .x (.one (.p (.sl 1 (List.map encI t)))))], mkH []⟩) ?_
  replace H0 := bind_some H0
  obtain ⟨y, h_0, H0⟩ := H0
  replace H0 := bind_some H0
  obtain ⟨⟨y1, y2⟩, h_1, H0⟩ := H0
  try dsimp only at H0
  refine lok_rt (Env.of E0 [⟨some 8, 6, [.one (.p (.sl 1 (List.map encI t)))], [], [.one (.ptr 0 0)], [some (.var [.p (.sl 1 (List.map encI y.L)), .p (pi y.At)])], True, fun _ => ok_make_New t y h_0, []⟩,
      ⟨some 9, 7, [.one (.ptr 0 0)], [.var [.p (.sl 1 (List.map encI y.L)), .p (pi y.At)]], [.agg [.p (pi y1.Num), .p (pi y1.Den)]], [some (.var [.p (.sl 1 (List.map encI y2.L)), .p (pi y2.At)])], True, fun _ => ok_make_Tape_Loose y (y1, y2) h_1, []⟩]) (⟨39, mkS [(3, .x (.one (.ptr 103 0)))], mkH [(103, .var [.p (pi y1.Num), .p (pi y1.Den)])]⟩) ?_
  replace H0 := bind_some H0
  obtain ⟨y3, h_2, H0⟩ := H0
  refine lok_rt (Env.of E0 [⟨some 11, 12, [.agg [.p (pi y1.Num), .p (pi y1.Den)]], [], [.one (.p (.val (.string (bs y3))))], [], True, fun _ => ok_ratio_Format y1 y3 h_2, []⟩]) (⟨39, mkS [(3, .x (.one (.ptr 103 0))), (4, .x (.one (.p (.val (.string (bs y3))))))], mkH [(103, .var [.p (pi y1.Num), .p (pi y1.Den)])]⟩) ?_
  refine lok_seq ?_
  replace H0 := bind_some H0
  obtain ⟨y4, h_3, H0⟩ := H0
  refine lok_rt (Env.of E0 [⟨some 14, 13, [.agg [.p (pi y1.Num), .p (pi y1.Den)]], [], [.one (.p (.val (.string (bs y4))))], [], True, fun _ => ok_ref01_Format y1 y4 h_3, []⟩]) (⟨39, mkS [(3, .x (.one (.ptr 103 0))), (4, .x (.one (.p (.val (.string (bs y3)))))), (15, .x (.one (.p (.val (.bool (!(y3 == y4)))))))], mkH [(103, .var [.p (pi y1.Num), .p (pi y1.Den)])]⟩) ?_
  refine lok_c (!(y3 == y4)) ?_ ?_
  · intro b_9
    replace H0 := cpos H0 b_9
    refine lok_rt E0 (⟨39, mkS [(2, .x (.one (.p (.val (.bool false)))))], mkH []⟩) ?_
    refine lok_ret ?_
    obtain rfl := Option.some.inj H0
    try simp only [thenL, blockL]
    exact fin_au _ (.inr rfl) [] (⟨39, mkS [(2, .x (.one (.p (.val (.bool false)))))], mkH []⟩) rfl rfl imp_au
  · intro b_9
    replace H0 := cneg H0 b_9
    refine lok_skip ?_
    try simp only [thenL, blockL, ↓reduceIte, reduceCtorEq]
    replace H0 := bind_some H0
    obtain ⟨⟨y5, y6⟩, h_4, H0⟩ := H0
    try dsimp only at H0
    refine lok_rt (Env.of E0 [⟨some 18, 14, [.one (.p (.val (.string (bs y3))))], [], [.agg [.p (pi y5.Num), .p (pi y5.Den)], .one (.p (pi y6))], [], True, fun _ => ok_ratio_Parse y3 (y5, y6) h_4, []⟩]) (⟨39, mkS [(3, .x (.one (.ptr 103 0))), (5, .x (.one (.ptr 105 0))), (6, .x (.one (.p (pi y6))))], mkH [(103, .var [.p (pi y1.Num), .p (pi y1.Den)]), (105, .var [.p (pi y5.Num), .p (pi y5.Den)])]⟩) ?_
    refine lok_seq ?_
    replace H0 := bind_some H0
    obtain ⟨y7, h_5, H0⟩ := H0
    refine lok_rt (Env.of E0 [⟨some 22, 15, [.agg [.p (pi y1.Num), .p (pi y1.Den)]], [], [.one (.p (.val (.bool y7)))], [], True, fun _ => ok_ref01_Valid y1 y7 h_5, []⟩]) (⟨39, mkS [(3, .x (.one (.ptr 103 0))), (5, .x (.one (.ptr 105 0))), (6, .x (.one (.p (pi y6)))), (23, .x (.one (.p (.val (.bool (!y7))))))], mkH [(103, .var [.p (pi y1.Num), .p (pi y1.Den)]), (105, .var [.p (pi y5.Num), .p (pi y5.Den)])]⟩) ?_
    refine lok_c (!y7) ?_ ?_
    · intro b_8
      replace H0 := cpos H0 b_8
      replace H0 := req_some H0
      obtain ⟨q_6, H0⟩ := H0
      refine lok_rt (Env.of E0 [⟨some 27, 11, [], [], [.one (.p (.val (.bool ((law01_awake).getD default))))], [], (law01_awake).isSome = true, fun h => ok_law01_awake _ (isSome_get h), []⟩]) (⟨39, mkS [(2, .x (.one (.p (.val (.bool ((y6 == (7 : Int)) && ((law01_awake).getD default)))))))], mkH []⟩) ?_
      refine lok_ret ?_
      obtain rfl := Option.some.inj H0
      try simp only [thenL, blockL]
      exact fin_au _ (.inr rfl) [] (⟨39, mkS [(2, .x (.one (.p (.val (.bool ((y6 == (7 : Int)) && ((law01_awake).getD default)))))))], mkH []⟩) rfl rfl imp_au
    · intro b_8
      replace H0 := cneg H0 b_8
      refine lok_skip ?_
      try simp only [thenL, blockL, ↓reduceIte, reduceCtorEq]
      replace H0 := req_some H0
      obtain ⟨q_7, H0⟩ := H0
      refine lok_rt (Env.of E0 [⟨some 37, 11, [], [], [.one (.p (.val (.bool ((law01_awake).getD default))))], [], (law01_awake).isSome = true, fun h => ok_law01_awake _ (isSome_get h), []⟩]) (⟨39, mkS [(2, .x (.one (.p (.val (.bool (((y6 == (0 : Int)) && ((y5.Num == y1.Num) && (y5.Den == y1.Den))) && ((law01_awake).getD default)))))))], mkH []⟩) ?_
      refine lok_ret ?_
      obtain rfl := Option.some.inj H0
      try simp only [thenL, blockL]
      exact fin_au _ (.inr rfl) [] (⟨39, mkS [(2, .x (.one (.p (.val (.bool (((y6 == (0 : Int)) && ((y5.Num == y1.Num) && (y5.Den == y1.Den))) && ((law01_awake).getD default)))))))], mkH []⟩) rfl rfl imp_au
theorem ok_make_Tape_Small (t : make_Tape) (r_ : api_Ratio × make_Tape) (H0 : make_Tape_Small t = some r_) : CallOK Tryd.prog 16 [.one (.ptr 0 0)] [.var [.p (.sl 1 (List.map encI t.L)), .p (pi t.At)]] [.agg [.p (pi r_.1.Num), .p (pi r_.1.Den)]] [some (.var [.p (.sl 1 (List.map encI r_.2.L)), .p (pi r_.2.At)])] := by
  refine callOK (n := 14) (rs := [.cell 2 24]) (nb := 1) (V := [0]) Tryd.func16 rfl (by kernel_rfl) rfl rfl rfl rfl (Nat.le_of_ble_eq_true rfl) (by decide) ?_
  unfold make_Tape_Small at H0
  refine lok_rt E0 (⟨14, mkS [(0, .x (.one (.ptr 0 0))), (2, .x (.one (.ptr 102 0)))], mkH [(0, .var [.p (.sl 1 (List.map encI t.L)), .p (pi t.At)]), (102, .var [.p (pi (0 : Int)), .p (pi (0 : Int))])]⟩) ?_
  replace H0 := bind_some H0
  obtain ⟨⟨y, y1⟩, h_0, H0⟩ := H0
  try dsimp only at H0
  replace H0 := bind_some H0
  obtain ⟨⟨y2, y3⟩, h_1, H0⟩ := H0
  try dsimp only at H0
  replace H0 := bind_some H0
  obtain ⟨⟨y4, y5⟩, h_2, H0⟩ := H0
  try dsimp only at H0
  refine lok_rt (Env.of E0 [⟨some 7, 22, [.one (.ptr 0 0), .one (.p (pi (-30 : Int))), .one (.p (pi (30 : Int)))], [.var [.p (.sl 1 (List.map encI t.L)), .p (pi t.At)]], [.one (.p (pi y))], [some (.var [.p (.sl 1 (List.map encI y1.L)), .p (pi y1.At)])], True, fun _ => ok_make_Tape_Range t (-30 : Int) (30 : Int) (y, y1) h_0, []⟩,
      ⟨some 9, 22, [.one (.ptr 0 0), .one (.p (pi (1 : Int))), .one (.p (pi (12 : Int)))], [.var [.p (.sl 1 (List.map encI y1.L)), .p (pi y1.At)]], [.one (.p (pi y2))], [some (.var [.p (.sl 1 (List.map encI y3.L)), .p (pi y3.At)])], True, fun _ => ok_make_Tape_Range y1 (1 : Int) (12 : Int) (y2, y3) h_1, []⟩,
      ⟨some 10, 44, [.one (.p (pi y)), .one (.p (pi y2))], [], [.agg [.p (pi y4.Num), .p (pi y4.Den)], .one (.p (pi y5))], [], True, fun _ => ok_ref01_New y y2 (y4, y5) h_2, []⟩]) (⟨14, mkS [(2, .x (.one (.ptr 102 0))), (3, .x (.one (.ptr 103 0)))], mkH [(0, .var [.p (.sl 1 (List.map encI y3.L)), .p (pi y3.At)]), (102, .var [.p (pi (0 : Int)), .p (pi (0 : Int))]), (103, .var [.p (pi y4.Num), .p (pi y4.Den)])]⟩) ?_
  refine lok_rt E0 (⟨14, mkS [(2, .x (.one (.ptr 102 0)))], mkH [(0, .var [.p (.sl 1 (List.map encI y3.L)), .p (pi y3.At)]), (102, .var [.p (pi y4.Num), .p (pi y4.Den)])]⟩) ?_
  refine lok_ret ?_
  obtain rfl := Option.some.inj H0
  try simp only [thenL, blockL]
  exact fin_au _ (.inr rfl) [0] (⟨14, mkS [(2, .x (.one (.ptr 102 0)))], mkH [(0, .var [.p (.sl 1 (List.map encI y3.L)), .p (pi y3.At)]), (102, .var [.p (pi y4.Num), .p (pi y4.Den)])]⟩) rfl rfl imp_au
theorem ok_ratio_signedProduct (num : Int) (factor : Int) (r_ : ratio_signed) (H0 : ratio_signedProduct num factor = some r_) : CallOK Tryd.prog 63 [.one (.p (pi num)), .one (.p (.val (.int .u64 factor)))] [] [.agg [.p (.val (.bool r_.neg)), .p (.val (.int .u64 r_.abs.hi)), .p (.val (.int .u64 r_.abs.lo))]] [] := by
  refine callOK (n := 12) (rs := [.cell 4 68]) (nb := 0) (V := []) Tryd.func63 rfl (by kernel_rfl) rfl rfl rfl rfl (Nat.le_of_ble_eq_true rfl) (by decide) ?_
  unfold ratio_signedProduct at H0
  refine lok_rt E0 (⟨12, mkS [(0, .x (.one (.p (pi num)))), (1, .x (.one (.p (.val (.int .u64 factor))))), (4, .x (.one (.ptr 104 0)))], mkH [(104, .var [.p (.val (.bool false)), .p (.val (.int .u64 (0 : Int))), .p (.val (.int .u64 (0 : Int)))])]⟩) ?_
  replace H0 := bind_some H0
  obtain ⟨y, h_0, H0⟩ := H0
  replace H0 := bind_some H0
  obtain ⟨y1, h_1, H0⟩ := H0
  refine lok_rt (Env.of E0 [⟨some 8, 25, [.one (.p (pi num))], [], [.one (.p (.val (.int .u64 y)))], [], True, fun _ => ok_ratio_magnitude num y h_0, []⟩,
      ⟨some 10, 26, [.one (.p (.val (.int .u64 y))), .one (.p (.val (.int .u64 factor)))], [], [.agg [.p (.val (.int .u64 y1.hi)), .p (.val (.int .u64 y1.lo))]], [], True, fun _ => ok_ratio_product y factor y1 h_1, []⟩]) (⟨12, mkS [(4, .x (.one (.ptr 104 0)))], mkH [(104, .var [.p (.val (.bool (decide (num < (0 : Int))))), .p (.val (.int .u64 y1.hi)), .p (.val (.int .u64 y1.lo))])]⟩) ?_
  refine lok_ret ?_
  obtain rfl := Option.some.inj H0
  try simp only [thenL, blockL]
  exact fin_au _ (.inr rfl) [] (⟨12, mkS [(4, .x (.one (.ptr 104 0)))], mkH [(104, .var [.p (.val (.bool (decide (num < (0 : Int))))), .p (.val (.int .u64 y1.hi)), .p (.val (.int .u64 y1.lo))])]⟩) rfl rfl imp_au
theorem ok_cmp_isNaN_uint64 (x : Int) (r_ : Bool) (H0 : cmp_isNaN_uint64 x = some r_) : CallOK Tryd.prog 85 [.one (.p (.val (.int .u64 x)))] [] [.one (.p (.val (.bool r_)))] [] := by
  refine callOK (n := 6) (rs := [.tmp 2]) (nb := 0) (V := []) Tryd.func85 rfl (by kernel_rfl) rfl rfl rfl rfl (Nat.le_of_ble_eq_true rfl) (by decide) ?_
  unfold cmp_isNaN_uint64 at H0
  refine lok_rt E0 (⟨6, mkS [(0, .x (.one (.p (.val (.int .u64 x)))))], mkH []⟩) ?_
  refine lok_rt E0 (⟨6, mkS [(2, .x (.one (.p (.val (.bool (x != x))))))], mkH []⟩) ?_
  refine lok_ret ?_
  obtain rfl := Option.some.inj H0
  try simp only [thenL, blockL]
  exact fin_au _ (.inr rfl) [] (⟨6, mkS [(2, .x (.one (.p (.val (.bool (x != x))))))], mkH []⟩) rfl rfl imp_au
theorem ok_cmp_Compare_uint64 (x : Int) (y : Int) (r_ : Int) (H0 : cmp_Compare_uint64 x y = some r_) : CallOK Tryd.prog 77 [.one (.p (.val (.int .u64 x))), .one (.p (.val (.int .u64 y)))] [] [.one (.p (pi r_))] [] := by
  refine callOK (n := 20) (rs := [.tmp 4]) (nb := 0) (V := []) Tryd.func77 rfl (by kernel_rfl) rfl rfl rfl rfl (Nat.le_of_ble_eq_true rfl) (by decide) ?_
  unfold cmp_Compare_uint64 at H0
  refine lok_rt E0 (⟨20, mkS [(0, .x (.one (.p (.val (.int .u64 x))))), (1, .x (.one (.p (.val (.int .u64 y)))))], mkH []⟩) ?_
  replace H0 := bind_some H0
  obtain ⟨y1, h_0, H0⟩ := H0
  refine lok_rt (Env.of E0 [⟨some 8, 85, [.one (.p (.val (.int .u64 x)))], [], [.one (.p (.val (.bool y1)))], [], True, fun _ => ok_cmp_isNaN_uint64 x y1 h_0, []⟩]) (⟨20, mkS [(0, .x (.one (.p (.val (.int .u64 x))))), (1, .x (.one (.p (.val (.int .u64 y))))), (5, .x (.one (.p (.val (.bool y1)))))], mkH []⟩) ?_
  replace H0 := bind_some H0
  obtain ⟨y2, h_1, H0⟩ := H0
  refine lok_rt (Env.of E0 [⟨some 10, 85, [.one (.p (.val (.int .u64 y)))], [], [.one (.p (.val (.bool y2)))], [], True, fun _ => ok_cmp_isNaN_uint64 y y2 h_1, []⟩]) (⟨20, mkS [(0, .x (.one (.p (.val (.int .u64 x))))), (1, .x (.one (.p (.val (.int .u64 y))))), (5, .x (.one (.p (.val (.bool y1))))), (6, .x (.one (.p (.val (.bool y2)))))], mkH []⟩) ?_
  refine lok_seq ?_
  refine lok_rt E0 (⟨20, mkS [(0, .x (.one (.p (.val (.int .u64 x))))), (1, .x (.one (.p (.val (.int .u64 y))))), (6, .x (.one (.p (.val (.bool y2))))), (11, .x (.one (.p (.val (.bool y1)))))], mkH []⟩) ?_
  refine lok_c y1 ?_ ?_
  · intro b_6
    replace H0 := cpos H0 b_6
    refine lok_seq ?_
    refine lok_rt E0 (⟨20, mkS [(12, .x (.one (.p (.val (.bool y2)))))], mkH []⟩) ?_
    refine lok_c y2 ?_ ?_
    · intro b_2
      replace H0 := cpos H0 b_2
      refine lok_rt E0 (⟨20, mkS [(4, .x (.one (.p (pi (0 : Int)))))], mkH []⟩) ?_
      refine lok_ret ?_
      obtain rfl := Option.some.inj H0
      try simp only [thenL, blockL]
      exact fin_au _ (.inr rfl) [] (⟨20, mkS [(4, .x (.one (.p (pi (0 : Int)))))], mkH []⟩) rfl rfl imp_au
    · intro b_2
      replace H0 := cneg H0 b_2
      refine lok_skip ?_
      try simp only [thenL, blockL, ↓reduceIte, reduceCtorEq]
      refine lok_rt E0 (⟨20, mkS [(4, .x (.one (.p (pi (-1 : Int)))))], mkH []⟩) ?_
      refine lok_ret ?_
      obtain rfl := Option.some.inj H0
      try simp only [thenL, blockL]
      exact fin_au _ (.inr rfl) [] (⟨20, mkS [(4, .x (.one (.p (pi (-1 : Int)))))], mkH []⟩) rfl rfl imp_au
  · intro b_6
    replace H0 := cneg H0 b_6
    refine lok_skip ?_
    try simp only [thenL, blockL, ↓reduceIte, reduceCtorEq]
    refine lok_seq ?_
    refine lok_rt E0 (⟨20, mkS [(0, .x (.one (.p (.val (.int .u64 x))))), (1, .x (.one (.p (.val (.int .u64 y))))), (13, .x (.one (.p (.val (.bool y2)))))], mkH []⟩) ?_
    refine lok_c y2 ?_ ?_
    · intro b_5
      replace H0 := cpos H0 b_5
      refine lok_rt E0 (⟨20, mkS [(4, .x (.one (.p (pi (1 : Int)))))], mkH []⟩) ?_
      refine lok_ret ?_
      obtain rfl := Option.some.inj H0
      try simp only [thenL, blockL]
      exact fin_au _ (.inr rfl) [] (⟨20, mkS [(4, .x (.one (.p (pi (1 : Int)))))], mkH []⟩) rfl rfl imp_au
    · intro b_5
      replace H0 := cneg H0 b_5
      refine lok_skip ?_
      try simp only [thenL, blockL, ↓reduceIte, reduceCtorEq]
      refine lok_seq ?_
      refine lok_rt E0 (⟨20, mkS [(0, .x (.one (.p (.val (.int .u64 x))))), (1, .x (.one (.p (.val (.int .u64 y))))), (16, .x (.one (.p (.val (.bool (decide (x < y)))))))], mkH []⟩) ?_
      refine lok_c (decide (x < y)) ?_ ?_
      · intro b_4
        replace H0 := cpos H0 b_4
        refine lok_rt E0 (⟨20, mkS [(4, .x (.one (.p (pi (-1 : Int)))))], mkH []⟩) ?_
        refine lok_ret ?_
        obtain rfl := Option.some.inj H0
        try simp only [thenL, blockL]
        exact fin_au _ (.inr rfl) [] (⟨20, mkS [(4, .x (.one (.p (pi (-1 : Int)))))], mkH []⟩) rfl rfl imp_au
      · intro b_4
        replace H0 := cneg H0 b_4
        refine lok_skip ?_
        try simp only [thenL, blockL, ↓reduceIte, reduceCtorEq]
        refine lok_seq ?_
        refine lok_rt E0 (⟨20, mkS [(19, .x (.one (.p (.val (.bool (decide (y < x)))))))], mkH []⟩) ?_
        refine lok_c (decide (y < x)) ?_ ?_
        · intro b_3
          replace H0 := cpos H0 b_3
          refine lok_rt E0 (⟨20, mkS [(4, .x (.one (.p (pi (1 : Int)))))], mkH []⟩) ?_
          refine lok_ret ?_
          obtain rfl := Option.some.inj H0
          try simp only [thenL, blockL]
          exact fin_au _ (.inr rfl) [] (⟨20, mkS [(4, .x (.one (.p (pi (1 : Int)))))], mkH []⟩) rfl rfl imp_au
        · intro b_3
          replace H0 := cneg H0 b_3
          refine lok_skip ?_
          try simp only [thenL, blockL, ↓reduceIte, reduceCtorEq]
          refine lok_rt E0 (⟨20, mkS [(4, .x (.one (.p (pi (0 : Int)))))], mkH []⟩) ?_
          refine lok_ret ?_
          obtain rfl := Option.some.inj H0
          try simp only [thenL, blockL]
          exact fin_au _ (.inr rfl) [] (⟨20, mkS [(4, .x (.one (.p (pi (0 : Int)))))], mkH []⟩) rfl rfl imp_au
theorem ok_ratio_wide_compare (a : ratio_wide) (b : ratio_wide) (r_ : Int) (H0 : ratio_wide_compare a b = some r_) : CallOK Tryd.prog 65 [.agg [.p (.val (.int .u64 a.hi)), .p (.val (.int .u64 a.lo))], .agg [.p (.val (.int .u64 b.hi)), .p (.val (.int .u64 b.lo))]] [] [.one (.p (pi r_))] [] := by
  refine callOK (n := 19) (rs := [.tmp 4]) (nb := 0) (V := []) Tryd.func65 rfl (by kernel_rfl) rfl rfl rfl rfl (Nat.le_of_ble_eq_true rfl) (by decide) ?_
  unfold ratio_wide_compare at H0
  refine lok_rt E0 (⟨19, mkS [(2, .x (.one (.ptr 102 0))), (3, .x (.one (.ptr 103 0)))], mkH [(102, .var [.p (.val (.int .u64 a.hi)), .p (.val (.int .u64 a.lo))]), (103, .var [.p (.val (.int .u64 b.hi)), .p (.val (.int .u64 b.lo))])]⟩) ?_
  refine lok_seq ?_
  replace H0 := bind_some H0
  obtain ⟨y, h_0, H0⟩ := H0
  refine lok_rt (Env.of E0 [⟨some 10, 77, [.one (.p (.val (.int .u64 a.hi))), .one (.p (.val (.int .u64 b.hi)))], [], [.one (.p (pi y))], [], True, fun _ => ok_cmp_Compare_uint64 a.hi b.hi y h_0, []⟩]) (⟨19, mkS [(2, .x (.one (.ptr 102 0))), (3, .x (.one (.ptr 103 0))), (5, .x (.one (.p (pi y))))], mkH [(102, .var [.p (.val (.int .u64 a.hi)), .p (.val (.int .u64 a.lo))]), (103, .var [.p (.val (.int .u64 b.hi)), .p (.val (.int .u64 b.lo))])]⟩) ?_
  refine lok_rt E0 (⟨19, mkS [(2, .x (.one (.ptr 102 0))), (3, .x (.one (.ptr 103 0))), (5, .x (.one (.p (pi y)))), (12, .x (.one (.p (.val (.bool (y != (0 : Int)))))))], mkH [(102, .var [.p (.val (.int .u64 a.hi)), .p (.val (.int .u64 a.lo))]), (103, .var [.p (.val (.int .u64 b.hi)), .p (.val (.int .u64 b.lo))])]⟩) ?_
  refine lok_c (y != (0 : Int)) ?_ ?_
  · intro b_2
    replace H0 := cpos H0 b_2
    refine lok_rt E0 (⟨19, mkS [(4, .x (.one (.p (pi y))))], mkH []⟩) ?_
    refine lok_ret ?_
    obtain rfl := Option.some.inj H0
    try simp only [thenL, blockL]
    exact fin_au _ (.inr rfl) [] (⟨19, mkS [(4, .x (.one (.p (pi y))))], mkH []⟩) rfl rfl imp_au
  · intro b_2
    replace H0 := cneg H0 b_2
    refine lok_skip ?_
    try simp only [thenL, blockL, ↓reduceIte, reduceCtorEq]
    replace H0 := bind_some H0
    obtain ⟨y1, h_1, H0⟩ := H0
    refine lok_rt (Env.of E0 [⟨some 18, 77, [.one (.p (.val (.int .u64 a.lo))), .one (.p (.val (.int .u64 b.lo)))], [], [.one (.p (pi y1))], [], True, fun _ => ok_cmp_Compare_uint64 a.lo b.lo y1 h_1, []⟩]) (⟨19, mkS [(4, .x (.one (.p (pi y1))))], mkH []⟩) ?_
    refine lok_ret ?_
    obtain rfl := Option.some.inj H0
    try simp only [thenL, blockL]
    exact fin_au _ (.inr rfl) [] (⟨19, mkS [(4, .x (.one (.p (pi y1))))], mkH []⟩) rfl rfl imp_au
theorem ok_ratio_wide_minus (a : ratio_wide) (b : ratio_wide) (r_ : ratio_wide) (H0 : ratio_wide_minus a b = some r_) : CallOK Tryd.prog 76 [.agg [.p (.val (.int .u64 a.hi)), .p (.val (.int .u64 a.lo))], .agg [.p (.val (.int .u64 b.hi)), .p (.val (.int .u64 b.lo))]] [] [.agg [.p (.val (.int .u64 r_.hi)), .p (.val (.int .u64 r_.lo))]] [] := by
  refine callOK (n := 29) (rs := [.cell 4 46]) (nb := 0) (V := []) Tryd.func76 rfl (by kernel_rfl) rfl rfl rfl rfl (Nat.le_of_ble_eq_true rfl) (by decide) ?_
  unfold ratio_wide_minus at H0
  refine lok_rt E0 (⟨29, mkS [(2, .x (.one (.ptr 102 0))), (3, .x (.one (.ptr 103 0))), (4, .x (.one (.ptr 104 0)))], mkH [(102, .var [.p (.val (.int .u64 a.hi)), .p (.val (.int .u64 a.lo))]), (103, .var [.p (.val (.int .u64 b.hi)), .p (.val (.int .u64 b.lo))]), (104, .var [.p (.val (.int .u64 (0 : Int))), .p (.val (.int .u64 (0 : Int)))])]⟩) ?_
  replace H0 := bind_some H0
  obtain ⟨⟨y, y1⟩, h_0, H0⟩ := H0
  try dsimp only at H0
  refine lok_rt (Env.of E0 [⟨some 14, 72, [.one (.p (.val (.int .u64 a.lo))), .one (.p (.val (.int .u64 b.lo))), .one (.p (.val (.int .u64 (0 : Int))))], [], [.one (.p (.val (.int .u64 y))), .one (.p (.val (.int .u64 y1)))], [], True, fun _ => ok_bits_Sub64 a.lo b.lo (0 : Int) (y, y1) h_0, []⟩]) (⟨29, mkS [(2, .x (.one (.ptr 102 0))), (3, .x (.one (.ptr 103 0))), (4, .x (.one (.ptr 104 0))), (5, .x (.one (.p (.val (.int .u64 y))))), (6, .x (.one (.p (.val (.int .u64 y1)))))], mkH [(102, .var [.p (.val (.int .u64 a.hi)), .p (.val (.int .u64 a.lo))]), (103, .var [.p (.val (.int .u64 b.hi)), .p (.val (.int .u64 b.lo))]), (104, .var [.p (.val (.int .u64 (0 : Int))), .p (.val (.int .u64 (0 : Int)))])]⟩) ?_
  replace H0 := bind_some H0
  obtain ⟨⟨y2, y3⟩, h_1, H0⟩ := H0
  try dsimp only at H0
  refine lok_rt (Env.of E0 [⟨some 23, 72, [.one (.p (.val (.int .u64 a.hi))), .one (.p (.val (.int .u64 b.hi))), .one (.p (.val (.int .u64 y1)))], [], [.one (.p (.val (.int .u64 y2))), .one (.p (.val (.int .u64 y3)))], [], True, fun _ => ok_bits_Sub64 a.hi b.hi y1 (y2, y3) h_1, []⟩]) (⟨29, mkS [(4, .x (.one (.ptr 104 0))), (5, .x (.one (.p (.val (.int .u64 y))))), (7, .x (.one (.p (.val (.int .u64 y2)))))], mkH [(104, .var [.p (.val (.int .u64 (0 : Int))), .p (.val (.int .u64 (0 : Int)))])]⟩) ?_
  refine lok_rt E0 (⟨29, mkS [(4, .x (.one (.ptr 104 0)))], mkH [(104, .var [.p (.val (.int .u64 y2)), .p (.val (.int .u64 y))])]⟩) ?_
  refine lok_ret ?_
  obtain rfl := Option.some.inj H0
  try simp only [thenL, blockL]
  exact fin_au _ (.inr rfl) [] (⟨29, mkS [(4, .x (.one (.ptr 104 0)))], mkH [(104, .var [.p (.val (.int .u64 y2)), .p (.val (.int .u64 y))])]⟩) rfl rfl imp_au
theorem ok_ratio_signed_plus (a : ratio_signed) (b : ratio_signed) (r_ : ratio_signed) (H0 : ratio_signed_plus a b = some r_) : CallOK Tryd.prog 64 [.agg [.p (.val (.bool a.neg)), .p (.val (.int .u64 a.abs.hi)), .p (.val (.int .u64 a.abs.lo))], .agg [.p (.val (.bool b.neg)), .p (.val (.int .u64 b.abs.hi)), .p (.val (.int .u64 b.abs.lo))]] [] [.agg [.p (.val (.bool r_.neg)), .p (.val (.int .u64 r_.abs.hi)), .p (.val (.int .u64 r_.abs.lo))]] [] := by
  refine callOK (n := 40) (rs := [.cell 4 68]) (nb := 0) (V := []) Tryd.func64 rfl (by kernel_rfl) rfl rfl rfl rfl (Nat.le_of_ble_eq_true rfl) (by decide) ?_
  unfold ratio_signed_plus at H0
  refine lok_rt E0 (⟨40, mkS [(2, .x (.one (.ptr 102 0))), (3, .x (.one (.ptr 103 0))), (4, .x (.one (.ptr 104 0)))], mkH [(102, .var [.p (.val (.bool a.neg)), .p (.val (.int .u64 a.abs.hi)), .p (.val (.int .u64 a.abs.lo))]), (103, .var [.p (.val (.bool b.neg)), .p (.val (.int .u64 b.abs.hi)), .p (.val (.int .u64 b.abs.lo))]), (104, .var [.p (.val (.bool false)), .p (.val (.int .u64 (0 : Int))), .p (.val (.int .u64 (0 : Int)))])]⟩) ?_
  refine lok_seq ?_
  refine lok_rt E0 (⟨40, mkS [(2, .x (.one (.ptr 102 0))), (3, .x (.one (.ptr 103 0))), (4, .x (.one (.ptr 104 0))), (9, .x (.one (.p (.val (.bool (a.neg == b.neg))))))], mkH [(102, .var [.p (.val (.bool a.neg)), .p (.val (.int .u64 a.abs.hi)), .p (.val (.int .u64 a.abs.lo))]), (103, .var [.p (.val (.bool b.neg)), .p (.val (.int .u64 b.abs.hi)), .p (.val (.int .u64 b.abs.lo))]), (104, .var [.p (.val (.bool false)), .p (.val (.int .u64 (0 : Int))), .p (.val (.int .u64 (0 : Int)))])]⟩) ?_
  refine lok_c (a.neg == b.neg) ?_ ?_
  · intro b_5
    replace H0 := cpos H0 b_5
    replace H0 := bind_some H0
    obtain ⟨y, h_0, H0⟩ := H0
    refine lok_dt (Env.of E0 [⟨some 16, 42, [.agg [.p (.val (.int .u64 a.abs.hi)), .p (.val (.int .u64 a.abs.lo))], .agg [.p (.val (.int .u64 b.abs.hi)), .p (.val (.int .u64 b.abs.lo))]], [], [.agg [.p (.val (.int .u64 y.hi)), .p (.val (.int .u64 y.lo))]], [], True, fun _ => ok_ratio_wide_plus a.abs b.abs y h_0, []⟩]) 7 (⟨40, mkS [(4, .x (.one (.ptr 104 0)))], mkH [(104, .var [.p (.val (.bool a.neg)), .p (.val (.int .u64 y.hi)), .p (.val (.int .u64 y.lo))])]⟩) (by kernel_rfl) (by kernel_rfl) ?_
    refine lok_ret ?_
    obtain rfl := Option.some.inj H0
    try simp only [thenL, blockL]
    exact fin_au _ (.inr rfl) [] (⟨40, mkS [(4, .x (.one (.ptr 104 0)))], mkH [(104, .var [.p (.val (.bool a.neg)), .p (.val (.int .u64 y.hi)), .p (.val (.int .u64 y.lo))])]⟩) rfl rfl imp_au
  · intro b_5
    replace H0 := cneg H0 b_5
    refine lok_skip ?_
    try simp only [thenL, blockL, ↓reduceIte, reduceCtorEq]
    refine lok_seq ?_
    replace H0 := bind_some H0
    obtain ⟨y1, h_1, H0⟩ := H0
    refine lok_rt (Env.of E0 [⟨some 22, 65, [.agg [.p (.val (.int .u64 a.abs.hi)), .p (.val (.int .u64 a.abs.lo))], .agg [.p (.val (.int .u64 b.abs.hi)), .p (.val (.int .u64 b.abs.lo))]], [], [.one (.p (pi y1))], [], True, fun _ => ok_ratio_wide_compare a.abs b.abs y1 h_1, []⟩]) (⟨40, mkS [(2, .x (.one (.ptr 102 0))), (3, .x (.one (.ptr 103 0))), (4, .x (.one (.ptr 104 0))), (23, .x (.one (.p (.val (.bool (decide ((0 : Int) ≤ y1)))))))], mkH [(102, .var [.p (.val (.bool a.neg)), .p (.val (.int .u64 a.abs.hi)), .p (.val (.int .u64 a.abs.lo))]), (103, .var [.p (.val (.bool b.neg)), .p (.val (.int .u64 b.abs.hi)), .p (.val (.int .u64 b.abs.lo))]), (104, .var [.p (.val (.bool false)), .p (.val (.int .u64 (0 : Int))), .p (.val (.int .u64 (0 : Int)))])]⟩) ?_
    refine lok_c (decide ((0 : Int) ≤ y1)) ?_ ?_
    · intro b_4
      replace H0 := cpos H0 b_4
      replace H0 := bind_some H0
      obtain ⟨y2, h_2, H0⟩ := H0
      refine lok_dt (Env.of E0 [⟨some 30, 76, [.agg [.p (.val (.int .u64 a.abs.hi)), .p (.val (.int .u64 a.abs.lo))], .agg [.p (.val (.int .u64 b.abs.hi)), .p (.val (.int .u64 b.abs.lo))]], [], [.agg [.p (.val (.int .u64 y2.hi)), .p (.val (.int .u64 y2.lo))]], [], True, fun _ => ok_ratio_wide_minus a.abs b.abs y2 h_2, []⟩]) 7 (⟨40, mkS [(4, .x (.one (.ptr 104 0)))], mkH [(104, .var [.p (.val (.bool a.neg)), .p (.val (.int .u64 y2.hi)), .p (.val (.int .u64 y2.lo))])]⟩) (by kernel_rfl) (by kernel_rfl) ?_
      refine lok_ret ?_
      obtain rfl := Option.some.inj H0
      try simp only [thenL, blockL]
      exact fin_au _ (.inr rfl) [] (⟨40, mkS [(4, .x (.one (.ptr 104 0)))], mkH [(104, .var [.p (.val (.bool a.neg)), .p (.val (.int .u64 y2.hi)), .p (.val (.int .u64 y2.lo))])]⟩) rfl rfl imp_au
    · intro b_4
      replace H0 := cneg H0 b_4
      refine lok_skip ?_
      try simp only [thenL, blockL, ↓reduceIte, reduceCtorEq]
      replace H0 := bind_some H0
      obtain ⟨y3, h_3, H0⟩ := H0
      refine lok_dt (Env.of E0 [⟨some 38, 76, [.agg [.p (.val (.int .u64 b.abs.hi)), .p (.val (.int .u64 b.abs.lo))], .agg [.p (.val (.int .u64 a.abs.hi)), .p (.val (.int .u64 a.abs.lo))]], [], [.agg [.p (.val (.int .u64 y3.hi)), .p (.val (.int .u64 y3.lo))]], [], True, fun _ => ok_ratio_wide_minus b.abs a.abs y3 h_3, []⟩]) 7 (⟨40, mkS [(4, .x (.one (.ptr 104 0)))], mkH [(104, .var [.p (.val (.bool b.neg)), .p (.val (.int .u64 y3.hi)), .p (.val (.int .u64 y3.lo))])]⟩) (by kernel_rfl) (by kernel_rfl) ?_
      refine lok_ret ?_
      obtain rfl := Option.some.inj H0
      try simp only [thenL, blockL]
      exact fin_au _ (.inr rfl) [] (⟨40, mkS [(4, .x (.one (.ptr 104 0)))], mkH [(104, .var [.p (.val (.bool b.neg)), .p (.val (.int .u64 y3.hi)), .p (.val (.int .u64 y3.lo))])]⟩) rfl rfl imp_au
set_option maxHeartbeats 4000000 in
theorem ok_ratio_Add (a : api_Ratio) (b : api_Ratio) (r_ : api_Ratio × Int) (H0 : ratio_Add a b = some r_) : CallOK Tryd.prog 45 [.agg [.p (pi a.Num), .p (pi a.Den)], .agg [.p (pi b.Num), .p (pi b.Den)]] [] [.agg [.p (pi r_.1.Num), .p (pi r_.1.Den)], .one (.p (pi r_.2))] [] := by
  refine callOK (n := 64) (rs := [.cell 4 24, .tmp 5]) (nb := 0) (V := []) Tryd.func45 rfl (by kernel_rfl) rfl rfl rfl rfl (Nat.le_of_ble_eq_true rfl) (by decide) ?_
  unfold ratio_Add at H0
  refine lok_rt E0 (⟨64, mkS [(2, .x (.one (.ptr 102 0))), (3, .x (.one (.ptr 103 0))), (4, .x (.one (.ptr 104 0)))], mkH [(102, .var [.p (pi a.Num), .p (pi a.Den)]), (103, .var [.p (pi b.Num), .p (pi b.Den)]), (104, .var [.p (pi (0 : Int)), .p (pi (0 : Int))])]⟩) ?_
  refine lok_seq ?_
  replace H0 := bind_some H0
  obtain ⟨y, h_0, H0⟩ := H0
  replace H0 := req_some H0
  obtain ⟨q_15, H0⟩ := H0
  refine lok_rt (Env.of E0 [⟨some 12, 23, [.agg [.p (pi a.Num), .p (pi a.Den)]], [], [.one (.p (.val (.bool y)))], [], True, fun _ => ok_ratio_Valid a y h_0, []⟩,
      ⟨some 16, 23, [.agg [.p (pi b.Num), .p (pi b.Den)]], [], [.one (.p (.val (.bool ((ratio_Valid b).getD default))))], [], (ratio_Valid b).isSome = true, fun h => ok_ratio_Valid b _ (isSome_get h), []⟩]) (⟨64, mkS [(2, .x (.one (.ptr 102 0))), (3, .x (.one (.ptr 103 0))), (4, .x (.one (.ptr 104 0))), (18, .x (.one (.p (.val (.bool ((!y) || (!((ratio_Valid b).getD default))))))))], mkH [(102, .var [.p (pi a.Num), .p (pi a.Den)]), (103, .var [.p (pi b.Num), .p (pi b.Den)]), (104, .var [.p (pi (0 : Int)), .p (pi (0 : Int))])]⟩) ?_
  refine lok_c ((!y) || (!((ratio_Valid b).getD default))) ?_ ?_
  · intro b_14
    replace H0 := cpos H0 b_14
    refine lok_rt E0 (⟨64, mkS [(4, .x (.one (.ptr 104 0))), (5, .x (.one (.p (pi (1 : Int)))))], mkH [(104, .var [.p (pi (0 : Int)), .p (pi (0 : Int))])]⟩) ?_
    refine lok_ret ?_
    obtain rfl := Option.some.inj H0
    try simp only [thenL, blockL]
    exact fin_au _ (.inr rfl) [] (⟨64, mkS [(4, .x (.one (.ptr 104 0))), (5, .x (.one (.p (pi (1 : Int)))))], mkH [(104, .var [.p (pi (0 : Int)), .p (pi (0 : Int))])]⟩) rfl rfl imp_au
  · intro b_14
    replace H0 := cneg H0 b_14
    refine lok_skip ?_
    try simp only [thenL, blockL, ↓reduceIte, reduceCtorEq]
    refine lok_dt E0 7 (⟨64, mkS [(2, .x (.one (.ptr 102 0))), (3, .x (.one (.ptr 103 0))), (4, .x (.one (.ptr 104 0))), (6, .x (.one (.p (.val (.int .u64 (IntKind.u64.wrap a.Den)))))), (7, .x (.one (.p (.val (.int .u64 (IntKind.u64.wrap b.Den))))))], mkH [(102, .var [.p (pi a.Num), .p (pi a.Den)]), (103, .var [.p (pi b.Num), .p (pi b.Den)]), (104, .var [.p (pi (0 : Int)), .p (pi (0 : Int))])]⟩) (by kernel_rfl) (by kernel_rfl) ?_
    replace H0 := bind_some H0
    obtain ⟨y1, h_1, H0⟩ := H0
    refine lok_rt (Env.of E0 [⟨some 28, 50, [.one (.p (.val (.int .u64 (IntKind.u64.wrap a.Den)))), .one (.p (.val (.int .u64 (IntKind.u64.wrap b.Den))))], [], [.one (.p (.val (.int .u64 y1)))], [], True, fun _ => ok_ratio_gcd (IntKind.u64.wrap a.Den) (IntKind.u64.wrap b.Den) y1 h_1, []⟩]) (⟨64, mkS [(2, .x (.one (.ptr 102 0))), (3, .x (.one (.ptr 103 0))), (4, .x (.one (.ptr 104 0))), (6, .x (.one (.p (.val (.int .u64 (IntKind.u64.wrap a.Den)))))), (7, .x (.one (.p (.val (.int .u64 (IntKind.u64.wrap b.Den)))))), (8, .x (.one (.p (.val (.int .u64 y1)))))], mkH [(102, .var [.p (pi a.Num), .p (pi a.Den)]), (103, .var [.p (pi b.Num), .p (pi b.Den)]), (104, .var [.p (pi (0 : Int)), .p (pi (0 : Int))])]⟩) ?_
    replace H0 := req_some H0
    obtain ⟨q_12, H0⟩ := H0
    replace H0 := bind_some H0
    obtain ⟨y2, h_2, H0⟩ := H0
    replace H0 := req_some H0
    obtain ⟨q_13, H0⟩ := H0
    replace H0 := bind_some H0
    obtain ⟨y3, h_3, H0⟩ := H0
    replace H0 := bind_some H0
    obtain ⟨y4, h_4, H0⟩ := H0
    refine lok_et (Env.of E0 [⟨some 34, 63, [.one (.p (pi a.Num)), .one (.p (.val (.int .u64 (IntKind.u64.wrap (Int.tdiv (IntKind.u64.wrap b.Den) y1)))))], [], [.agg [.p (.val (.bool y2.neg)), .p (.val (.int .u64 y2.abs.hi)), .p (.val (.int .u64 y2.abs.lo))]], [], True, fun _ => ok_ratio_signedProduct a.Num (IntKind.u64.wrap (Int.tdiv (IntKind.u64.wrap b.Den) y1)) y2 h_2, []⟩,
      ⟨some 40, 63, [.one (.p (pi b.Num)), .one (.p (.val (.int .u64 (IntKind.u64.wrap (Int.tdiv (IntKind.u64.wrap a.Den) y1)))))], [], [.agg [.p (.val (.bool y3.neg)), .p (.val (.int .u64 y3.abs.hi)), .p (.val (.int .u64 y3.abs.lo))]], [], True, fun _ => ok_ratio_signedProduct b.Num (IntKind.u64.wrap (Int.tdiv (IntKind.u64.wrap a.Den) y1)) y3 h_3, []⟩,
      ⟨some 41, 64, [.agg [.p (.val (.bool y2.neg)), .p (.val (.int .u64 y2.abs.hi)), .p (.val (.int .u64 y2.abs.lo))], .agg [.p (.val (.bool y3.neg)), .p (.val (.int .u64 y3.abs.hi)), .p (.val (.int .u64 y3.abs.lo))]], [], [.agg [.p (.val (.bool y4.neg)), .p (.val (.int .u64 y4.abs.hi)), .p (.val (.int .u64 y4.abs.lo))]], [], True, fun _ => ok_ratio_signed_plus y2 y3 y4 h_4, []⟩]) 64 [⟨[(2, .x (.one (.ptr 102 0)))], [], [(29, .x (.one (.ptr 102 0)))], [], none⟩,
      ⟨[(29, .x (.one (.ptr 102 0)))], [(102, some (.var [.p (pi a.Num), .p (pi a.Den)]))], [(30, .x (.one (.p (pi a.Num))))], [], none⟩,
      ⟨[(7, .x (.one (.p (.val (.int .u64 (IntKind.u64.wrap b.Den))))))], [], [(31, .x (.one (.p (.val (.int .u64 (IntKind.u64.wrap b.Den))))))], [], none⟩,
      ⟨[(8, .x (.one (.p (.val (.int .u64 y1)))))], [], [(32, .x (.one (.p (.val (.int .u64 y1)))))], [], none⟩,
      ⟨[(31, .x (.one (.p (.val (.int .u64 (IntKind.u64.wrap b.Den)))))), (32, .x (.one (.p (.val (.int .u64 y1)))))], [], [(33, .x (.one (.p (.val (.int .u64 (IntKind.u64.wrap (Int.tdiv (IntKind.u64.wrap b.Den) y1)))))))], [], none⟩,
      ⟨[(30, .x (.one (.p (pi a.Num)))), (33, .x (.one (.p (.val (.int .u64 (IntKind.u64.wrap (Int.tdiv (IntKind.u64.wrap b.Den) y1)))))))], [], [(34, .x (.agg [.p (.val (.bool y2.neg)), .p (.val (.int .u64 y2.abs.hi)), .p (.val (.int .u64 y2.abs.lo))]))], [], none⟩,
      ⟨[(3, .x (.one (.ptr 103 0)))], [], [(35, .x (.one (.ptr 103 0)))], [], none⟩,
      ⟨[(35, .x (.one (.ptr 103 0)))], [(103, some (.var [.p (pi b.Num), .p (pi b.Den)]))], [(36, .x (.one (.p (pi b.Num))))], [], none⟩,
      ⟨[(6, .x (.one (.p (.val (.int .u64 (IntKind.u64.wrap a.Den))))))], [], [(37, .x (.one (.p (.val (.int .u64 (IntKind.u64.wrap a.Den))))))], [], none⟩,
      ⟨[(8, .x (.one (.p (.val (.int .u64 y1)))))], [], [(38, .x (.one (.p (.val (.int .u64 y1)))))], [], none⟩,
      ⟨[(37, .x (.one (.p (.val (.int .u64 (IntKind.u64.wrap a.Den)))))), (38, .x (.one (.p (.val (.int .u64 y1)))))], [], [(39, .x (.one (.p (.val (.int .u64 (IntKind.u64.wrap (Int.tdiv (IntKind.u64.wrap a.Den) y1)))))))], [], none⟩,
      ⟨[(36, .x (.one (.p (pi b.Num)))), (39, .x (.one (.p (.val (.int .u64 (IntKind.u64.wrap (Int.tdiv (IntKind.u64.wrap a.Den) y1)))))))], [], [(40, .x (.agg [.p (.val (.bool y3.neg)), .p (.val (.int .u64 y3.abs.hi)), .p (.val (.int .u64 y3.abs.lo))]))], [], none⟩,
      ⟨[(34, .x (.agg [.p (.val (.bool y2.neg)), .p (.val (.int .u64 y2.abs.hi)), .p (.val (.int .u64 y2.abs.lo))])), (40, .x (.agg [.p (.val (.bool y3.neg)), .p (.val (.int .u64 y3.abs.hi)), .p (.val (.int .u64 y3.abs.lo))]))], [], [(41, .x (.agg [.p (.val (.bool y4.neg)), .p (.val (.int .u64 y4.abs.hi)), .p (.val (.int .u64 y4.abs.lo))]))], [], none⟩,
      ⟨[], [(109, none)], [(9, .x (.one (.ptr 109 0)))], [(109, some (.var [.p (.val (.bool false)), .p (.val (.int .u64 (0 : Int))), .p (.val (.int .u64 (0 : Int)))]))], some 109⟩] (⟨64, mkS [(4, .x (.one (.ptr 104 0))), (6, .x (.one (.p (.val (.int .u64 (IntKind.u64.wrap a.Den)))))), (7, .x (.one (.p (.val (.int .u64 (IntKind.u64.wrap b.Den)))))), (8, .x (.one (.p (.val (.int .u64 y1))))), (9, .x (.one (.ptr 109 0)))], mkH [(104, .var [.p (pi (0 : Int)), .p (pi (0 : Int))]), (109, .var [.p (.val (.bool y4.neg)), .p (.val (.int .u64 y4.abs.hi)), .p (.val (.int .u64 y4.abs.lo))])]⟩) (by kernel_rfl) (by kernel_rfl) (by kernel_rfl) rfl rfl rfl ?_
    replace H0 := bind_some H0
    obtain ⟨y5, h_5, H0⟩ := H0
    replace H0 := bind_some H0
    obtain ⟨y6, h_6, H0⟩ := H0
    refine lok_rt (Env.of E0 [⟨some 45, 28, [.agg [.p (.val (.int .u64 y4.abs.hi)), .p (.val (.int .u64 y4.abs.lo))], .one (.p (.val (.int .u64 y1)))], [], [.one (.p (.val (.int .u64 y5)))], [], True, fun _ => ok_ratio_wide_mod y4.abs y1 y5 h_5, []⟩,
      ⟨some 47, 50, [.one (.p (.val (.int .u64 y5))), .one (.p (.val (.int .u64 y1)))], [], [.one (.p (.val (.int .u64 y6)))], [], True, fun _ => ok_ratio_gcd y5 y1 y6 h_6, []⟩]) (⟨64, mkS [(4, .x (.one (.ptr 104 0))), (6, .x (.one (.p (.val (.int .u64 (IntKind.u64.wrap a.Den)))))), (7, .x (.one (.p (.val (.int .u64 (IntKind.u64.wrap b.Den)))))), (8, .x (.one (.p (.val (.int .u64 y1))))), (9, .x (.one (.ptr 109 0))), (10, .x (.one (.p (.val (.int .u64 y6)))))], mkH [(104, .var [.p (pi (0 : Int)), .p (pi (0 : Int))]), (109, .var [.p (.val (.bool y4.neg)), .p (.val (.int .u64 y4.abs.hi)), .p (.val (.int .u64 y4.abs.lo))])]⟩) ?_
    replace H0 := bind_some H0
    obtain ⟨y7, h_7, H0⟩ := H0
    replace H0 := req_some H0
    obtain ⟨⟨q_10, q_11⟩, H0⟩ := H0
    replace H0 := bind_some H0
    obtain ⟨y8, h_8, H0⟩ := H0
    replace H0 := bind_some H0
    obtain ⟨⟨y9, y10⟩, h_9, H0⟩ := H0
    try dsimp only at H0
    refine lok_dt (Env.of E0 [⟨some 53, 27, [.agg [.p (.val (.int .u64 y4.abs.hi)), .p (.val (.int .u64 y4.abs.lo))], .one (.p (.val (.int .u64 y6)))], [], [.agg [.p (.val (.int .u64 y7.hi)), .p (.val (.int .u64 y7.lo))]], [], True, fun _ => ok_ratio_wide_over y4.abs y6 y7 h_7, []⟩,
      ⟨some 60, 26, [.one (.p (.val (.int .u64 (IntKind.u64.wrap (Int.tdiv (IntKind.u64.wrap a.Den) y1))))), .one (.p (.val (.int .u64 (IntKind.u64.wrap (Int.tdiv (IntKind.u64.wrap b.Den) y6)))))], [], [.agg [.p (.val (.int .u64 y8.hi)), .p (.val (.int .u64 y8.lo))]], [], True, fun _ => ok_ratio_product (IntKind.u64.wrap (Int.tdiv (IntKind.u64.wrap a.Den) y1)) (IntKind.u64.wrap (Int.tdiv (IntKind.u64.wrap b.Den) y6)) y8 h_8, []⟩,
      ⟨some 61, 61, [.one (.p (.val (.bool y4.neg))), .agg [.p (.val (.int .u64 y7.hi)), .p (.val (.int .u64 y7.lo))], .agg [.p (.val (.int .u64 y8.hi)), .p (.val (.int .u64 y8.lo))]], [], [.agg [.p (pi y9.Num), .p (pi y9.Den)], .one (.p (pi y10))], [], True, fun _ => ok_ratio_fitted y4.neg y7 y8 (y9, y10) h_9, []⟩]) 16 (⟨64, mkS [(4, .x (.one (.ptr 104 0))), (5, .x (.one (.p (pi y10))))], mkH [(104, .var [.p (pi y9.Num), .p (pi y9.Den)])]⟩) (by kernel_rfl) (by kernel_rfl) ?_
    refine lok_ret ?_
    obtain rfl := Option.some.inj H0
    try simp only [thenL, blockL]
    exact fin_au _ (.inr rfl) [] (⟨64, mkS [(4, .x (.one (.ptr 104 0))), (5, .x (.one (.p (pi y10))))], mkH [(104, .var [.p (pi y9.Num), .p (pi y9.Den)])]⟩) rfl rfl imp_au
end Go.LS
