/-
  The walks: the functions compute what the plain ones say. Condition: the plain function has a value.
-/
import Derived.Test.YtfioceejanpjfaaK3
namespace Go.LS
open Go.Proofs
set_option linter.all false
set_option linter.unusedSimpArgs false
set_option linter.unusedVariables false
set_option maxRecDepth 20000
theorem epLit_encS_3 (a0 a1 a2 : Str) (n : Int) : epAt [.val (.string (bs ([] : Str)))] [[.val (.string (bs a0))], [.val (.string (bs a1))], [.val (.string (bs a2))]] n.toNat = [.val (.string (bs (ix [a0, a1, a2] n)))] := epAt_encS [a0, a1, a2] n
theorem epLit_encS_5 (a0 a1 a2 a3 a4 : Str) (n : Int) : epAt [.val (.string (bs ([] : Str)))] [[.val (.string (bs a0))], [.val (.string (bs a1))], [.val (.string (bs a2))], [.val (.string (bs a3))], [.val (.string (bs a4))]] n.toNat = [.val (.string (bs (ix [a0, a1, a2, a3, a4] n)))] := epAt_encS [a0, a1, a2, a3, a4] n
theorem strOf_lit1 (x : Int) : bs [byteOf1 [.val (.int .u8 x)]] = bs (strOf [x]) := rfl
theorem isByte_lit (n : Int) : isByte [.val (.int .u8 n)] = True := by simp [isByte]
attribute [go_sem] epLit_encS_3 epLit_encS_5 strOf_lit1 isByte_lit

theorem ok_law01_RatioReads (t : List Int) (r_ : Bool) (H0 : law01_RatioReads t = some r_) : CallOK Try.prog 4 [.one (.p (.sl 1 (List.map encI t)))] [] [.one (.p (.val (.bool r_)))] [] := by
  refine callOK (n := 87) (rs := [.tmp 2]) (nb := 0) (V := []) Try.func4 rfl (by kernel_rfl) rfl rfl rfl rfl (Nat.le_of_ble_eq_true rfl) (by decide) ?_
  unfold law01_RatioReads at H0
  refine lok_rt E0 (⟨87, mkS [(0, .x (.one (.p (.sl 1 (List.map encI t)))))], mkH []⟩) ?_
  replace H0 := bind_some H0
  obtain ⟨y, h_0, H0⟩ := H0
  refine lok_rt (Env.of E0 [⟨some 12, 11, [.one (.p (.sl 1 (List.map encI t)))], [], [.one (.ptr 0 0)], [some (.var [.p (.sl 1 (List.map encI y.L)), .p (pi y.At)])], True, fun _ => ok_make_New t y h_0, []⟩]) (⟨87, mkS [(3, .x (.one (.ptr 1012 0)))], mkH [(1012, .var [.p (.sl 1 (List.map encI y.L)), .p (pi y.At)])]⟩) ?_
  refine lok_rt E0 (⟨87, mkS [(3, .x (.one (.ptr 1012 0))), (4, .x (.one (.p (.val (.string (bs ([] : Str)))))))], mkH [(1012, .var [.p (.sl 1 (List.map encI y.L)), .p (pi y.At)])]⟩) ?_
  refine lok_join (fun x_ : Str × (List Int) × Int => law01_RatioReads_j6 x_.1 x_.2.1 x_.2.2 = some r_) (fun x_ => ⟨87, mkS [(3, .x (.one (.ptr 1012 0))), (4, .x (.one (.p (.val (.string (bs x_.1))))))], mkH [(1012, .var [.p (.sl 1 (List.map encI x_.2.1)), .p (pi x_.2.2)])]⟩) ?hylaw01_RatioReads_j6 ?hxlaw01_RatioReads_j6
  case hylaw01_RatioReads_j6 =>
    rintro ⟨s, w, w1⟩ H0
    try dsimp only at H0 ⊢
    unfold law01_RatioReads_j6 at H0
    refine lok_join (fun x_ : Str × (List Int) × Int => law01_RatioReads_j4 x_.1 x_.2.1 x_.2.2 = some r_) (fun x_ => ⟨87, mkS [(3, .x (.one (.ptr 1012 0))), (4, .x (.one (.p (.val (.string (bs x_.1))))))], mkH [(1012, .var [.p (.sl 1 (List.map encI x_.2.1)), .p (pi x_.2.2)])]⟩) ?hylaw01_RatioReads_j4 ?hxlaw01_RatioReads_j4
    case hylaw01_RatioReads_j4 =>
      rintro ⟨s1, w2, w3⟩ H0
      try dsimp only at H0 ⊢
      unfold law01_RatioReads_j4 at H0
      replace H0 := bind_some H0
      obtain ⟨⟨y1, y2⟩, h_1, H0⟩ := H0
      try dsimp only at H0
      replace H0 := req_some H0
      obtain ⟨⟨q_23, q_24⟩, H0⟩ := H0
      refine lok_rt (Env.of E0 [⟨some 34, 12, [.one (.ptr 0 0), .one (.p (pi (3 : Int)))], [.var [.p (.sl 1 (List.map encI w2)), .p (pi w3)]], [.one (.p (pi y1))], [some (.var [.p (.sl 1 (List.map encI y2.L)), .p (pi y2.At)])], True, fun _ => ok_make_Tape_Next (make_Tape.mk w2 w3) (3 : Int) (y1, y2) h_1, []⟩]) (⟨87, mkS [(3, .x (.one (.ptr 1012 0))), (4, .x (.one (.p (.val (.string (bs (s1 ++ (ix ([([] : Str), ([47] : Str), ([46] : Str)]) y1))))))))], mkH [(1012, .var [.p (.sl 1 (List.map encI y2.L)), .p (pi y2.At)])]⟩) ?_
      refine lok_join (fun x_ : Str × (List Int) × Int => law01_RatioReads_j2 x_.1 x_.2.1 x_.2.2 = some r_) (fun x_ => ⟨87, mkS [(3, .x (.one (.ptr 1012 0))), (4, .x (.one (.p (.val (.string (bs x_.1))))))], mkH [(1012, .var [.p (.sl 1 (List.map encI x_.2.1)), .p (pi x_.2.2)])]⟩) ?hylaw01_RatioReads_j2 ?hxlaw01_RatioReads_j2
      case hylaw01_RatioReads_j2 =>
        rintro ⟨s2, w4, w5⟩ H0
        try dsimp only at H0 ⊢
        unfold law01_RatioReads_j2 at H0
        refine lok_join (fun x_ : Str => law01_RatioReads_j1 x_ = some r_) (fun x_ => ⟨87, mkS [(4, .x (.one (.p (.val (.string (bs x_))))))], mkH []⟩) ?hylaw01_RatioReads_j1 ?hxlaw01_RatioReads_j1
        case hylaw01_RatioReads_j1 =>
          rintro s3 H0
          try dsimp only at H0 ⊢
          unfold law01_RatioReads_j1 at H0
          replace H0 := bind_some H0
          obtain ⟨⟨y3, y4⟩, h_2, H0⟩ := H0
          try dsimp only at H0
          refine lok_rt (Env.of E0 [⟨some 68, 8, [.one (.p (.val (.string (bs s3))))], [], [.agg [.p (pi y3.Num), .p (pi y3.Den)], .one (.p (pi y4))], [], True, fun _ => ok_ratio_Parse s3 (y3, y4) h_2, []⟩]) (⟨87, mkS [(4, .x (.one (.p (.val (.string (bs s3)))))), (7, .x (.one (.ptr 107 0))), (8, .x (.one (.p (pi y4))))], mkH [(107, .var [.p (pi y3.Num), .p (pi y3.Den)])]⟩) ?_
          replace H0 := bind_some H0
          obtain ⟨⟨y5, y6⟩, h_3, H0⟩ := H0
          try dsimp only at H0
          refine lok_rt (Env.of E0 [⟨some 73, 9, [.one (.p (.val (.string (bs s3))))], [], [.agg [.p (pi y5.Num), .p (pi y5.Den)], .one (.p (pi y6))], [], True, fun _ => ok_ref01_Parse s3 (y5, y6) h_3, []⟩]) (⟨87, mkS [(7, .x (.one (.ptr 107 0))), (8, .x (.one (.p (pi y4)))), (9, .x (.one (.ptr 109 0))), (10, .x (.one (.p (pi y6))))], mkH [(107, .var [.p (pi y3.Num), .p (pi y3.Den)]), (109, .var [.p (pi y5.Num), .p (pi y5.Den)])]⟩) ?_
          replace H0 := req_some H0
          obtain ⟨q_4, H0⟩ := H0
          refine lok_rt (Env.of E0 [⟨some 85, 10, [], [], [.one (.p (.val (.bool ((law01_awake).getD default))))], [], (law01_awake).isSome = true, fun h => ok_law01_awake _ (isSome_get h), []⟩]) (⟨87, mkS [(2, .x (.one (.p (.val (.bool ((((y3.Num == y5.Num) && (y3.Den == y5.Den)) && (y4 == y6)) && ((law01_awake).getD default)))))))], mkH []⟩) ?_
          refine lok_ret ?_
          obtain rfl := Option.some.inj H0
          try simp only [thenL, blockL]
          exact fin_au _ (.inr rfl) [] (⟨87, mkS [(2, .x (.one (.p (.val (.bool ((((y3.Num == y5.Num) && (y3.Den == y5.Den)) && (y4 == y6)) && ((law01_awake).getD default)))))))], mkH []⟩) rfl rfl imp_au
        case hxlaw01_RatioReads_j1 =>
          replace H0 := bind_some H0
          obtain ⟨⟨y7, y8⟩, h_5, H0⟩ := H0
          try dsimp only at H0
          refine lok_rt (Env.of E0 [⟨some 58, 16, [.one (.ptr 0 0), .one (.p (pi (8 : Int)))], [.var [.p (.sl 1 (List.map encI w4)), .p (pi w5)]], [.one (.p (.val (.bool y7)))], [some (.var [.p (.sl 1 (List.map encI y8.L)), .p (pi y8.At)])], True, fun _ => ok_make_Tape_One (make_Tape.mk w4 w5) (8 : Int) (y7, y8) h_5, []⟩]) (⟨87, mkS [(3, .x (.one (.ptr 1012 0))), (4, .x (.one (.p (.val (.string (bs s2)))))), (58, .x (.one (.p (.val (.bool y7)))))], mkH [(1012, .var [.p (.sl 1 (List.map encI y8.L)), .p (pi y8.At)])]⟩) ?_
          refine lok_c y7 ?_ ?_
          · intro b_10
            replace H0 := cpos H0 b_10
            replace H0 := bind_some H0
            obtain ⟨⟨y9, y10⟩, h_6, H0⟩ := H0
            try dsimp only at H0
            replace H0 := req_some H0
            obtain ⟨⟨q_8, q_9⟩, H0⟩ := H0
            replace H0 := bindV_some H0
            obtain ⟨s4, a_7, H0⟩ := H0
            refine lok_rlg (Env.of E0 [⟨some 62, 12, [.one (.ptr 0 0), .one (.p (pi (5 : Int)))], [.var [.p (.sl 1 (List.map encI y8.L)), .p (pi y8.At)]], [.one (.p (pi y9))], [some (.var [.p (.sl 1 (List.map encI y10.L)), .p (pi y10.At)])], True, fun _ => ok_make_Tape_Next y8 (5 : Int) (y9, y10) h_6, []⟩]) a_7 (⟨87, mkS [(4, .x (.one (.p (.val (.string (bs s4))))))], mkH []⟩) ?_
            try simp only [thenL, blockL, ↓reduceIte, reduceCtorEq]
            exact ⟨s4, H0, imp_au⟩
          · intro b_10
            replace H0 := cneg H0 b_10
            refine lok_skip ?_
            try simp only [thenL, blockL, ↓reduceIte, reduceCtorEq]
            exact ⟨s2, H0, imp_au⟩
      case hxlaw01_RatioReads_j2 =>
        replace H0 := bind_some H0
        obtain ⟨⟨y11, y12⟩, h_11, H0⟩ := H0
        try dsimp only at H0
        refine lok_rt (Env.of E0 [⟨some 39, 13, [.one (.ptr 0 0), .one (.p (pi (0 : Int))), .one (.p (pi (20 : Int)))], [.var [.p (.sl 1 (List.map encI y2.L)), .p (pi y2.At)]], [.one (.p (pi y11))], [some (.var [.p (.sl 1 (List.map encI y12.L)), .p (pi y12.At)])], True, fun _ => ok_make_Tape_Range y2 (0 : Int) (20 : Int) (y11, y12) h_11, []⟩]) (⟨87, mkS [(3, .x (.one (.ptr 1012 0))), (4, .x (.one (.p (.val (.string (bs (s1 ++ (ix ([([] : Str), ([47] : Str), ([46] : Str)]) y1)))))))), (6, .x (.one (.p (pi y11))))], mkH [(1012, .var [.p (.sl 1 (List.map encI y12.L)), .p (pi y12.At)])]⟩) ?_
        refine lok_block ?_
        replace H0 := bind_some H0
        obtain ⟨v_12, hv_12, H0⟩ := H0
        refine lok_iter (fun x_ => ⟨87, mkS [(3, .x (.one (.ptr 1012 0))), (4, .x (.one (.p (.val (.string (bs x_.1)))))), (6, .x (.one (.p (pi x_.2.1))))], mkH [(1012, .var [.p (.sl 1 (List.map encI x_.2.2.1)), .p (pi x_.2.2.2)])]⟩) hv_12 imp_au ?_
        · rintro ⟨s5, i, w6, w7⟩ o_1 H1 k_1
          unfold law01_RatioReads_l3 at H1
          try dsimp only at H1 ⊢
          refine lok_seq ?_
          rcases bcases (decide ((0 : Int) < i)) with g_13 | g_13
          · replace H1 := cpos H1 g_13
            replace H1 := bind_some H1
            obtain ⟨⟨y13, y14⟩, h_14, H1⟩ := H1
            try dsimp only at H1
            refine lok_rtg (Env.of E0 [⟨some 44, 15, [.one (.ptr 0 0)], [.var [.p (.sl 1 (List.map encI w6)), .p (pi w7)]], [.one (.p (.val (.bool y13)))], [some (.var [.p (.sl 1 (List.map encI y14.L)), .p (pi y14.At)])], True, fun _ => ok_make_Tape_More (make_Tape.mk w6 w7) (y13, y14) h_14, []⟩]) g_13 (⟨87, mkS [(3, .x (.one (.ptr 1012 0))), (4, .x (.one (.p (.val (.string (bs s5)))))), (6, .x (.one (.p (pi i)))), (44, .x (.one (.p (.val (.bool y13))))), (45, .x (.one (.p (.val (.bool y13)))))], mkH [(1012, .var [.p (.sl 1 (List.map encI y14.L)), .p (pi y14.At)])]⟩) ?_
            refine lok_c y13 ?_ ?_
            · intro b_18
              replace H1 := cpos H1 b_18
              refine lok_skip ?_
              try simp only [thenL, blockL, ↓reduceIte, reduceCtorEq]
              refine lok_seq ?_
              refine lok_block ?_
              replace H1 := bind_some H1
              obtain ⟨⟨y15, y16⟩, h_15, H1⟩ := H1
              try dsimp only at H1
              replace H1 := req_some H1
              obtain ⟨q_17, H1⟩ := H1
              replace H1 := bindV_some H1
              obtain ⟨s7, a_16, H1⟩ := H1
              refine lok_rlg (Env.of E0 [⟨some 51, 14, [.one (.ptr 0 0), .one (.p (.sl 1 (List.map encI ([(0 : Int), (0 : Int), (1 : Int), (9 : Int), (5 : Int)]))))], [.var [.p (.sl 1 (List.map encI y14.L)), .p (pi y14.At)]], [.one (.p (pi y15))], [some (.var [.p (.sl 1 (List.map encI y16.L)), .p (pi y16.At)])], True, fun _ => ok_make_Tape_Pick y14 ([(0 : Int), (0 : Int), (1 : Int), (9 : Int), (5 : Int)]) (y15, y16) h_15, []⟩]) a_16 (⟨87, mkS [(3, .x (.one (.ptr 1012 0))), (4, .x (.one (.p (.val (.string (bs s7)))))), (6, .x (.one (.p (pi i)))), (44, .x (.one (.p (.val (.bool y13)))))], mkH [(1012, .var [.p (.sl 1 (List.map encI y16.L)), .p (pi y16.At)])]⟩) ?_
              try simp only [thenL, blockL, ↓reduceIte, reduceCtorEq]
              refine lok_rl E0 (⟨87, mkS [(3, .x (.one (.ptr 1012 0))), (4, .x (.one (.p (.val (.string (bs s7)))))), (6, .x (.one (.p (pi (IntKind.i64.wrap (i - (1 : Int))))))), (44, .x (.one (.p (.val (.bool y13)))))], mkH [(1012, .var [.p (.sl 1 (List.map encI y16.L)), .p (pi y16.At)])]⟩) ?_
              try simp only [thenL, blockL, ↓reduceIte, reduceCtorEq]
              exact ⟨(s7, (IntKind.i64.wrap (i - (1 : Int))), y16.L, y16.At), (Option.some.inj H1).symm, imp_au⟩
            · intro b_18
              replace H1 := cneg H1 b_18
              refine lok_exit ?_
              try simp only [thenL, blockL, ↓reduceIte, reduceCtorEq]
              have e_1 := k_1 _ (Option.some.inj H1).symm
              subst e_1
              try dsimp only at H0
              try simp only [thenL, blockL, ↓reduceIte, reduceCtorEq]
              exact ⟨(s5, y14.L, y14.At), H0, imp_au⟩
          · replace H1 := cneg H1 g_13
            refine lok_rtg E0 g_13 (⟨87, mkS [(3, .x (.one (.ptr 1012 0))), (4, .x (.one (.p (.val (.string (bs s5)))))), (6, .x (.one (.p (pi i)))), (45, .x (.one (.p (.val (.bool false)))))], mkH [(1012, .var [.p (.sl 1 (List.map encI w6)), .p (pi w7)])]⟩) ?_
            refine lok_c false ?_ ?_
            · intro h; exact absurd h (by decide)
            · intro _
              refine lok_exit ?_
              try simp only [thenL, blockL, ↓reduceIte, reduceCtorEq]
              have e_1 := k_1 _ (Option.some.inj H1).symm
              subst e_1
              try dsimp only at H0
              try simp only [thenL, blockL, ↓reduceIte, reduceCtorEq]
              exact ⟨(s5, w6, w7), H0, imp_au⟩
    case hxlaw01_RatioReads_j4 =>
      replace H0 := bind_some H0
      obtain ⟨⟨y19, y20⟩, h_25, H0⟩ := H0
      try dsimp only at H0
      refine lok_rt (Env.of E0 [⟨some 17, 13, [.one (.ptr 0 0), .one (.p (pi (0 : Int))), .one (.p (pi (20 : Int)))], [.var [.p (.sl 1 (List.map encI w)), .p (pi w1)]], [.one (.p (pi y19))], [some (.var [.p (.sl 1 (List.map encI y20.L)), .p (pi y20.At)])], True, fun _ => ok_make_Tape_Range (make_Tape.mk w w1) (0 : Int) (20 : Int) (y19, y20) h_25, []⟩]) (⟨87, mkS [(3, .x (.one (.ptr 1012 0))), (4, .x (.one (.p (.val (.string (bs s)))))), (5, .x (.one (.p (pi y19))))], mkH [(1012, .var [.p (.sl 1 (List.map encI y20.L)), .p (pi y20.At)])]⟩) ?_
      refine lok_block ?_
      replace H0 := bind_some H0
      obtain ⟨v_26, hv_26, H0⟩ := H0
      refine lok_iter (fun x_ => ⟨87, mkS [(3, .x (.one (.ptr 1012 0))), (4, .x (.one (.p (.val (.string (bs x_.1)))))), (5, .x (.one (.p (pi x_.2.1))))], mkH [(1012, .var [.p (.sl 1 (List.map encI x_.2.2.1)), .p (pi x_.2.2.2)])]⟩) hv_26 imp_au ?_
      · rintro ⟨s9, i1, w10, w11⟩ o_1 H1 k_1
        unfold law01_RatioReads_l5 at H1
        try dsimp only at H1 ⊢
        refine lok_seq ?_
        refine lok_rt E0 (⟨87, mkS [(3, .x (.one (.ptr 1012 0))), (4, .x (.one (.p (.val (.string (bs s9)))))), (5, .x (.one (.p (pi i1)))), (19, .x (.one (.p (.val (.bool (decide ((0 : Int) < i1)))))))], mkH [(1012, .var [.p (.sl 1 (List.map encI w10)), .p (pi w11)])]⟩) ?_
        refine lok_c (decide ((0 : Int) < i1)) ?_ ?_
        · intro b_30
          replace H1 := cpos H1 b_30
          refine lok_skip ?_
          try simp only [thenL, blockL, ↓reduceIte, reduceCtorEq]
          refine lok_seq ?_
          refine lok_block ?_
          replace H1 := bind_some H1
          obtain ⟨⟨y21, y22⟩, h_27, H1⟩ := H1
          try dsimp only at H1
          replace H1 := req_some H1
          obtain ⟨q_29, H1⟩ := H1
          replace H1 := bindV_some H1
          obtain ⟨s11, a_28, H1⟩ := H1
          refine lok_rlg (Env.of E0 [⟨some 25, 14, [.one (.ptr 0 0), .one (.p (.sl 1 (List.map encI ([(0 : Int), (1 : Int), (9 : Int), (5 : Int)]))))], [.var [.p (.sl 1 (List.map encI w10)), .p (pi w11)]], [.one (.p (pi y21))], [some (.var [.p (.sl 1 (List.map encI y22.L)), .p (pi y22.At)])], True, fun _ => ok_make_Tape_Pick (make_Tape.mk w10 w11) ([(0 : Int), (1 : Int), (9 : Int), (5 : Int)]) (y21, y22) h_27, []⟩]) a_28 (⟨87, mkS [(3, .x (.one (.ptr 1012 0))), (4, .x (.one (.p (.val (.string (bs s11)))))), (5, .x (.one (.p (pi i1))))], mkH [(1012, .var [.p (.sl 1 (List.map encI y22.L)), .p (pi y22.At)])]⟩) ?_
          try simp only [thenL, blockL, ↓reduceIte, reduceCtorEq]
          refine lok_rl E0 (⟨87, mkS [(3, .x (.one (.ptr 1012 0))), (4, .x (.one (.p (.val (.string (bs s11)))))), (5, .x (.one (.p (pi (IntKind.i64.wrap (i1 - (1 : Int)))))))], mkH [(1012, .var [.p (.sl 1 (List.map encI y22.L)), .p (pi y22.At)])]⟩) ?_
          try simp only [thenL, blockL, ↓reduceIte, reduceCtorEq]
          exact ⟨(s11, (IntKind.i64.wrap (i1 - (1 : Int))), y22.L, y22.At), (Option.some.inj H1).symm, imp_au⟩
        · intro b_30
          replace H1 := cneg H1 b_30
          refine lok_exit ?_
          try simp only [thenL, blockL, ↓reduceIte, reduceCtorEq]
          have e_1 := k_1 _ (Option.some.inj H1).symm
          subst e_1
          try dsimp only at H0
          try simp only [thenL, blockL, ↓reduceIte, reduceCtorEq]
          exact ⟨(s9, w10, w11), H0, imp_au⟩
  case hxlaw01_RatioReads_j6 =>
    replace H0 := bind_some H0
    obtain ⟨⟨y23, y24⟩, h_31, H0⟩ := H0
    try dsimp only at H0
    refine lok_rt (Env.of E0 [⟨some 14, 12, [.one (.ptr 0 0), .one (.p (pi (2 : Int)))], [.var [.p (.sl 1 (List.map encI y.L)), .p (pi y.At)]], [.one (.p (pi y23))], [some (.var [.p (.sl 1 (List.map encI y24.L)), .p (pi y24.At)])], True, fun _ => ok_make_Tape_Next y (2 : Int) (y23, y24) h_31, []⟩]) (⟨87, mkS [(3, .x (.one (.ptr 1012 0))), (4, .x (.one (.p (.val (.string (bs ([] : Str))))))), (15, .x (.one (.p (.val (.bool (y23 == (1 : Int)))))))], mkH [(1012, .var [.p (.sl 1 (List.map encI y24.L)), .p (pi y24.At)])]⟩) ?_
    refine lok_c (y23 == (1 : Int)) ?_ ?_
    · intro b_32
      replace H0 := cpos H0 b_32
      refine lok_rl E0 (⟨87, mkS [(3, .x (.one (.ptr 1012 0))), (4, .x (.one (.p (.val (.string (bs ([45] : Str)))))))], mkH [(1012, .var [.p (.sl 1 (List.map encI y24.L)), .p (pi y24.At)])]⟩) ?_
      try simp only [thenL, blockL, ↓reduceIte, reduceCtorEq]
      exact ⟨(([45] : Str), y24.L, y24.At), H0, imp_au⟩
    · intro b_32
      replace H0 := cneg H0 b_32
      refine lok_skip ?_
      try simp only [thenL, blockL, ↓reduceIte, reduceCtorEq]
      exact ⟨(([] : Str), y24.L, y24.At), H0, imp_au⟩
end Go.LS
