/-
  The walks: the functions compute what the plain ones say. Condition: the plain function has a value.
-/
import Derived.Test.YtamifffofclhkaaGreatK2
import Derived.Test.YtamifffofclhkaaGreatD3
namespace Go.LS
open Go.Proofs
set_option linter.all false
set_option linter.unusedSimpArgs false
set_option linter.unusedVariables false
set_option maxRecDepth 20000

set_option maxHeartbeats 4000000 in
theorem ok_mark_Dice_Curve (d:mark_Dice) (r_:api_Curve × mark_Dice) (H0:mark_Dice_Curve d=some r_):CallOK Tryz.prog 19 [.one (.ptr 0 0)] [.var [.p (.sl 1 (List.map encI d.L)),.p (pi d.At)]] [.agg [.p (.sl 4 (List.map enc_api_Point r_.1.Points))]] [some (.var [.p (.sl 1 (List.map encI r_.2.L)),.p (pi r_.2.At)])]:=by
  refine callOK (n:=48) (rs:=[.cell 2 29]) (nb:=1) (V:=[0]) Tryz.func19 rfl (by kernel_rfl) rfl rfl rfl rfl (Nat.le_of_ble_eq_true rfl) (by decide) ?_
  unfold mark_Dice_Curve at H0
  refine lok_rt E0 (⟨48,mkS [(0,.x (.one (.ptr 0 0))),(2,.x (.one (.ptr 102 0)))],mkH [(0,.var [.p (.sl 1 (List.map encI d.L)),.p (pi d.At)]),(102,.var [.p .nil])]⟩) ?_
  replace H0:=bind_some H0
  obtain ⟨⟨y,y1⟩,h_0,H0⟩:=H0
  try dsimp only at H0
  replace H0:=bind_some H0
  obtain ⟨⟨y2,y3⟩,h_1,H0⟩:=H0
  try dsimp only at H0
  refine lok_rt (Env.of E0 [⟨some 8,9,[.one (.ptr 0 0),.one (.p (pi (9:Int)))],[.var [.p (.sl 1 (List.map encI d.L)),.p (pi d.At)]],[.one (.p (pi y))],[some (.var [.p (.sl 1 (List.map encI y1.L)),.p (pi y1.At)])],True,fun _ => ok_mark_Dice_Next d (9:Int) (y,y1) h_0,[]⟩,
      ⟨some 11,9,[.one (.ptr 0 0),.one (.p (pi (9:Int)))],[.var [.p (.sl 1 (List.map encI y1.L)),.p (pi y1.At)]],[.one (.p (pi y2))],[some (.var [.p (.sl 1 (List.map encI y3.L)),.p (pi y3.At)])],True,fun _ => ok_mark_Dice_Next y1 (9:Int) (y2,y3) h_1,[]⟩]) (⟨48,mkS [(0,.x (.one (.ptr 0 0))),(2,.x (.one (.ptr 102 0))),(3,.x (.one (.p (pi (IntKind.i64.wrap (y-(4:Int))))))),(4,.x (.one (.p (pi (IntKind.i64.wrap (y2-(4:Int)))))))],mkH [(0,.var [.p (.sl 1 (List.map encI y3.L)),.p (pi y3.At)]),(102,.var [.p .nil])]⟩) ?_
  refine lok_rt E0 (⟨48,mkS [(0,.x (.one (.ptr 0 0))),(2,.x (.one (.ptr 102 0))),(3,.x (.one (.p (pi (IntKind.i64.wrap (y-(4:Int))))))),(4,.x (.one (.p (pi (IntKind.i64.wrap (y2-(4:Int))))))),(5,.x (.one (.ptr 105 0)))],mkH [(0,.var [.p (.sl 1 (List.map encI y3.L)),.p (pi y3.At)]),(102,.var [.p .nil]),(105,.var [.fl 4 (List.map enc_api_Point ([(api_Point.mk (api_Ratio.mk (IntKind.i64.wrap (y-(4:Int))) (1:Int)) (api_Ratio.mk (IntKind.i64.wrap (y2-(4:Int))) (1:Int)))]))])]⟩) ?_
  refine lok_join (fun x_:(List Int) × Int × (List api_Point) => mark_Dice_Curve_j1 x_.1 x_.2.1 x_.2.2=some r_) (fun x_ => ⟨48,mkS [(2,.x (.one (.ptr 102 0))),(5,.x (.one (.ptr 105 0)))],mkH [(0,.var [.p (.sl 1 (List.map encI x_.1)),.p (pi x_.2.1)]),(102,.var [.p .nil]),(105,.var [.p (.sl 4 (List.map enc_api_Point x_.2.2))])]⟩) ?hymark_Dice_Curve_j1 ?hxmark_Dice_Curve_j1
  case hymark_Dice_Curve_j1 =>
    rintro ⟨d1,d2,c⟩ H0
    try dsimp only at H0 ⊢
    unfold mark_Dice_Curve_j1 at H0
    refine lok_rt E0 (⟨48,mkS [(2,.x (.one (.ptr 102 0)))],mkH [(0,.var [.p (.sl 1 (List.map encI d1)),.p (pi d2)]),(102,.var [.p (.sl 4 (List.map enc_api_Point c))])]⟩) ?_
    refine lok_ret ?_
    obtain rfl:=Option.some.inj H0
    try simp only [thenL,blockL]
    exact fin_au _ (.inr rfl) [0] (⟨48,mkS [(2,.x (.one (.ptr 102 0)))],mkH [(0,.var [.p (.sl 1 (List.map encI d1)),.p (pi d2)]),(102,.var [.p (.sl 4 (List.map enc_api_Point c))])]⟩) rfl rfl imp_au
  case hxmark_Dice_Curve_j1 =>
    replace H0:=bind_some H0
    obtain ⟨⟨y4,y5⟩,h_2,H0⟩:=H0
    try dsimp only at H0
    refine lok_rt (Env.of E0 [⟨some 21,9,[.one (.ptr 0 0),.one (.p (pi (4:Int)))],[.var [.p (.sl 1 (List.map encI y3.L)),.p (pi y3.At)]],[.one (.p (pi y4))],[some (.var [.p (.sl 1 (List.map encI y5.L)),.p (pi y5.At)])],True,fun _ => ok_mark_Dice_Next y3 (4:Int) (y4,y5) h_2,[]⟩]) (⟨48,mkS [(0,.x (.one (.ptr 0 0))),(2,.x (.one (.ptr 102 0))),(3,.x (.one (.p (pi (IntKind.i64.wrap (y-(4:Int))))))),(4,.x (.one (.p (pi (IntKind.i64.wrap (y2-(4:Int))))))),(5,.x (.one (.ptr 105 0))),(6,.x (.one (.p (pi (IntKind.i64.wrap ((1:Int)+y4))))))],mkH [(0,.var [.p (.sl 1 (List.map encI y5.L)),.p (pi y5.At)]),(102,.var [.p .nil]),(105,.var [.fl 4 (List.map enc_api_Point ([(api_Point.mk (api_Ratio.mk (IntKind.i64.wrap (y-(4:Int))) (1:Int)) (api_Ratio.mk (IntKind.i64.wrap (y2-(4:Int))) (1:Int)))]))])]⟩) ?_
    refine lok_block ?_
    refine lok_unroll ?_
    refine lok_seq ?_
    refine lok_rt E0 (⟨48,mkS [(0,.x (.one (.ptr 0 0))),(2,.x (.one (.ptr 102 0))),(3,.x (.one (.p (pi (IntKind.i64.wrap (y-(4:Int))))))),(4,.x (.one (.p (pi (IntKind.i64.wrap (y2-(4:Int))))))),(5,.x (.one (.ptr 105 0))),(6,.x (.one (.p (pi (IntKind.i64.wrap ((1:Int)+y4)))))),(24,.x (.one (.p (.val (.bool (decide ((0:Int)<(IntKind.i64.wrap ((1:Int)+y4)))))))))],mkH [(0,.var [.p (.sl 1 (List.map encI y5.L)),.p (pi y5.At)]),(102,.var [.p .nil]),(105,.var [.fl 4 (List.map enc_api_Point ([(api_Point.mk (api_Ratio.mk (IntKind.i64.wrap (y-(4:Int))) (1:Int)) (api_Ratio.mk (IntKind.i64.wrap (y2-(4:Int))) (1:Int)))]))])]⟩) ?_
    refine lok_c (decide ((0:Int)<(IntKind.i64.wrap ((1:Int)+y4)))) ?_ ?_
    · intro b_15
      replace H0:=cpos H0 b_15
      refine lok_skip ?_
      try simp only [thenL,blockL,↓reduceIte,reduceCtorEq]
      refine lok_seq ?_
      refine lok_block ?_
      replace H0:=bind_some H0
      obtain ⟨⟨y6,y7⟩,h_3,H0⟩:=H0
      try dsimp only at H0
      replace H0:=bind_some H0
      obtain ⟨⟨y8,y9⟩,h_4,H0⟩:=H0
      try dsimp only at H0
      replace H0:=bindV_some H0
      obtain ⟨x,a_5,H0⟩:=H0
      replace H0:=bindV_some H0
      obtain ⟨y10,a_6,H0⟩:=H0
      refine lok_rtg (Env.of E0 [⟨some 30,9,[.one (.ptr 0 0),.one (.p (pi (3:Int)))],[.var [.p (.sl 1 (List.map encI y5.L)),.p (pi y5.At)]],[.one (.p (pi y6))],[some (.var [.p (.sl 1 (List.map encI y7.L)),.p (pi y7.At)])],True,fun _ => ok_mark_Dice_Next y5 (3:Int) (y6,y7) h_3,[]⟩,
      ⟨some 35,9,[.one (.ptr 0 0),.one (.p (pi (4:Int)))],[.var [.p (.sl 1 (List.map encI y7.L)),.p (pi y7.At)]],[.one (.p (pi y8))],[some (.var [.p (.sl 1 (List.map encI y9.L)),.p (pi y9.At)])],True,fun _ => ok_mark_Dice_Next y7 (4:Int) (y8,y9) h_4,[]⟩]) (And.intro a_5 a_6) (⟨48,mkS [(0,.x (.one (.ptr 0 0))),(2,.x (.one (.ptr 102 0))),(3,.x (.one (.p (pi x)))),(4,.x (.one (.p (pi y10)))),(5,.x (.one (.ptr 105 0))),(6,.x (.one (.p (pi (IntKind.i64.wrap ((1:Int)+y4))))))],mkH [(0,.var [.p (.sl 1 (List.map encI y9.L)),.p (pi y9.At)]),(102,.var [.p .nil]),(105,.var [.fl 4 (List.map enc_api_Point ([(api_Point.mk (api_Ratio.mk (IntKind.i64.wrap (y-(4:Int))) (1:Int)) (api_Ratio.mk (IntKind.i64.wrap (y2-(4:Int))) (1:Int)))]))])]⟩) ?_
      replace H0:=req_some H0
      obtain ⟨q_14,H0⟩:=H0
      replace H0:=bindV_some H0
      obtain ⟨w,a_7,H0⟩:=H0
      refine lok_rlg E0 a_7 (⟨48,mkS [(0,.x (.one (.ptr 0 0))),(2,.x (.one (.ptr 102 0))),(3,.x (.one (.p (pi x)))),(4,.x (.one (.p (pi y10)))),(5,.x (.one (.ptr 105 0))),(6,.x (.one (.p (pi (IntKind.i64.wrap ((1:Int)+y4))))))],mkH [(0,.var [.p (.sl 1 (List.map encI y9.L)),.p (pi y9.At)]),(102,.var [.p .nil]),(105,.var [.vw 145]),(145,.arr 4 (List.map enc_api_Point w))]⟩) ?_
      try simp only [thenL,blockL,↓reduceIte,reduceCtorEq]
      refine lok_rl E0 (⟨48,mkS [(0,.x (.one (.ptr 0 0))),(2,.x (.one (.ptr 102 0))),(3,.x (.one (.p (pi x)))),(4,.x (.one (.p (pi y10)))),(5,.x (.one (.ptr 105 0))),(6,.x (.one (.p (pi (IntKind.i64.wrap ((IntKind.i64.wrap ((1:Int)+y4))-(1:Int)))))))],mkH [(0,.var [.p (.sl 1 (List.map encI y9.L)),.p (pi y9.At)]),(102,.var [.p .nil]),(105,.var [.vw 145]),(145,.arr 4 (List.map enc_api_Point w))]⟩) ?_
      try simp only [thenL,blockL,↓reduceIte,reduceCtorEq]
      replace H0:=bind_some H0
      obtain ⟨v_8,hv_8,H0⟩:=H0
      refine lokin_iter (fun x_ => ⟨48,mkS [(0,.x (.one (.ptr 0 0))),(2,.x (.one (.ptr 102 0))),(3,.x (.one (.p (pi x_.1)))),(4,.x (.one (.p (pi x_.2.1)))),(5,.x (.one (.ptr 105 0))),(6,.x (.one (.p (pi x_.2.2.1))))],mkH [(0,.var [.p (.sl 1 (List.map encI x_.2.2.2.1)),.p (pi x_.2.2.2.2.1)]),(102,.var [.p .nil]),(105,.var [.vw 145]),(145,.arr 4 (List.map enc_api_Point x_.2.2.2.2.2))]⟩) hv_8 imp_au ?_
      · rintro ⟨x1,y11,i,d3,d4,w1⟩ o_1 H1 k_1
        unfold mark_Dice_Curve_l2 at H1
        try dsimp only at H1 ⊢
        refine lok_seq ?_
        refine lok_rt E0 (⟨48,mkS [(0,.x (.one (.ptr 0 0))),(2,.x (.one (.ptr 102 0))),(3,.x (.one (.p (pi x1)))),(4,.x (.one (.p (pi y11)))),(5,.x (.one (.ptr 105 0))),(6,.x (.one (.p (pi i)))),(24,.x (.one (.p (.val (.bool (decide ((0:Int)<i)))))))],mkH [(0,.var [.p (.sl 1 (List.map encI d3)),.p (pi d4)]),(102,.var [.p .nil]),(105,.var [.vw 145]),(145,.arr 4 (List.map enc_api_Point w1))]⟩) ?_
        refine lok_c (decide ((0:Int)<i)) ?_ ?_
        · intro b_13
          replace H1:=cpos H1 b_13
          refine lok_skip ?_
          try simp only [thenL,blockL,↓reduceIte,reduceCtorEq]
          refine lok_seq ?_
          refine lok_block ?_
          replace H1:=bind_some H1
          obtain ⟨⟨y12,y13⟩,h_9,H1⟩:=H1
          try dsimp only at H1
          replace H1:=bind_some H1
          obtain ⟨⟨y14,y15⟩,h_10,H1⟩:=H1
          try dsimp only at H1
          refine lok_rt (Env.of E0 [⟨some 30,9,[.one (.ptr 0 0),.one (.p (pi (3:Int)))],[.var [.p (.sl 1 (List.map encI d3)),.p (pi d4)]],[.one (.p (pi y12))],[some (.var [.p (.sl 1 (List.map encI y13.L)),.p (pi y13.At)])],True,fun _ => ok_mark_Dice_Next (mark_Dice.mk d3 d4) (3:Int) (y12,y13) h_9,[]⟩,
      ⟨some 35,9,[.one (.ptr 0 0),.one (.p (pi (4:Int)))],[.var [.p (.sl 1 (List.map encI y13.L)),.p (pi y13.At)]],[.one (.p (pi y14))],[some (.var [.p (.sl 1 (List.map encI y15.L)),.p (pi y15.At)])],True,fun _ => ok_mark_Dice_Next y13 (4:Int) (y14,y15) h_10,[]⟩]) (⟨48,mkS [(0,.x (.one (.ptr 0 0))),(2,.x (.one (.ptr 102 0))),(3,.x (.one (.p (pi (IntKind.i64.wrap ((IntKind.i64.wrap (x1+(1:Int)))+y12)))))),(4,.x (.one (.p (pi (IntKind.i64.wrap ((IntKind.i64.wrap (y11+(1:Int)))+y14)))))),(5,.x (.one (.ptr 105 0))),(6,.x (.one (.p (pi i))))],mkH [(0,.var [.p (.sl 1 (List.map encI y15.L)),.p (pi y15.At)]),(102,.var [.p .nil]),(105,.var [.vw 145]),(145,.arr 4 (List.map enc_api_Point w1))]⟩) ?_
          replace H1:=req_some H1
          obtain ⟨q_12,H1⟩:=H1
          replace H1:=bindV_some H1
          obtain ⟨w3,a_11,H1⟩:=H1
          refine lok_rlg E0 a_11 (⟨48,mkS [(0,.x (.one (.ptr 0 0))),(2,.x (.one (.ptr 102 0))),(3,.x (.one (.p (pi (IntKind.i64.wrap ((IntKind.i64.wrap (x1+(1:Int)))+y12)))))),(4,.x (.one (.p (pi (IntKind.i64.wrap ((IntKind.i64.wrap (y11+(1:Int)))+y14)))))),(5,.x (.one (.ptr 105 0))),(6,.x (.one (.p (pi i))))],mkH [(0,.var [.p (.sl 1 (List.map encI y15.L)),.p (pi y15.At)]),(102,.var [.p .nil]),(105,.var [.vw 145]),(145,.arr 4 (List.map enc_api_Point w3))]⟩) ?_
          try simp only [thenL,blockL,↓reduceIte,reduceCtorEq]
          refine lok_rl E0 (⟨48,mkS [(0,.x (.one (.ptr 0 0))),(2,.x (.one (.ptr 102 0))),(3,.x (.one (.p (pi (IntKind.i64.wrap ((IntKind.i64.wrap (x1+(1:Int)))+y12)))))),(4,.x (.one (.p (pi (IntKind.i64.wrap ((IntKind.i64.wrap (y11+(1:Int)))+y14)))))),(5,.x (.one (.ptr 105 0))),(6,.x (.one (.p (pi (IntKind.i64.wrap (i-(1:Int)))))))],mkH [(0,.var [.p (.sl 1 (List.map encI y15.L)),.p (pi y15.At)]),(102,.var [.p .nil]),(105,.var [.vw 145]),(145,.arr 4 (List.map enc_api_Point w3))]⟩) ?_
          try simp only [thenL,blockL,↓reduceIte,reduceCtorEq]
          exact ⟨((IntKind.i64.wrap ((IntKind.i64.wrap (x1+(1:Int)))+y12)),(IntKind.i64.wrap ((IntKind.i64.wrap (y11+(1:Int)))+y14)),(IntKind.i64.wrap (i-(1:Int))),y15.L,y15.At,w3),(Option.some.inj H1).symm,imp_au⟩
        · intro b_13
          replace H1:=cneg H1 b_13
          refine lok_exit ?_
          try simp only [thenL,blockL,↓reduceIte,reduceCtorEq]
          have e_1:=k_1 _ (Option.some.inj H1).symm
          subst e_1
          try dsimp only at H0
          try simp only [thenL,blockL,↓reduceIte,reduceCtorEq]
          exact ⟨(d3,d4,w1),H0,(Imp.trans (imp_frz 145 4 (List.map enc_api_Point w1)) imp_au)⟩
    · intro b_15
      replace H0:=cneg H0 b_15
      refine lok_exit ?_
      try simp only [thenL,blockL,↓reduceIte,reduceCtorEq]
      exact ⟨(y5.L,y5.At,[(api_Point.mk (api_Ratio.mk (IntKind.i64.wrap (y-(4:Int))) (1:Int)) (api_Ratio.mk (IntKind.i64.wrap (y2-(4:Int))) (1:Int)))]),H0,imp_au⟩
theorem ok_ratio_Less (a:api_Ratio) (b:api_Ratio) (r_:Bool) (H0:ratio_Less a b=some r_):CallOK Tryz.prog 104 [.agg [.p (pi a.Num),.p (pi a.Den)],.agg [.p (pi b.Num),.p (pi b.Den)]] [] [.one (.p (.val (.bool r_)))] []:=by
  refine callOK (n:=9) (rs:=[.tmp 4]) (nb:=0) (V:=[]) Tryz.func104 rfl (by kernel_rfl) rfl rfl rfl rfl (Nat.le_of_ble_eq_true rfl) (by decide) ?_
  unfold ratio_Less at H0
  refine lok_rt E0 (⟨9,mkS [(2,.x (.one (.ptr 102 0))),(3,.x (.one (.ptr 103 0)))],mkH [(102,.var [.p (pi a.Num),.p (pi a.Den)]),(103,.var [.p (pi b.Num),.p (pi b.Den)])]⟩) ?_
  replace H0:=bind_some H0
  obtain ⟨y,h_0,H0⟩:=H0
  refine lok_rt (Env.of E0 [⟨some 7,59,[.agg [.p (pi a.Num),.p (pi a.Den)],.agg [.p (pi b.Num),.p (pi b.Den)]],[],[.one (.p (pi y))],[],True,fun _ => ok_ratio_Compare a b y h_0,[]⟩]) (⟨9,mkS [(4,.x (.one (.p (.val (.bool (y==(-1:Int)))))))],mkH []⟩) ?_
  refine lok_ret ?_
  obtain rfl:=Option.some.inj H0
  try simp only [thenL,blockL]
  exact fin_au _ (.inr rfl) [] (⟨9,mkS [(4,.x (.one (.p (.val (.bool (y==(-1:Int)))))))],mkH []⟩) rfl rfl imp_au
set_option maxHeartbeats 4000000 in
theorem ok_conversion_ascending (points:List api_Point) (r_:Bool) (H0:conversion_ascending points=some r_):CallOK Tryz.prog 85 [.one (.p (.sl 4 (List.map enc_api_Point points)))] [] [.one (.p (.val (.bool r_)))] []:=by
  refine callOK (n:=49) (rs:=[.tmp 2]) (nb:=0) (V:=[]) Tryz.func85 rfl (by kernel_rfl) rfl rfl rfl rfl (Nat.le_of_ble_eq_true rfl) (by decide) ?_
  unfold conversion_ascending at H0
  refine lok_rt E0 (⟨49,mkS [(0,.x (.one (.p (.sl 4 (List.map enc_api_Point points)))))],mkH []⟩) ?_
  refine lok_join (fun x_:Unit => conversion_ascending_j1=some r_) (fun x_ => ⟨49,mkS [],mkH []⟩) ?hyconversion_ascending_j1 ?hxconversion_ascending_j1
  case hyconversion_ascending_j1 =>
    rintro _ H0
    try dsimp only at H0 ⊢
    unfold conversion_ascending_j1 at H0
    refine lok_rt E0 (⟨49,mkS [(2,.x (.one (.p (.val (.bool true)))))],mkH []⟩) ?_
    refine lok_ret ?_
    obtain rfl:=Option.some.inj H0
    try simp only [thenL,blockL]
    exact fin_au _ (.inr rfl) [] (⟨49,mkS [(2,.x (.one (.p (.val (.bool true)))))],mkH []⟩) rfl rfl imp_au
  case hxconversion_ascending_j1 =>
    refine lok_rt E0 (⟨49,mkS [(0,.x (.one (.p (.sl 4 (List.map enc_api_Point points))))),(5,.x (.one (.p (.sl 4 (List.map enc_api_Point points))))),(6,.x (.one (.p (pi (points.length:Int))))),(7,.x (.one (.p (pi (0:Int)))))],mkH []⟩) ?_
    refine lok_block ?_
    replace H0:=bind_some H0
    obtain ⟨v_0,hv_0,H0⟩:=H0
    refine lok_iter (fun x_ => ⟨49,mkS [(0,.x (.one (.p (.sl 4 (List.map enc_api_Point points))))),(5,.x (.one (.p (.sl 4 (List.map enc_api_Point points))))),(6,.x (.one (.p (pi (points.length:Int))))),(7,.x (.one (.p (pi x_))))],mkH []⟩) hv_0 imp_au ?_
    · rintro v o_1 H1 k_1
      unfold conversion_ascending_l2 at H1
      try dsimp only at H1 ⊢
      refine lok_rt E0 (⟨49,mkS [(0,.x (.one (.p (.sl 4 (List.map enc_api_Point points))))),(5,.x (.one (.p (.sl 4 (List.map enc_api_Point points))))),(6,.x (.one (.p (pi (points.length:Int))))),(7,.x (.one (.p (pi v)))),(8,.x (.one (.p (.val (.bool (decide (v<(points.length:Int))))))))],mkH []⟩) ?_
      refine lok_seq ?_
      refine lok_c (decide (v<(points.length:Int))) ?_ ?_
      · intro b_10
        replace H1:=cpos H1 b_10
        refine lok_skip ?_
        try simp only [thenL,blockL,↓reduceIte,reduceCtorEq]
        refine lok_seq ?_
        refine lok_block ?_
        replace H1:=req_some H1
        obtain ⟨q_9,H1⟩:=H1
        refine lok_rt E0 (⟨49,mkS [(0,.x (.one (.p (.sl 4 (List.map enc_api_Point points))))),(3,.x (.one (.p (pi v)))),(4,.x (.one (.ptr 104 0))),(5,.x (.one (.p (.sl 4 (List.map enc_api_Point points))))),(6,.x (.one (.p (pi (points.length:Int))))),(7,.x (.one (.p (pi v))))],mkH [(104,.var [.p (pi (((ix points v).X).Num)),.p (pi (((ix points v).X).Den)),.p (pi (((ix points v).Y).Num)),.p (pi (((ix points v).Y).Den))])]⟩) ?_
        refine lok_seq ?_
        replace H1:=bind_some H1
        obtain ⟨y,h_1,H1⟩:=H1
        replace H1:=req_some H1
        obtain ⟨q_8,H1⟩:=H1
        refine lok_rt (Env.of E0 [⟨some 14,58,[.agg [.p (pi (((ix points v).X).Num)),.p (pi (((ix points v).X).Den))]],[],[.one (.p (.val (.bool y)))],[],True,fun _ => ok_ratio_Valid ((ix points v).X) y h_1,[]⟩,
      ⟨some 19,58,[.agg [.p (pi (((ix points v).Y).Num)),.p (pi (((ix points v).Y).Den))]],[],[.one (.p (.val (.bool ((ratio_Valid ((ix points v).Y)).getD default))))],[],(ratio_Valid ((ix points v).Y)).isSome=true,fun h => ok_ratio_Valid ((ix points v).Y) _ (isSome_get h),[]⟩]) (⟨49,mkS [(0,.x (.one (.p (.sl 4 (List.map enc_api_Point points))))),(3,.x (.one (.p (pi v)))),(4,.x (.one (.ptr 104 0))),(5,.x (.one (.p (.sl 4 (List.map enc_api_Point points))))),(6,.x (.one (.p (pi (points.length:Int))))),(7,.x (.one (.p (pi v)))),(21,.x (.one (.p (.val (.bool ((!y)||(!((ratio_Valid ((ix points v).Y)).getD default))))))))],mkH [(104,.var [.p (pi (((ix points v).X).Num)),.p (pi (((ix points v).X).Den)),.p (pi (((ix points v).Y).Num)),.p (pi (((ix points v).Y).Den))])]⟩) ?_
        refine lok_c ((!y)||(!((ratio_Valid ((ix points v).Y)).getD default))) ?_ ?_
        · intro b_7
          replace H1:=cpos H1 b_7
          refine lok_rt E0 (⟨49,mkS [(2,.x (.one (.p (.val (.bool false)))))],mkH []⟩) ?_
          refine lok_ret ?_
          try simp only [thenL,blockL,↓reduceIte,reduceCtorEq]
          have e_1:=k_1 _ (Option.some.inj H1).symm
          subst e_1
          try dsimp only at H0
          obtain rfl:=Option.some.inj H0
          try simp only [thenL,blockL]
          exact fin_au _ (.inr rfl) [] (⟨49,mkS [(2,.x (.one (.p (.val (.bool false)))))],mkH []⟩) rfl rfl imp_au
        · intro b_7
          replace H1:=cneg H1 b_7
          refine lok_skip ?_
          try simp only [thenL,blockL,↓reduceIte,reduceCtorEq]
          replace H1:=req_some H1
          obtain ⟨⟨q_3,q_4,q_5,q_6⟩,H1⟩:=H1
          refine lok_dt (Env.of E0 [⟨some 33,104,[.agg [.p (pi (((ix points (IntKind.i64.wrap (v-(1:Int)))).X).Num)),.p (pi (((ix points (IntKind.i64.wrap (v-(1:Int)))).X).Den))],.agg [.p (pi (((ix points v).X).Num)),.p (pi (((ix points v).X).Den))]],[],[.one (.p (.val (.bool ((ratio_Less ((ix points (IntKind.i64.wrap (v-(1:Int)))).X) ((ix points v).X)).getD default))))],[],(ratio_Less ((ix points (IntKind.i64.wrap (v-(1:Int)))).X) ((ix points v).X)).isSome=true,fun h => ok_ratio_Less ((ix points (IntKind.i64.wrap (v-(1:Int)))).X) ((ix points v).X) _ (isSome_get h),[]⟩,
      ⟨some 44,104,[.agg [.p (pi (((ix points (IntKind.i64.wrap (v-(1:Int)))).Y).Num)),.p (pi (((ix points (IntKind.i64.wrap (v-(1:Int)))).Y).Den))],.agg [.p (pi (((ix points v).Y).Num)),.p (pi (((ix points v).Y).Den))]],[],[.one (.p (.val (.bool ((ratio_Less ((ix points (IntKind.i64.wrap (v-(1:Int)))).Y) ((ix points v).Y)).getD default))))],[],(ratio_Less ((ix points (IntKind.i64.wrap (v-(1:Int)))).Y) ((ix points v).Y)).isSome=true,fun h => ok_ratio_Less ((ix points (IntKind.i64.wrap (v-(1:Int)))).Y) ((ix points v).Y) _ (isSome_get h),[]⟩]) 22 (⟨49,mkS [(0,.x (.one (.p (.sl 4 (List.map enc_api_Point points))))),(5,.x (.one (.p (.sl 4 (List.map enc_api_Point points))))),(6,.x (.one (.p (pi (points.length:Int))))),(7,.x (.one (.p (pi v)))),(47,.x (.one (.p (.val (.bool ((decide ((0:Int)<v))&&((!((ratio_Less ((ix points (IntKind.i64.wrap (v-(1:Int)))).X) ((ix points v).X)).getD default))||(!((ratio_Less ((ix points (IntKind.i64.wrap (v-(1:Int)))).Y) ((ix points v).Y)).getD default)))))))))],mkH []⟩) (by kernel_rfl) (by kernel_rfl) ?_
          refine lok_c ((decide ((0:Int)<v))&&((!((ratio_Less ((ix points (IntKind.i64.wrap (v-(1:Int)))).X) ((ix points v).X)).getD default))||(!((ratio_Less ((ix points (IntKind.i64.wrap (v-(1:Int)))).Y) ((ix points v).Y)).getD default)))) ?_ ?_
          · intro b_2
            replace H1:=cpos H1 b_2
            refine lok_rt E0 (⟨49,mkS [(2,.x (.one (.p (.val (.bool false)))))],mkH []⟩) ?_
            refine lok_ret ?_
            try simp only [thenL,blockL,↓reduceIte,reduceCtorEq]
            have e_1:=k_1 _ (Option.some.inj H1).symm
            subst e_1
            try dsimp only at H0
            obtain rfl:=Option.some.inj H0
            try simp only [thenL,blockL]
            exact fin_au _ (.inr rfl) [] (⟨49,mkS [(2,.x (.one (.p (.val (.bool false)))))],mkH []⟩) rfl rfl imp_au
          · intro b_2
            replace H1:=cneg H1 b_2
            refine lok_skip ?_
            try simp only [thenL,blockL,↓reduceIte,reduceCtorEq]
            refine lok_rl E0 (⟨49,mkS [(0,.x (.one (.p (.sl 4 (List.map enc_api_Point points))))),(5,.x (.one (.p (.sl 4 (List.map enc_api_Point points))))),(6,.x (.one (.p (pi (points.length:Int))))),(7,.x (.one (.p (pi (IntKind.i64.wrap (v+(1:Int)))))))],mkH []⟩) ?_
            try simp only [thenL,blockL,↓reduceIte,reduceCtorEq]
            exact ⟨(IntKind.i64.wrap (v+(1:Int))),(Option.some.inj H1).symm,imp_au⟩
      · intro b_10
        replace H1:=cneg H1 b_10
        refine lok_exit ?_
        try simp only [thenL,blockL,↓reduceIte,reduceCtorEq]
        have e_1:=k_1 _ (Option.some.inj H1).symm
        subst e_1
        try dsimp only at H0
        try simp only [thenL,blockL,↓reduceIte,reduceCtorEq]
        exact ⟨(),H0,imp_au⟩
theorem ok_conversion_Valid (c:api_Curve) (r_:Bool) (H0:conversion_Valid c=some r_):CallOK Tryz.prog 69 [.agg [.p (.sl 4 (List.map enc_api_Point c.Points))]] [] [.one (.p (.val (.bool r_)))] []:=by
  refine callOK (n:=18) (rs:=[.tmp 2]) (nb:=0) (V:=[]) Tryz.func69 rfl (by kernel_rfl) rfl rfl rfl rfl (Nat.le_of_ble_eq_true rfl) (by decide) ?_
  unfold conversion_Valid at H0
  refine lok_rt E0 (⟨18,mkS [(1,.x (.one (.ptr 101 0)))],mkH [(101,.var [.p (.sl 4 (List.map enc_api_Point c.Points))])]⟩) ?_
  replace H0:=req_some H0
  obtain ⟨q_0,H0⟩:=H0
  refine lok_rt (Env.of E0 [⟨some 16,85,[.one (.p (.sl 4 (List.map enc_api_Point c.Points)))],[],[.one (.p (.val (.bool ((conversion_ascending c.Points).getD default))))],[],(conversion_ascending c.Points).isSome=true,fun h => ok_conversion_ascending c.Points _ (isSome_get h),[]⟩]) (⟨18,mkS [(2,.x (.one (.p (.val (.bool (((decide ((2:Int)≤(c.Points.length:Int)))&&(decide ((c.Points.length:Int)≤(410:Int))))&&((conversion_ascending c.Points).getD default)))))))],mkH []⟩) ?_
  refine lok_ret ?_
  obtain rfl:=Option.some.inj H0
  try simp only [thenL,blockL]
  exact fin_au _ (.inr rfl) [] (⟨18,mkS [(2,.x (.one (.p (.val (.bool (((decide ((2:Int)≤(c.Points.length:Int)))&&(decide ((c.Points.length:Int)≤(410:Int))))&&((conversion_ascending c.Points).getD default)))))))],mkH []⟩) rfl rfl imp_au
theorem ok_conversion_eval_f1 (i:Int) (c:api_Ratio) (c_1:List api_Point) (r_:Bool) (H0:conversion_eval_f1 i c c_1=some r_):CallOK Tryz.prog 87 [.one (.p (pi i)),.one (.ptr 0 0),.one (.ptr 1 0)] [.var [.p (pi c.Num),.p (pi c.Den)],.var [.p (.sl 4 (List.map enc_api_Point c_1))]] [.one (.p (.val (.bool r_)))] [some (.var [.p (pi c.Num),.p (pi c.Den)]),some (.var [.p (.sl 4 (List.map enc_api_Point c_1))])]:=by
  refine callOK (n:=14) (rs:=[.tmp 4]) (nb:=2) (V:=[0,1]) Tryz.func87 rfl (by kernel_rfl) rfl rfl rfl rfl (Nat.le_of_ble_eq_true rfl) (by decide) ?_
  unfold conversion_eval_f1 at H0
  refine lok_rt E0 (⟨14,mkS [(0,.x (.one (.p (pi i)))),(1,.x (.one (.ptr 0 0))),(2,.x (.one (.ptr 1 0)))],mkH [(0,.var [.p (pi c.Num),.p (pi c.Den)]),(1,.var [.p (.sl 4 (List.map enc_api_Point c_1))])]⟩) ?_
  replace H0:=req_some H0
  obtain ⟨q_1,H0⟩:=H0
  replace H0:=bind_some H0
  obtain ⟨y,h_0,H0⟩:=H0
  refine lok_dt (Env.of E0 [⟨some 12,59,[.agg [.p (pi c.Num),.p (pi c.Den)],.agg [.p (pi (((ix c_1 (IntKind.i64.wrap (i+(1:Int)))).X).Num)),.p (pi (((ix c_1 (IntKind.i64.wrap (i+(1:Int)))).X).Den))]],[],[.one (.p (pi y))],[],True,fun _ => ok_ratio_Compare c ((ix c_1 (IntKind.i64.wrap (i+(1:Int)))).X) y h_0,[]⟩]) 7 (⟨14,mkS [(4,.x (.one (.p (.val (.bool (decide (y≤(0:Int))))))))],mkH [(0,.var [.p (pi c.Num),.p (pi c.Den)]),(1,.var [.p (.sl 4 (List.map enc_api_Point c_1))])]⟩) (by kernel_rfl) (by kernel_rfl) ?_
  refine lok_ret ?_
  obtain rfl:=Option.some.inj H0
  try simp only [thenL,blockL]
  exact fin_au _ (.inr rfl) [0,1] (⟨14,mkS [(4,.x (.one (.p (.val (.bool (decide (y≤(0:Int))))))))],mkH [(0,.var [.p (pi c.Num),.p (pi c.Den)]),(1,.var [.p (.sl 4 (List.map enc_api_Point c_1))])]⟩) rfl rfl imp_au
theorem ok_sort_Search_conversion_eval_f1 (n:Int) (f_c:api_Ratio) (f_c_1:List api_Point) (r_:Int) (H0:sort_Search_conversion_eval_f1 n f_c f_c_1=some r_):CallOK Tryz.prog 86 [.one (.p (pi n)),.one (.fn 87 [0,1])] [.var [.p (pi f_c.Num),.p (pi f_c.Den)],.var [.p (.sl 4 (List.map enc_api_Point f_c_1))]] [.one (.p (pi r_))] [some (.var [.p (pi f_c.Num),.p (pi f_c.Den)]),some (.var [.p (.sl 4 (List.map enc_api_Point f_c_1))])]:=by
  refine callOK (n:=26) (rs:=[.tmp 4]) (nb:=2) (V:=[0,1]) Tryz.func86 rfl (by kernel_rfl) rfl rfl rfl rfl (Nat.le_of_ble_eq_true rfl) (by decide) ?_
  unfold sort_Search_conversion_eval_f1 at H0
  refine lok_rt E0 (⟨26,mkS [(0,.x (.one (.p (pi n)))),(1,.x (.one (.fn 87 [0,1])))],mkH [(0,.var [.p (pi f_c.Num),.p (pi f_c.Den)]),(1,.var [.p (.sl 4 (List.map enc_api_Point f_c_1))])]⟩) ?_
  refine lok_rt E0 (⟨26,mkS [(1,.x (.one (.fn 87 [0,1]))),(5,.x (.one (.p (pi (0:Int))))),(6,.x (.one (.p (pi n))))],mkH [(0,.var [.p (pi f_c.Num),.p (pi f_c.Den)]),(1,.var [.p (.sl 4 (List.map enc_api_Point f_c_1))])]⟩) ?_
  refine lok_join (fun x_:Int => sort_Search_conversion_eval_f1_j1 x_=some r_) (fun x_ => ⟨26,mkS [(5,.x (.one (.p (pi x_))))],mkH [(0,.var [.p (pi f_c.Num),.p (pi f_c.Den)]),(1,.var [.p (.sl 4 (List.map enc_api_Point f_c_1))])]⟩) ?hysort_Search_conversion_eval_f1_j1 ?hxsort_Search_conversion_eval_f1_j1
  case hysort_Search_conversion_eval_f1_j1 =>
    rintro i H0
    try dsimp only at H0 ⊢
    unfold sort_Search_conversion_eval_f1_j1 at H0
    refine lok_rt E0 (⟨26,mkS [(4,.x (.one (.p (pi i))))],mkH [(0,.var [.p (pi f_c.Num),.p (pi f_c.Den)]),(1,.var [.p (.sl 4 (List.map enc_api_Point f_c_1))])]⟩) ?_
    refine lok_ret ?_
    obtain rfl:=Option.some.inj H0
    try simp only [thenL,blockL]
    exact fin_au _ (.inr rfl) [0,1] (⟨26,mkS [(4,.x (.one (.p (pi i))))],mkH [(0,.var [.p (pi f_c.Num),.p (pi f_c.Den)]),(1,.var [.p (.sl 4 (List.map enc_api_Point f_c_1))])]⟩) rfl rfl imp_au
  case hxsort_Search_conversion_eval_f1_j1 =>
    refine lok_block ?_
    replace H0:=bind_some H0
    obtain ⟨v_0,hv_0,H0⟩:=H0
    refine lok_iter (fun x_ => ⟨26,mkS [(1,.x (.one (.fn 87 [0,1]))),(5,.x (.one (.p (pi x_.1)))),(6,.x (.one (.p (pi x_.2))))],mkH [(0,.var [.p (pi f_c.Num),.p (pi f_c.Den)]),(1,.var [.p (.sl 4 (List.map enc_api_Point f_c_1))])]⟩) hv_0 imp_au ?_
    · rintro ⟨i1,j⟩ o_1 H1 k_1
      unfold sort_Search_conversion_eval_f1_l2 at H1
      try dsimp only at H1 ⊢
      refine lok_seq ?_
      refine lok_rt E0 (⟨26,mkS [(1,.x (.one (.fn 87 [0,1]))),(5,.x (.one (.p (pi i1)))),(6,.x (.one (.p (pi j)))),(11,.x (.one (.p (.val (.bool (decide (i1<j)))))))],mkH [(0,.var [.p (pi f_c.Num),.p (pi f_c.Den)]),(1,.var [.p (.sl 4 (List.map enc_api_Point f_c_1))])]⟩) ?_
      refine lok_c (decide (i1<j)) ?_ ?_
      · intro b_4
        replace H1:=cpos H1 b_4
        refine lok_skip ?_
        try simp only [thenL,blockL,↓reduceIte,reduceCtorEq]
        refine lok_block ?_
        replace H1:=bindV_some H1
        obtain ⟨h,a_1,H1⟩:=H1
        refine lok_rtg E0 a_1 (⟨26,mkS [(1,.x (.one (.fn 87 [0,1]))),(5,.x (.one (.p (pi i1)))),(6,.x (.one (.p (pi j)))),(7,.x (.one (.p (pi h))))],mkH [(0,.var [.p (pi f_c.Num),.p (pi f_c.Den)]),(1,.var [.p (.sl 4 (List.map enc_api_Point f_c_1))])]⟩) ?_
        replace H1:=bind_some H1
        obtain ⟨y,h_2,H1⟩:=H1
        refine lok_rt (Env.of E0 [⟨some 20,87,[.one (.p (pi h)),.one (.ptr 0 0),.one (.ptr 1 0)],[.var [.p (pi f_c.Num),.p (pi f_c.Den)],.var [.p (.sl 4 (List.map enc_api_Point f_c_1))]],[.one (.p (.val (.bool y)))],[some (.var [.p (pi f_c.Num),.p (pi f_c.Den)]),some (.var [.p (.sl 4 (List.map enc_api_Point f_c_1))])],True,fun _ => ok_conversion_eval_f1 h f_c f_c_1 y h_2,[]⟩]) (⟨26,mkS [(1,.x (.one (.fn 87 [0,1]))),(5,.x (.one (.p (pi i1)))),(6,.x (.one (.p (pi j)))),(7,.x (.one (.p (pi h)))),(21,.x (.one (.p (.val (.bool (!y))))))],mkH [(0,.var [.p (pi f_c.Num),.p (pi f_c.Den)]),(1,.var [.p (.sl 4 (List.map enc_api_Point f_c_1))])]⟩) ?_
        refine lok_c (!y) ?_ ?_
        · intro b_3
          replace H1:=cpos H1 b_3
          refine lok_rl E0 (⟨26,mkS [(1,.x (.one (.fn 87 [0,1]))),(5,.x (.one (.p (pi (IntKind.i64.wrap (h+(1:Int))))))),(6,.x (.one (.p (pi j))))],mkH [(0,.var [.p (pi f_c.Num),.p (pi f_c.Den)]),(1,.var [.p (.sl 4 (List.map enc_api_Point f_c_1))])]⟩) ?_
          try simp only [thenL,blockL,↓reduceIte,reduceCtorEq]
          exact ⟨((IntKind.i64.wrap (h+(1:Int))),j),(Option.some.inj H1).symm,imp_au⟩
        · intro b_3
          replace H1:=cneg H1 b_3
          refine lok_rl E0 (⟨26,mkS [(1,.x (.one (.fn 87 [0,1]))),(5,.x (.one (.p (pi i1)))),(6,.x (.one (.p (pi h))))],mkH [(0,.var [.p (pi f_c.Num),.p (pi f_c.Den)]),(1,.var [.p (.sl 4 (List.map enc_api_Point f_c_1))])]⟩) ?_
          try simp only [thenL,blockL,↓reduceIte,reduceCtorEq]
          exact ⟨(i1,h),(Option.some.inj H1).symm,imp_au⟩
      · intro b_4
        replace H1:=cneg H1 b_4
        refine lok_exit ?_
        try simp only [thenL,blockL,↓reduceIte,reduceCtorEq]
        have e_1:=k_1 _ (Option.some.inj H1).symm
        subst e_1
        try dsimp only at H0
        try simp only [thenL,blockL,↓reduceIte,reduceCtorEq]
        exact ⟨i1,H0,imp_au⟩
theorem ok_ratio_wide_plus (a:ratio_wide) (b:ratio_wide) (r_:ratio_wide) (H0:ratio_wide_plus a b=some r_):CallOK Tryz.prog 111 [.agg [.p (.val (.int .u64 a.hi)),.p (.val (.int .u64 a.lo))],.agg [.p (.val (.int .u64 b.hi)),.p (.val (.int .u64 b.lo))]] [] [.agg [.p (.val (.int .u64 r_.hi)),.p (.val (.int .u64 r_.lo))]] []:=by
  refine callOK (n:=29) (rs:=[.cell 4 78]) (nb:=0) (V:=[]) Tryz.func111 rfl (by kernel_rfl) rfl rfl rfl rfl (Nat.le_of_ble_eq_true rfl) (by decide) ?_
  unfold ratio_wide_plus at H0
  refine lok_rt E0 (⟨29,mkS [(2,.x (.one (.ptr 102 0))),(3,.x (.one (.ptr 103 0))),(4,.x (.one (.ptr 104 0)))],mkH [(102,.var [.p (.val (.int .u64 a.hi)),.p (.val (.int .u64 a.lo))]),(103,.var [.p (.val (.int .u64 b.hi)),.p (.val (.int .u64 b.lo))]),(104,.var [.p (.val (.int .u64 (0:Int))),.p (.val (.int .u64 (0:Int)))])]⟩) ?_
  replace H0:=bind_some H0
  obtain ⟨⟨y,y1⟩,h_0,H0⟩:=H0
  try dsimp only at H0
  refine lok_rt (Env.of E0 [⟨some 14,109,[.one (.p (.val (.int .u64 a.lo))),.one (.p (.val (.int .u64 b.lo))),.one (.p (.val (.int .u64 (0:Int))))],[],[.one (.p (.val (.int .u64 y))),.one (.p (.val (.int .u64 y1)))],[],True,fun _ => ok_bits_Add64 a.lo b.lo (0:Int) (y,y1) h_0,[]⟩]) (⟨29,mkS [(2,.x (.one (.ptr 102 0))),(3,.x (.one (.ptr 103 0))),(4,.x (.one (.ptr 104 0))),(5,.x (.one (.p (.val (.int .u64 y))))),(6,.x (.one (.p (.val (.int .u64 y1)))))],mkH [(102,.var [.p (.val (.int .u64 a.hi)),.p (.val (.int .u64 a.lo))]),(103,.var [.p (.val (.int .u64 b.hi)),.p (.val (.int .u64 b.lo))]),(104,.var [.p (.val (.int .u64 (0:Int))),.p (.val (.int .u64 (0:Int)))])]⟩) ?_
  replace H0:=bind_some H0
  obtain ⟨⟨y2,y3⟩,h_1,H0⟩:=H0
  try dsimp only at H0
  refine lok_rt (Env.of E0 [⟨some 23,109,[.one (.p (.val (.int .u64 a.hi))),.one (.p (.val (.int .u64 b.hi))),.one (.p (.val (.int .u64 y1)))],[],[.one (.p (.val (.int .u64 y2))),.one (.p (.val (.int .u64 y3)))],[],True,fun _ => ok_bits_Add64 a.hi b.hi y1 (y2,y3) h_1,[]⟩]) (⟨29,mkS [(4,.x (.one (.ptr 104 0))),(5,.x (.one (.p (.val (.int .u64 y))))),(7,.x (.one (.p (.val (.int .u64 y2)))))],mkH [(104,.var [.p (.val (.int .u64 (0:Int))),.p (.val (.int .u64 (0:Int)))])]⟩) ?_
  refine lok_rt E0 (⟨29,mkS [(4,.x (.one (.ptr 104 0)))],mkH [(104,.var [.p (.val (.int .u64 y2)),.p (.val (.int .u64 y))])]⟩) ?_
  refine lok_ret ?_
  obtain rfl:=Option.some.inj H0
  try simp only [thenL,blockL]
  exact fin_au _ (.inr rfl) [] (⟨29,mkS [(4,.x (.one (.ptr 104 0)))],mkH [(104,.var [.p (.val (.int .u64 y2)),.p (.val (.int .u64 y))])]⟩) rfl rfl imp_au
theorem ok_ratio_wide_minus (a:ratio_wide) (b:ratio_wide) (r_:ratio_wide) (H0:ratio_wide_minus a b=some r_):CallOK Tryz.prog 112 [.agg [.p (.val (.int .u64 a.hi)),.p (.val (.int .u64 a.lo))],.agg [.p (.val (.int .u64 b.hi)),.p (.val (.int .u64 b.lo))]] [] [.agg [.p (.val (.int .u64 r_.hi)),.p (.val (.int .u64 r_.lo))]] []:=by
  refine callOK (n:=29) (rs:=[.cell 4 78]) (nb:=0) (V:=[]) Tryz.func112 rfl (by kernel_rfl) rfl rfl rfl rfl (Nat.le_of_ble_eq_true rfl) (by decide) ?_
  unfold ratio_wide_minus at H0
  refine lok_rt E0 (⟨29,mkS [(2,.x (.one (.ptr 102 0))),(3,.x (.one (.ptr 103 0))),(4,.x (.one (.ptr 104 0)))],mkH [(102,.var [.p (.val (.int .u64 a.hi)),.p (.val (.int .u64 a.lo))]),(103,.var [.p (.val (.int .u64 b.hi)),.p (.val (.int .u64 b.lo))]),(104,.var [.p (.val (.int .u64 (0:Int))),.p (.val (.int .u64 (0:Int)))])]⟩) ?_
  replace H0:=bind_some H0
  obtain ⟨⟨y,y1⟩,h_0,H0⟩:=H0
  try dsimp only at H0
  refine lok_rt (Env.of E0 [⟨some 14,103,[.one (.p (.val (.int .u64 a.lo))),.one (.p (.val (.int .u64 b.lo))),.one (.p (.val (.int .u64 (0:Int))))],[],[.one (.p (.val (.int .u64 y))),.one (.p (.val (.int .u64 y1)))],[],True,fun _ => ok_bits_Sub64 a.lo b.lo (0:Int) (y,y1) h_0,[]⟩]) (⟨29,mkS [(2,.x (.one (.ptr 102 0))),(3,.x (.one (.ptr 103 0))),(4,.x (.one (.ptr 104 0))),(5,.x (.one (.p (.val (.int .u64 y))))),(6,.x (.one (.p (.val (.int .u64 y1)))))],mkH [(102,.var [.p (.val (.int .u64 a.hi)),.p (.val (.int .u64 a.lo))]),(103,.var [.p (.val (.int .u64 b.hi)),.p (.val (.int .u64 b.lo))]),(104,.var [.p (.val (.int .u64 (0:Int))),.p (.val (.int .u64 (0:Int)))])]⟩) ?_
  replace H0:=bind_some H0
  obtain ⟨⟨y2,y3⟩,h_1,H0⟩:=H0
  try dsimp only at H0
  refine lok_rt (Env.of E0 [⟨some 23,103,[.one (.p (.val (.int .u64 a.hi))),.one (.p (.val (.int .u64 b.hi))),.one (.p (.val (.int .u64 y1)))],[],[.one (.p (.val (.int .u64 y2))),.one (.p (.val (.int .u64 y3)))],[],True,fun _ => ok_bits_Sub64 a.hi b.hi y1 (y2,y3) h_1,[]⟩]) (⟨29,mkS [(4,.x (.one (.ptr 104 0))),(5,.x (.one (.p (.val (.int .u64 y))))),(7,.x (.one (.p (.val (.int .u64 y2)))))],mkH [(104,.var [.p (.val (.int .u64 (0:Int))),.p (.val (.int .u64 (0:Int)))])]⟩) ?_
  refine lok_rt E0 (⟨29,mkS [(4,.x (.one (.ptr 104 0)))],mkH [(104,.var [.p (.val (.int .u64 y2)),.p (.val (.int .u64 y))])]⟩) ?_
  refine lok_ret ?_
  obtain rfl:=Option.some.inj H0
  try simp only [thenL,blockL]
  exact fin_au _ (.inr rfl) [] (⟨29,mkS [(4,.x (.one (.ptr 104 0)))],mkH [(104,.var [.p (.val (.int .u64 y2)),.p (.val (.int .u64 y))])]⟩) rfl rfl imp_au
theorem ok_ratio_signed_plus (a:ratio_signed) (b:ratio_signed) (r_:ratio_signed) (H0:ratio_signed_plus a b=some r_):CallOK Tryz.prog 106 [.agg [.p (.val (.bool a.neg)),.p (.val (.int .u64 a.abs.hi)),.p (.val (.int .u64 a.abs.lo))],.agg [.p (.val (.bool b.neg)),.p (.val (.int .u64 b.abs.hi)),.p (.val (.int .u64 b.abs.lo))]] [] [.agg [.p (.val (.bool r_.neg)),.p (.val (.int .u64 r_.abs.hi)),.p (.val (.int .u64 r_.abs.lo))]] []:=by
  refine callOK (n:=40) (rs:=[.cell 4 80]) (nb:=0) (V:=[]) Tryz.func106 rfl (by kernel_rfl) rfl rfl rfl rfl (Nat.le_of_ble_eq_true rfl) (by decide) ?_
  unfold ratio_signed_plus at H0
  refine lok_rt E0 (⟨40,mkS [(2,.x (.one (.ptr 102 0))),(3,.x (.one (.ptr 103 0))),(4,.x (.one (.ptr 104 0)))],mkH [(102,.var [.p (.val (.bool a.neg)),.p (.val (.int .u64 a.abs.hi)),.p (.val (.int .u64 a.abs.lo))]),(103,.var [.p (.val (.bool b.neg)),.p (.val (.int .u64 b.abs.hi)),.p (.val (.int .u64 b.abs.lo))]),(104,.var [.p (.val (.bool false)),.p (.val (.int .u64 (0:Int))),.p (.val (.int .u64 (0:Int)))])]⟩) ?_
  refine lok_seq ?_
  refine lok_rt E0 (⟨40,mkS [(2,.x (.one (.ptr 102 0))),(3,.x (.one (.ptr 103 0))),(4,.x (.one (.ptr 104 0))),(9,.x (.one (.p (.val (.bool (a.neg==b.neg))))))],mkH [(102,.var [.p (.val (.bool a.neg)),.p (.val (.int .u64 a.abs.hi)),.p (.val (.int .u64 a.abs.lo))]),(103,.var [.p (.val (.bool b.neg)),.p (.val (.int .u64 b.abs.hi)),.p (.val (.int .u64 b.abs.lo))]),(104,.var [.p (.val (.bool false)),.p (.val (.int .u64 (0:Int))),.p (.val (.int .u64 (0:Int)))])]⟩) ?_
  refine lok_c (a.neg==b.neg) ?_ ?_
  · intro b_5
    replace H0:=cpos H0 b_5
    replace H0:=bind_some H0
    obtain ⟨y,h_0,H0⟩:=H0
    refine lok_dt (Env.of E0 [⟨some 16,111,[.agg [.p (.val (.int .u64 a.abs.hi)),.p (.val (.int .u64 a.abs.lo))],.agg [.p (.val (.int .u64 b.abs.hi)),.p (.val (.int .u64 b.abs.lo))]],[],[.agg [.p (.val (.int .u64 y.hi)),.p (.val (.int .u64 y.lo))]],[],True,fun _ => ok_ratio_wide_plus a.abs b.abs y h_0,[]⟩]) 7 (⟨40,mkS [(4,.x (.one (.ptr 104 0)))],mkH [(104,.var [.p (.val (.bool a.neg)),.p (.val (.int .u64 y.hi)),.p (.val (.int .u64 y.lo))])]⟩) (by kernel_rfl) (by kernel_rfl) ?_
    refine lok_ret ?_
    obtain rfl:=Option.some.inj H0
    try simp only [thenL,blockL]
    exact fin_au _ (.inr rfl) [] (⟨40,mkS [(4,.x (.one (.ptr 104 0)))],mkH [(104,.var [.p (.val (.bool a.neg)),.p (.val (.int .u64 y.hi)),.p (.val (.int .u64 y.lo))])]⟩) rfl rfl imp_au
  · intro b_5
    replace H0:=cneg H0 b_5
    refine lok_skip ?_
    try simp only [thenL,blockL,↓reduceIte,reduceCtorEq]
    refine lok_seq ?_
    replace H0:=bind_some H0
    obtain ⟨y1,h_1,H0⟩:=H0
    refine lok_rt (Env.of E0 [⟨some 22,77,[.agg [.p (.val (.int .u64 a.abs.hi)),.p (.val (.int .u64 a.abs.lo))],.agg [.p (.val (.int .u64 b.abs.hi)),.p (.val (.int .u64 b.abs.lo))]],[],[.one (.p (pi y1))],[],True,fun _ => ok_ratio_wide_compare a.abs b.abs y1 h_1,[]⟩]) (⟨40,mkS [(2,.x (.one (.ptr 102 0))),(3,.x (.one (.ptr 103 0))),(4,.x (.one (.ptr 104 0))),(23,.x (.one (.p (.val (.bool (decide ((0:Int)≤y1)))))))],mkH [(102,.var [.p (.val (.bool a.neg)),.p (.val (.int .u64 a.abs.hi)),.p (.val (.int .u64 a.abs.lo))]),(103,.var [.p (.val (.bool b.neg)),.p (.val (.int .u64 b.abs.hi)),.p (.val (.int .u64 b.abs.lo))]),(104,.var [.p (.val (.bool false)),.p (.val (.int .u64 (0:Int))),.p (.val (.int .u64 (0:Int)))])]⟩) ?_
    refine lok_c (decide ((0:Int)≤y1)) ?_ ?_
    · intro b_4
      replace H0:=cpos H0 b_4
      replace H0:=bind_some H0
      obtain ⟨y2,h_2,H0⟩:=H0
      refine lok_dt (Env.of E0 [⟨some 30,112,[.agg [.p (.val (.int .u64 a.abs.hi)),.p (.val (.int .u64 a.abs.lo))],.agg [.p (.val (.int .u64 b.abs.hi)),.p (.val (.int .u64 b.abs.lo))]],[],[.agg [.p (.val (.int .u64 y2.hi)),.p (.val (.int .u64 y2.lo))]],[],True,fun _ => ok_ratio_wide_minus a.abs b.abs y2 h_2,[]⟩]) 7 (⟨40,mkS [(4,.x (.one (.ptr 104 0)))],mkH [(104,.var [.p (.val (.bool a.neg)),.p (.val (.int .u64 y2.hi)),.p (.val (.int .u64 y2.lo))])]⟩) (by kernel_rfl) (by kernel_rfl) ?_
      refine lok_ret ?_
      obtain rfl:=Option.some.inj H0
      try simp only [thenL,blockL]
      exact fin_au _ (.inr rfl) [] (⟨40,mkS [(4,.x (.one (.ptr 104 0)))],mkH [(104,.var [.p (.val (.bool a.neg)),.p (.val (.int .u64 y2.hi)),.p (.val (.int .u64 y2.lo))])]⟩) rfl rfl imp_au
    · intro b_4
      replace H0:=cneg H0 b_4
      refine lok_skip ?_
      try simp only [thenL,blockL,↓reduceIte,reduceCtorEq]
      replace H0:=bind_some H0
      obtain ⟨y3,h_3,H0⟩:=H0
      refine lok_dt (Env.of E0 [⟨some 38,112,[.agg [.p (.val (.int .u64 b.abs.hi)),.p (.val (.int .u64 b.abs.lo))],.agg [.p (.val (.int .u64 a.abs.hi)),.p (.val (.int .u64 a.abs.lo))]],[],[.agg [.p (.val (.int .u64 y3.hi)),.p (.val (.int .u64 y3.lo))]],[],True,fun _ => ok_ratio_wide_minus b.abs a.abs y3 h_3,[]⟩]) 7 (⟨40,mkS [(4,.x (.one (.ptr 104 0)))],mkH [(104,.var [.p (.val (.bool b.neg)),.p (.val (.int .u64 y3.hi)),.p (.val (.int .u64 y3.lo))])]⟩) (by kernel_rfl) (by kernel_rfl) ?_
      refine lok_ret ?_
      obtain rfl:=Option.some.inj H0
      try simp only [thenL,blockL]
      exact fin_au _ (.inr rfl) [] (⟨40,mkS [(4,.x (.one (.ptr 104 0)))],mkH [(104,.var [.p (.val (.bool b.neg)),.p (.val (.int .u64 y3.hi)),.p (.val (.int .u64 y3.lo))])]⟩) rfl rfl imp_au
set_option maxHeartbeats 4000000 in
theorem ok_ratio_Add (a:api_Ratio) (b:api_Ratio) (r_:api_Ratio × Int) (H0:ratio_Add a b=some r_):CallOK Tryz.prog 90 [.agg [.p (pi a.Num),.p (pi a.Den)],.agg [.p (pi b.Num),.p (pi b.Den)]] [] [.agg [.p (pi r_.1.Num),.p (pi r_.1.Den)],.one (.p (pi r_.2))] []:=by
  refine callOK (n:=64) (rs:=[.cell 4 26,.tmp 5]) (nb:=0) (V:=[]) Tryz.func90 rfl (by kernel_rfl) rfl rfl rfl rfl (Nat.le_of_ble_eq_true rfl) (by decide) ?_
  unfold ratio_Add at H0
  refine lok_rt E0 (⟨64,mkS [(2,.x (.one (.ptr 102 0))),(3,.x (.one (.ptr 103 0))),(4,.x (.one (.ptr 104 0)))],mkH [(102,.var [.p (pi a.Num),.p (pi a.Den)]),(103,.var [.p (pi b.Num),.p (pi b.Den)]),(104,.var [.p (pi (0:Int)),.p (pi (0:Int))])]⟩) ?_
  refine lok_seq ?_
  replace H0:=bind_some H0
  obtain ⟨y,h_0,H0⟩:=H0
  replace H0:=req_some H0
  obtain ⟨q_15,H0⟩:=H0
  refine lok_rt (Env.of E0 [⟨some 12,58,[.agg [.p (pi a.Num),.p (pi a.Den)]],[],[.one (.p (.val (.bool y)))],[],True,fun _ => ok_ratio_Valid a y h_0,[]⟩,
      ⟨some 16,58,[.agg [.p (pi b.Num),.p (pi b.Den)]],[],[.one (.p (.val (.bool ((ratio_Valid b).getD default))))],[],(ratio_Valid b).isSome=true,fun h => ok_ratio_Valid b _ (isSome_get h),[]⟩]) (⟨64,mkS [(2,.x (.one (.ptr 102 0))),(3,.x (.one (.ptr 103 0))),(4,.x (.one (.ptr 104 0))),(18,.x (.one (.p (.val (.bool ((!y)||(!((ratio_Valid b).getD default))))))))],mkH [(102,.var [.p (pi a.Num),.p (pi a.Den)]),(103,.var [.p (pi b.Num),.p (pi b.Den)]),(104,.var [.p (pi (0:Int)),.p (pi (0:Int))])]⟩) ?_
  refine lok_c ((!y)||(!((ratio_Valid b).getD default))) ?_ ?_
  · intro b_14
    replace H0:=cpos H0 b_14
    refine lok_rt E0 (⟨64,mkS [(4,.x (.one (.ptr 104 0))),(5,.x (.one (.p (pi (1:Int)))))],mkH [(104,.var [.p (pi (0:Int)),.p (pi (0:Int))])]⟩) ?_
    refine lok_ret ?_
    obtain rfl:=Option.some.inj H0
    try simp only [thenL,blockL]
    exact fin_au _ (.inr rfl) [] (⟨64,mkS [(4,.x (.one (.ptr 104 0))),(5,.x (.one (.p (pi (1:Int)))))],mkH [(104,.var [.p (pi (0:Int)),.p (pi (0:Int))])]⟩) rfl rfl imp_au
  · intro b_14
    replace H0:=cneg H0 b_14
    refine lok_skip ?_
    try simp only [thenL,blockL,↓reduceIte,reduceCtorEq]
    refine lok_dt E0 7 (⟨64,mkS [(2,.x (.one (.ptr 102 0))),(3,.x (.one (.ptr 103 0))),(4,.x (.one (.ptr 104 0))),(6,.x (.one (.p (.val (.int .u64 (IntKind.u64.wrap a.Den)))))),(7,.x (.one (.p (.val (.int .u64 (IntKind.u64.wrap b.Den))))))],mkH [(102,.var [.p (pi a.Num),.p (pi a.Den)]),(103,.var [.p (pi b.Num),.p (pi b.Den)]),(104,.var [.p (pi (0:Int)),.p (pi (0:Int))])]⟩) (by kernel_rfl) (by kernel_rfl) ?_
    replace H0:=bind_some H0
    obtain ⟨y1,h_1,H0⟩:=H0
    refine lok_rt (Env.of E0 [⟨some 28,63,[.one (.p (.val (.int .u64 (IntKind.u64.wrap a.Den)))),.one (.p (.val (.int .u64 (IntKind.u64.wrap b.Den))))],[],[.one (.p (.val (.int .u64 y1)))],[],True,fun _ => ok_ratio_gcd (IntKind.u64.wrap a.Den) (IntKind.u64.wrap b.Den) y1 h_1,[]⟩]) (⟨64,mkS [(2,.x (.one (.ptr 102 0))),(3,.x (.one (.ptr 103 0))),(4,.x (.one (.ptr 104 0))),(6,.x (.one (.p (.val (.int .u64 (IntKind.u64.wrap a.Den)))))),(7,.x (.one (.p (.val (.int .u64 (IntKind.u64.wrap b.Den)))))),(8,.x (.one (.p (.val (.int .u64 y1)))))],mkH [(102,.var [.p (pi a.Num),.p (pi a.Den)]),(103,.var [.p (pi b.Num),.p (pi b.Den)]),(104,.var [.p (pi (0:Int)),.p (pi (0:Int))])]⟩) ?_
    replace H0:=req_some H0
    obtain ⟨q_12,H0⟩:=H0
    replace H0:=bind_some H0
    obtain ⟨y2,h_2,H0⟩:=H0
    replace H0:=req_some H0
    obtain ⟨q_13,H0⟩:=H0
    replace H0:=bind_some H0
    obtain ⟨y3,h_3,H0⟩:=H0
    replace H0:=bind_some H0
    obtain ⟨y4,h_4,H0⟩:=H0
    refine lok_et (Env.of E0 [⟨some 34,76,[.one (.p (pi a.Num)),.one (.p (.val (.int .u64 (IntKind.u64.wrap (Int.tdiv (IntKind.u64.wrap b.Den) y1)))))],[],[.agg [.p (.val (.bool y2.neg)),.p (.val (.int .u64 y2.abs.hi)),.p (.val (.int .u64 y2.abs.lo))]],[],True,fun _ => ok_ratio_signedProduct a.Num (IntKind.u64.wrap (Int.tdiv (IntKind.u64.wrap b.Den) y1)) y2 h_2,[]⟩,
      ⟨some 40,76,[.one (.p (pi b.Num)),.one (.p (.val (.int .u64 (IntKind.u64.wrap (Int.tdiv (IntKind.u64.wrap a.Den) y1)))))],[],[.agg [.p (.val (.bool y3.neg)),.p (.val (.int .u64 y3.abs.hi)),.p (.val (.int .u64 y3.abs.lo))]],[],True,fun _ => ok_ratio_signedProduct b.Num (IntKind.u64.wrap (Int.tdiv (IntKind.u64.wrap a.Den) y1)) y3 h_3,[]⟩,
      ⟨some 41,106,[.agg [.p (.val (.bool y2.neg)),.p (.val (.int .u64 y2.abs.hi)),.p (.val (.int .u64 y2.abs.lo))],.agg [.p (.val (.bool y3.neg)),.p (.val (.int .u64 y3.abs.hi)),.p (.val (.int .u64 y3.abs.lo))]],[],[.agg [.p (.val (.bool y4.neg)),.p (.val (.int .u64 y4.abs.hi)),.p (.val (.int .u64 y4.abs.lo))]],[],True,fun _ => ok_ratio_signed_plus y2 y3 y4 h_4,[]⟩]) 64 [⟨[(2,.x (.one (.ptr 102 0)))],[],[(29,.x (.one (.ptr 102 0)))],[],none⟩,
      ⟨[(29,.x (.one (.ptr 102 0)))],[(102,some (.var [.p (pi a.Num),.p (pi a.Den)]))],[(30,.x (.one (.p (pi a.Num))))],[],none⟩,
      ⟨[(7,.x (.one (.p (.val (.int .u64 (IntKind.u64.wrap b.Den))))))],[],[(31,.x (.one (.p (.val (.int .u64 (IntKind.u64.wrap b.Den))))))],[],none⟩,
      ⟨[(8,.x (.one (.p (.val (.int .u64 y1)))))],[],[(32,.x (.one (.p (.val (.int .u64 y1)))))],[],none⟩,
      ⟨[(31,.x (.one (.p (.val (.int .u64 (IntKind.u64.wrap b.Den)))))),(32,.x (.one (.p (.val (.int .u64 y1)))))],[],[(33,.x (.one (.p (.val (.int .u64 (IntKind.u64.wrap (Int.tdiv (IntKind.u64.wrap b.Den) y1)))))))],[],none⟩,
      ⟨[(30,.x (.one (.p (pi a.Num)))),(33,.x (.one (.p (.val (.int .u64 (IntKind.u64.wrap (Int.tdiv (IntKind.u64.wrap b.Den) y1)))))))],[],[(34,.x (.agg [.p (.val (.bool y2.neg)),.p (.val (.int .u64 y2.abs.hi)),.p (.val (.int .u64 y2.abs.lo))]))],[],none⟩,
      ⟨[(3,.x (.one (.ptr 103 0)))],[],[(35,.x (.one (.ptr 103 0)))],[],none⟩,
      ⟨[(35,.x (.one (.ptr 103 0)))],[(103,some (.var [.p (pi b.Num),.p (pi b.Den)]))],[(36,.x (.one (.p (pi b.Num))))],[],none⟩,
      ⟨[(6,.x (.one (.p (.val (.int .u64 (IntKind.u64.wrap a.Den))))))],[],[(37,.x (.one (.p (.val (.int .u64 (IntKind.u64.wrap a.Den))))))],[],none⟩,
      ⟨[(8,.x (.one (.p (.val (.int .u64 y1)))))],[],[(38,.x (.one (.p (.val (.int .u64 y1)))))],[],none⟩,
      ⟨[(37,.x (.one (.p (.val (.int .u64 (IntKind.u64.wrap a.Den)))))),(38,.x (.one (.p (.val (.int .u64 y1)))))],[],[(39,.x (.one (.p (.val (.int .u64 (IntKind.u64.wrap (Int.tdiv (IntKind.u64.wrap a.Den) y1)))))))],[],none⟩,
      ⟨[(36,.x (.one (.p (pi b.Num)))),(39,.x (.one (.p (.val (.int .u64 (IntKind.u64.wrap (Int.tdiv (IntKind.u64.wrap a.Den) y1)))))))],[],[(40,.x (.agg [.p (.val (.bool y3.neg)),.p (.val (.int .u64 y3.abs.hi)),.p (.val (.int .u64 y3.abs.lo))]))],[],none⟩,
      ⟨[(34,.x (.agg [.p (.val (.bool y2.neg)),.p (.val (.int .u64 y2.abs.hi)),.p (.val (.int .u64 y2.abs.lo))])),(40,.x (.agg [.p (.val (.bool y3.neg)),.p (.val (.int .u64 y3.abs.hi)),.p (.val (.int .u64 y3.abs.lo))]))],[],[(41,.x (.agg [.p (.val (.bool y4.neg)),.p (.val (.int .u64 y4.abs.hi)),.p (.val (.int .u64 y4.abs.lo))]))],[],none⟩,
      ⟨[],[(109,none)],[(9,.x (.one (.ptr 109 0)))],[(109,some (.var [.p (.val (.bool false)),.p (.val (.int .u64 (0:Int))),.p (.val (.int .u64 (0:Int)))]))],some 109⟩] (⟨64,mkS [(4,.x (.one (.ptr 104 0))),(6,.x (.one (.p (.val (.int .u64 (IntKind.u64.wrap a.Den)))))),(7,.x (.one (.p (.val (.int .u64 (IntKind.u64.wrap b.Den)))))),(8,.x (.one (.p (.val (.int .u64 y1))))),(9,.x (.one (.ptr 109 0)))],mkH [(104,.var [.p (pi (0:Int)),.p (pi (0:Int))]),(109,.var [.p (.val (.bool y4.neg)),.p (.val (.int .u64 y4.abs.hi)),.p (.val (.int .u64 y4.abs.lo))])]⟩) (by kernel_rfl) (by kernel_rfl) (by kernel_rfl) rfl rfl rfl ?_
    replace H0:=bind_some H0
    obtain ⟨y5,h_5,H0⟩:=H0
    replace H0:=bind_some H0
    obtain ⟨y6,h_6,H0⟩:=H0
    refine lok_rt (Env.of E0 [⟨some 45,64,[.agg [.p (.val (.int .u64 y4.abs.hi)),.p (.val (.int .u64 y4.abs.lo))],.one (.p (.val (.int .u64 y1)))],[],[.one (.p (.val (.int .u64 y5)))],[],True,fun _ => ok_ratio_wide_mod y4.abs y1 y5 h_5,[]⟩,
      ⟨some 47,63,[.one (.p (.val (.int .u64 y5))),.one (.p (.val (.int .u64 y1)))],[],[.one (.p (.val (.int .u64 y6)))],[],True,fun _ => ok_ratio_gcd y5 y1 y6 h_6,[]⟩]) (⟨64,mkS [(4,.x (.one (.ptr 104 0))),(6,.x (.one (.p (.val (.int .u64 (IntKind.u64.wrap a.Den)))))),(7,.x (.one (.p (.val (.int .u64 (IntKind.u64.wrap b.Den)))))),(8,.x (.one (.p (.val (.int .u64 y1))))),(9,.x (.one (.ptr 109 0))),(10,.x (.one (.p (.val (.int .u64 y6)))))],mkH [(104,.var [.p (pi (0:Int)),.p (pi (0:Int))]),(109,.var [.p (.val (.bool y4.neg)),.p (.val (.int .u64 y4.abs.hi)),.p (.val (.int .u64 y4.abs.lo))])]⟩) ?_
    replace H0:=bind_some H0
    obtain ⟨y7,h_7,H0⟩:=H0
    replace H0:=req_some H0
    obtain ⟨⟨q_10,q_11⟩,H0⟩:=H0
    replace H0:=bind_some H0
    obtain ⟨y8,h_8,H0⟩:=H0
    replace H0:=bind_some H0
    obtain ⟨⟨y9,y10⟩,h_9,H0⟩:=H0
    try dsimp only at H0
    refine lok_dt (Env.of E0 [⟨some 53,66,[.agg [.p (.val (.int .u64 y4.abs.hi)),.p (.val (.int .u64 y4.abs.lo))],.one (.p (.val (.int .u64 y6)))],[],[.agg [.p (.val (.int .u64 y7.hi)),.p (.val (.int .u64 y7.lo))]],[],True,fun _ => ok_ratio_wide_over y4.abs y6 y7 h_7,[]⟩,
      ⟨some 60,98,[.one (.p (.val (.int .u64 (IntKind.u64.wrap (Int.tdiv (IntKind.u64.wrap a.Den) y1))))),.one (.p (.val (.int .u64 (IntKind.u64.wrap (Int.tdiv (IntKind.u64.wrap b.Den) y6)))))],[],[.agg [.p (.val (.int .u64 y8.hi)),.p (.val (.int .u64 y8.lo))]],[],True,fun _ => ok_ratio_product (IntKind.u64.wrap (Int.tdiv (IntKind.u64.wrap a.Den) y1)) (IntKind.u64.wrap (Int.tdiv (IntKind.u64.wrap b.Den) y6)) y8 h_8,[]⟩,
      ⟨some 61,65,[.one (.p (.val (.bool y4.neg))),.agg [.p (.val (.int .u64 y7.hi)),.p (.val (.int .u64 y7.lo))],.agg [.p (.val (.int .u64 y8.hi)),.p (.val (.int .u64 y8.lo))]],[],[.agg [.p (pi y9.Num),.p (pi y9.Den)],.one (.p (pi y10))],[],True,fun _ => ok_ratio_fitted y4.neg y7 y8 (y9,y10) h_9,[]⟩]) 16 (⟨64,mkS [(4,.x (.one (.ptr 104 0))),(5,.x (.one (.p (pi y10))))],mkH [(104,.var [.p (pi y9.Num),.p (pi y9.Den)])]⟩) (by kernel_rfl) (by kernel_rfl) ?_
    refine lok_ret ?_
    obtain rfl:=Option.some.inj H0
    try simp only [thenL,blockL]
    exact fin_au _ (.inr rfl) [] (⟨64,mkS [(4,.x (.one (.ptr 104 0))),(5,.x (.one (.p (pi y10))))],mkH [(104,.var [.p (pi y9.Num),.p (pi y9.Den)])]⟩) rfl rfl imp_au
theorem ok_conversion_steps_do_ratio_Add (s:conversion_steps) (a:api_Ratio) (b:api_Ratio) (r_:api_Ratio × conversion_steps) (H0:conversion_steps_do_ratio_Add s a b=some r_):CallOK Tryz.prog 89 [.one (.ptr 0 0),.one (.fn 90 []),.agg [.p (pi a.Num),.p (pi a.Den)],.agg [.p (pi b.Num),.p (pi b.Den)]] [.var [.p (pi s.e)]] [.agg [.p (pi r_.1.Num),.p (pi r_.1.Den)]] [some (.var [.p (pi r_.2.e)])]:=by
  refine callOK (n:=29) (rs:=[.cell 8 26]) (nb:=1) (V:=[0]) Tryz.func89 rfl (by kernel_rfl) rfl rfl rfl rfl (Nat.le_of_ble_eq_true rfl) (by decide) ?_
  unfold conversion_steps_do_ratio_Add at H0
  refine lok_rt E0 (⟨29,mkS [(0,.x (.one (.ptr 0 0))),(1,.x (.one (.fn 90 []))),(6,.x (.one (.ptr 106 0))),(7,.x (.one (.ptr 107 0))),(8,.x (.one (.ptr 108 0)))],mkH [(0,.var [.p (pi s.e)]),(106,.var [.p (pi a.Num),.p (pi a.Den)]),(107,.var [.p (pi b.Num),.p (pi b.Den)]),(108,.var [.p (pi (0:Int)),.p (pi (0:Int))])]⟩) ?_
  refine lok_seq ?_
  refine lok_rt E0 (⟨29,mkS [(0,.x (.one (.ptr 0 0))),(1,.x (.one (.fn 90 []))),(6,.x (.one (.ptr 106 0))),(7,.x (.one (.ptr 107 0))),(8,.x (.one (.ptr 108 0))),(15,.x (.one (.p (.val (.bool (s.e != (0:Int)))))))],mkH [(0,.var [.p (pi s.e)]),(106,.var [.p (pi a.Num),.p (pi a.Den)]),(107,.var [.p (pi b.Num),.p (pi b.Den)]),(108,.var [.p (pi (0:Int)),.p (pi (0:Int))])]⟩) ?_
  refine lok_c (s.e != (0:Int)) ?_ ?_
  · intro b_1
    replace H0:=cpos H0 b_1
    refine lok_rt E0 (⟨29,mkS [(8,.x (.one (.ptr 108 0)))],mkH [(0,.var [.p (pi s.e)]),(108,.var [.p (pi (0:Int)),.p (pi (0:Int))])]⟩) ?_
    refine lok_ret ?_
    obtain rfl:=Option.some.inj H0
    try simp only [thenL,blockL]
    exact fin_au _ (.inr rfl) [0] (⟨29,mkS [(8,.x (.one (.ptr 108 0)))],mkH [(0,.var [.p (pi s.e)]),(108,.var [.p (pi (0:Int)),.p (pi (0:Int))])]⟩) rfl rfl imp_au
  · intro b_1
    replace H0:=cneg H0 b_1
    refine lok_skip ?_
    try simp only [thenL,blockL,↓reduceIte,reduceCtorEq]
    replace H0:=bind_some H0
    obtain ⟨⟨y,y1⟩,h_0,H0⟩:=H0
    try dsimp only at H0
    refine lok_rt (Env.of E0 [⟨some 21,90,[.agg [.p (pi a.Num),.p (pi a.Den)],.agg [.p (pi b.Num),.p (pi b.Den)]],[],[.agg [.p (pi y.Num),.p (pi y.Den)],.one (.p (pi y1))],[],True,fun _ => ok_ratio_Add a b (y,y1) h_0,[]⟩]) (⟨29,mkS [(0,.x (.one (.ptr 0 0))),(8,.x (.one (.ptr 108 0))),(9,.x (.one (.ptr 109 0))),(10,.x (.one (.p (pi y1))))],mkH [(0,.var [.p (pi s.e)]),(108,.var [.p (pi (0:Int)),.p (pi (0:Int))]),(109,.var [.p (pi y.Num),.p (pi y.Den)])]⟩) ?_
    refine lok_rt E0 (⟨29,mkS [(8,.x (.one (.ptr 108 0))),(9,.x (.one (.ptr 109 0)))],mkH [(0,.var [.p (pi y1)]),(108,.var [.p (pi (0:Int)),.p (pi (0:Int))]),(109,.var [.p (pi y.Num),.p (pi y.Den)])]⟩) ?_
    refine lok_rt E0 (⟨29,mkS [(8,.x (.one (.ptr 108 0)))],mkH [(0,.var [.p (pi y1)]),(108,.var [.p (pi y.Num),.p (pi y.Den)])]⟩) ?_
    refine lok_ret ?_
    obtain rfl:=Option.some.inj H0
    try simp only [thenL,blockL]
    exact fin_au _ (.inr rfl) [0] (⟨29,mkS [(8,.x (.one (.ptr 108 0)))],mkH [(0,.var [.p (pi y1)]),(108,.var [.p (pi y.Num),.p (pi y.Den)])]⟩) rfl rfl imp_au
theorem ok_ratio_Mul (a:api_Ratio) (b:api_Ratio) (r_:api_Ratio × Int) (H0:ratio_Mul a b=some r_):CallOK Tryz.prog 91 [.agg [.p (pi a.Num),.p (pi a.Den)],.agg [.p (pi b.Num),.p (pi b.Den)]] [] [.agg [.p (pi r_.1.Num),.p (pi r_.1.Den)],.one (.p (pi r_.2))] []:=by
  refine callOK (n:=65) (rs:=[.cell 4 26,.tmp 5]) (nb:=0) (V:=[]) Tryz.func91 rfl (by kernel_rfl) rfl rfl rfl rfl (Nat.le_of_ble_eq_true rfl) (by decide) ?_
  unfold ratio_Mul at H0
  refine lok_rt E0 (⟨65,mkS [(2,.x (.one (.ptr 102 0))),(3,.x (.one (.ptr 103 0))),(4,.x (.one (.ptr 104 0)))],mkH [(102,.var [.p (pi a.Num),.p (pi a.Den)]),(103,.var [.p (pi b.Num),.p (pi b.Den)]),(104,.var [.p (pi (0:Int)),.p (pi (0:Int))])]⟩) ?_
  refine lok_seq ?_
  replace H0:=bind_some H0
  obtain ⟨y,h_0,H0⟩:=H0
  replace H0:=req_some H0
  obtain ⟨q_13,H0⟩:=H0
  refine lok_rt (Env.of E0 [⟨some 14,58,[.agg [.p (pi a.Num),.p (pi a.Den)]],[],[.one (.p (.val (.bool y)))],[],True,fun _ => ok_ratio_Valid a y h_0,[]⟩,
      ⟨some 18,58,[.agg [.p (pi b.Num),.p (pi b.Den)]],[],[.one (.p (.val (.bool ((ratio_Valid b).getD default))))],[],(ratio_Valid b).isSome=true,fun h => ok_ratio_Valid b _ (isSome_get h),[]⟩]) (⟨65,mkS [(2,.x (.one (.ptr 102 0))),(3,.x (.one (.ptr 103 0))),(4,.x (.one (.ptr 104 0))),(20,.x (.one (.p (.val (.bool ((!y)||(!((ratio_Valid b).getD default))))))))],mkH [(102,.var [.p (pi a.Num),.p (pi a.Den)]),(103,.var [.p (pi b.Num),.p (pi b.Den)]),(104,.var [.p (pi (0:Int)),.p (pi (0:Int))])]⟩) ?_
  refine lok_c ((!y)||(!((ratio_Valid b).getD default))) ?_ ?_
  · intro b_12
    replace H0:=cpos H0 b_12
    refine lok_rt E0 (⟨65,mkS [(4,.x (.one (.ptr 104 0))),(5,.x (.one (.p (pi (1:Int)))))],mkH [(104,.var [.p (pi (0:Int)),.p (pi (0:Int))])]⟩) ?_
    refine lok_ret ?_
    obtain rfl:=Option.some.inj H0
    try simp only [thenL,blockL]
    exact fin_au _ (.inr rfl) [] (⟨65,mkS [(4,.x (.one (.ptr 104 0))),(5,.x (.one (.p (pi (1:Int)))))],mkH [(104,.var [.p (pi (0:Int)),.p (pi (0:Int))])]⟩) rfl rfl imp_au
  · intro b_12
    replace H0:=cneg H0 b_12
    refine lok_skip ?_
    try simp only [thenL,blockL,↓reduceIte,reduceCtorEq]
    replace H0:=bind_some H0
    obtain ⟨y1,h_1,H0⟩:=H0
    replace H0:=bind_some H0
    obtain ⟨y2,h_2,H0⟩:=H0
    refine lok_dt (Env.of E0 [⟨some 24,49,[.one (.p (pi a.Num))],[],[.one (.p (.val (.int .u64 y1)))],[],True,fun _ => ok_ratio_magnitude a.Num y1 h_1,[]⟩,
      ⟨some 27,49,[.one (.p (pi b.Num))],[],[.one (.p (.val (.int .u64 y2)))],[],True,fun _ => ok_ratio_magnitude b.Num y2 h_2,[]⟩]) 5 (⟨65,mkS [(2,.x (.one (.ptr 102 0))),(3,.x (.one (.ptr 103 0))),(4,.x (.one (.ptr 104 0))),(6,.x (.one (.p (.val (.int .u64 y1))))),(7,.x (.one (.p (.val (.int .u64 y2)))))],mkH [(102,.var [.p (pi a.Num),.p (pi a.Den)]),(103,.var [.p (pi b.Num),.p (pi b.Den)]),(104,.var [.p (pi (0:Int)),.p (pi (0:Int))])]⟩) (by kernel_rfl) (by kernel_rfl) ?_
    refine lok_dt E0 7 (⟨65,mkS [(2,.x (.one (.ptr 102 0))),(3,.x (.one (.ptr 103 0))),(4,.x (.one (.ptr 104 0))),(6,.x (.one (.p (.val (.int .u64 y1))))),(7,.x (.one (.p (.val (.int .u64 y2))))),(8,.x (.one (.p (.val (.int .u64 (IntKind.u64.wrap a.Den)))))),(9,.x (.one (.p (.val (.int .u64 (IntKind.u64.wrap b.Den))))))],mkH [(102,.var [.p (pi a.Num),.p (pi a.Den)]),(103,.var [.p (pi b.Num),.p (pi b.Den)]),(104,.var [.p (pi (0:Int)),.p (pi (0:Int))])]⟩) (by kernel_rfl) (by kernel_rfl) ?_
    replace H0:=bind_some H0
    obtain ⟨y3,h_3,H0⟩:=H0
    replace H0:=bind_some H0
    obtain ⟨y4,h_4,H0⟩:=H0
    refine lok_rt (Env.of E0 [⟨some 36,63,[.one (.p (.val (.int .u64 y1))),.one (.p (.val (.int .u64 (IntKind.u64.wrap b.Den))))],[],[.one (.p (.val (.int .u64 y3)))],[],True,fun _ => ok_ratio_gcd y1 (IntKind.u64.wrap b.Den) y3 h_3,[]⟩,
      ⟨some 39,63,[.one (.p (.val (.int .u64 y2))),.one (.p (.val (.int .u64 (IntKind.u64.wrap a.Den))))],[],[.one (.p (.val (.int .u64 y4)))],[],True,fun _ => ok_ratio_gcd y2 (IntKind.u64.wrap a.Den) y4 h_4,[]⟩]) (⟨65,mkS [(2,.x (.one (.ptr 102 0))),(3,.x (.one (.ptr 103 0))),(4,.x (.one (.ptr 104 0))),(6,.x (.one (.p (.val (.int .u64 y1))))),(7,.x (.one (.p (.val (.int .u64 y2))))),(8,.x (.one (.p (.val (.int .u64 (IntKind.u64.wrap a.Den)))))),(9,.x (.one (.p (.val (.int .u64 (IntKind.u64.wrap b.Den)))))),(10,.x (.one (.p (.val (.int .u64 y3))))),(11,.x (.one (.p (.val (.int .u64 y4)))))],mkH [(102,.var [.p (pi a.Num),.p (pi a.Den)]),(103,.var [.p (pi b.Num),.p (pi b.Den)]),(104,.var [.p (pi (0:Int)),.p (pi (0:Int))])]⟩) ?_
    refine lok_rt E0 (⟨65,mkS [(4,.x (.one (.ptr 104 0))),(6,.x (.one (.p (.val (.int .u64 y1))))),(7,.x (.one (.p (.val (.int .u64 y2))))),(8,.x (.one (.p (.val (.int .u64 (IntKind.u64.wrap a.Den)))))),(9,.x (.one (.p (.val (.int .u64 (IntKind.u64.wrap b.Den)))))),(10,.x (.one (.p (.val (.int .u64 y3))))),(11,.x (.one (.p (.val (.int .u64 y4))))),(12,.x (.one (.p (.val (.bool (!((decide (a.Num<(0:Int)))==(decide (b.Num<(0:Int))))))))))],mkH [(104,.var [.p (pi (0:Int)),.p (pi (0:Int))])]⟩) ?_
    replace H0:=req_some H0
    obtain ⟨⟨q_8,q_9⟩,H0⟩:=H0
    replace H0:=bind_some H0
    obtain ⟨y5,h_5,H0⟩:=H0
    replace H0:=req_some H0
    obtain ⟨⟨q_10,q_11⟩,H0⟩:=H0
    replace H0:=bind_some H0
    obtain ⟨y6,h_6,H0⟩:=H0
    replace H0:=bind_some H0
    obtain ⟨⟨y7,y8⟩,h_7,H0⟩:=H0
    try dsimp only at H0
    refine lok_dt (Env.of E0 [⟨some 54,98,[.one (.p (.val (.int .u64 (IntKind.u64.wrap (Int.tdiv y1 y3))))),.one (.p (.val (.int .u64 (IntKind.u64.wrap (Int.tdiv y2 y4)))))],[],[.agg [.p (.val (.int .u64 y5.hi)),.p (.val (.int .u64 y5.lo))]],[],True,fun _ => ok_ratio_product (IntKind.u64.wrap (Int.tdiv y1 y3)) (IntKind.u64.wrap (Int.tdiv y2 y4)) y5 h_5,[]⟩,
      ⟨some 61,98,[.one (.p (.val (.int .u64 (IntKind.u64.wrap (Int.tdiv (IntKind.u64.wrap a.Den) y4))))),.one (.p (.val (.int .u64 (IntKind.u64.wrap (Int.tdiv (IntKind.u64.wrap b.Den) y3)))))],[],[.agg [.p (.val (.int .u64 y6.hi)),.p (.val (.int .u64 y6.lo))]],[],True,fun _ => ok_ratio_product (IntKind.u64.wrap (Int.tdiv (IntKind.u64.wrap a.Den) y4)) (IntKind.u64.wrap (Int.tdiv (IntKind.u64.wrap b.Den) y3)) y6 h_6,[]⟩,
      ⟨some 62,65,[.one (.p (.val (.bool (!((decide (a.Num<(0:Int)))==(decide (b.Num<(0:Int)))))))),.agg [.p (.val (.int .u64 y5.hi)),.p (.val (.int .u64 y5.lo))],.agg [.p (.val (.int .u64 y6.hi)),.p (.val (.int .u64 y6.lo))]],[],[.agg [.p (pi y7.Num),.p (pi y7.Den)],.one (.p (pi y8))],[],True,fun _ => ok_ratio_fitted (!((decide (a.Num<(0:Int)))==(decide (b.Num<(0:Int))))) y5 y6 (y7,y8) h_7,[]⟩]) 18 (⟨65,mkS [(4,.x (.one (.ptr 104 0))),(5,.x (.one (.p (pi y8))))],mkH [(104,.var [.p (pi y7.Num),.p (pi y7.Den)])]⟩) (by kernel_rfl) (by kernel_rfl) ?_
    refine lok_ret ?_
    obtain rfl:=Option.some.inj H0
    try simp only [thenL,blockL]
    exact fin_au _ (.inr rfl) [] (⟨65,mkS [(4,.x (.one (.ptr 104 0))),(5,.x (.one (.p (pi y8))))],mkH [(104,.var [.p (pi y7.Num),.p (pi y7.Den)])]⟩) rfl rfl imp_au
theorem ok_conversion_steps_do_ratio_Mul (s:conversion_steps) (a:api_Ratio) (b:api_Ratio) (r_:api_Ratio × conversion_steps) (H0:conversion_steps_do_ratio_Mul s a b=some r_):CallOK Tryz.prog 89 [.one (.ptr 0 0),.one (.fn 91 []),.agg [.p (pi a.Num),.p (pi a.Den)],.agg [.p (pi b.Num),.p (pi b.Den)]] [.var [.p (pi s.e)]] [.agg [.p (pi r_.1.Num),.p (pi r_.1.Den)]] [some (.var [.p (pi r_.2.e)])]:=by
  refine callOK (n:=29) (rs:=[.cell 8 26]) (nb:=1) (V:=[0]) Tryz.func89 rfl (by kernel_rfl) rfl rfl rfl rfl (Nat.le_of_ble_eq_true rfl) (by decide) ?_
  unfold conversion_steps_do_ratio_Mul at H0
  refine lok_rt E0 (⟨29,mkS [(0,.x (.one (.ptr 0 0))),(1,.x (.one (.fn 91 []))),(6,.x (.one (.ptr 106 0))),(7,.x (.one (.ptr 107 0))),(8,.x (.one (.ptr 108 0)))],mkH [(0,.var [.p (pi s.e)]),(106,.var [.p (pi a.Num),.p (pi a.Den)]),(107,.var [.p (pi b.Num),.p (pi b.Den)]),(108,.var [.p (pi (0:Int)),.p (pi (0:Int))])]⟩) ?_
  refine lok_seq ?_
  refine lok_rt E0 (⟨29,mkS [(0,.x (.one (.ptr 0 0))),(1,.x (.one (.fn 91 []))),(6,.x (.one (.ptr 106 0))),(7,.x (.one (.ptr 107 0))),(8,.x (.one (.ptr 108 0))),(15,.x (.one (.p (.val (.bool (s.e != (0:Int)))))))],mkH [(0,.var [.p (pi s.e)]),(106,.var [.p (pi a.Num),.p (pi a.Den)]),(107,.var [.p (pi b.Num),.p (pi b.Den)]),(108,.var [.p (pi (0:Int)),.p (pi (0:Int))])]⟩) ?_
  refine lok_c (s.e != (0:Int)) ?_ ?_
  · intro b_1
    replace H0:=cpos H0 b_1
    refine lok_rt E0 (⟨29,mkS [(8,.x (.one (.ptr 108 0)))],mkH [(0,.var [.p (pi s.e)]),(108,.var [.p (pi (0:Int)),.p (pi (0:Int))])]⟩) ?_
    refine lok_ret ?_
    obtain rfl:=Option.some.inj H0
    try simp only [thenL,blockL]
    exact fin_au _ (.inr rfl) [0] (⟨29,mkS [(8,.x (.one (.ptr 108 0)))],mkH [(0,.var [.p (pi s.e)]),(108,.var [.p (pi (0:Int)),.p (pi (0:Int))])]⟩) rfl rfl imp_au
  · intro b_1
    replace H0:=cneg H0 b_1
    refine lok_skip ?_
    try simp only [thenL,blockL,↓reduceIte,reduceCtorEq]
    replace H0:=bind_some H0
    obtain ⟨⟨y,y1⟩,h_0,H0⟩:=H0
    try dsimp only at H0
    refine lok_rt (Env.of E0 [⟨some 21,91,[.agg [.p (pi a.Num),.p (pi a.Den)],.agg [.p (pi b.Num),.p (pi b.Den)]],[],[.agg [.p (pi y.Num),.p (pi y.Den)],.one (.p (pi y1))],[],True,fun _ => ok_ratio_Mul a b (y,y1) h_0,[]⟩]) (⟨29,mkS [(0,.x (.one (.ptr 0 0))),(8,.x (.one (.ptr 108 0))),(9,.x (.one (.ptr 109 0))),(10,.x (.one (.p (pi y1))))],mkH [(0,.var [.p (pi s.e)]),(108,.var [.p (pi (0:Int)),.p (pi (0:Int))]),(109,.var [.p (pi y.Num),.p (pi y.Den)])]⟩) ?_
    refine lok_rt E0 (⟨29,mkS [(8,.x (.one (.ptr 108 0))),(9,.x (.one (.ptr 109 0)))],mkH [(0,.var [.p (pi y1)]),(108,.var [.p (pi (0:Int)),.p (pi (0:Int))]),(109,.var [.p (pi y.Num),.p (pi y.Den)])]⟩) ?_
    refine lok_rt E0 (⟨29,mkS [(8,.x (.one (.ptr 108 0)))],mkH [(0,.var [.p (pi y1)]),(108,.var [.p (pi y.Num),.p (pi y.Den)])]⟩) ?_
    refine lok_ret ?_
    obtain rfl:=Option.some.inj H0
    try simp only [thenL,blockL]
    exact fin_au _ (.inr rfl) [0] (⟨29,mkS [(8,.x (.one (.ptr 108 0)))],mkH [(0,.var [.p (pi y1)]),(108,.var [.p (pi y.Num),.p (pi y.Den)])]⟩) rfl rfl imp_au
theorem ok_ratio_Sub (a:api_Ratio) (b:api_Ratio) (r_:api_Ratio × Int) (H0:ratio_Sub a b=some r_):CallOK Tryz.prog 92 [.agg [.p (pi a.Num),.p (pi a.Den)],.agg [.p (pi b.Num),.p (pi b.Den)]] [] [.agg [.p (pi r_.1.Num),.p (pi r_.1.Den)],.one (.p (pi r_.2))] []:=by
  refine callOK (n:=25) (rs:=[.cell 4 26,.tmp 5]) (nb:=0) (V:=[]) Tryz.func92 rfl (by kernel_rfl) rfl rfl rfl rfl (Nat.le_of_ble_eq_true rfl) (by decide) ?_
  unfold ratio_Sub at H0
  refine lok_rt E0 (⟨25,mkS [(2,.x (.one (.ptr 102 0))),(3,.x (.one (.ptr 103 0))),(4,.x (.one (.ptr 104 0)))],mkH [(102,.var [.p (pi a.Num),.p (pi a.Den)]),(103,.var [.p (pi b.Num),.p (pi b.Den)]),(104,.var [.p (pi (0:Int)),.p (pi (0:Int))])]⟩) ?_
  refine lok_seq ?_
  replace H0:=bind_some H0
  obtain ⟨y,h_0,H0⟩:=H0
  replace H0:=req_some H0
  obtain ⟨q_3,H0⟩:=H0
  refine lok_rt (Env.of E0 [⟨some 7,58,[.agg [.p (pi a.Num),.p (pi a.Den)]],[],[.one (.p (.val (.bool y)))],[],True,fun _ => ok_ratio_Valid a y h_0,[]⟩,
      ⟨some 11,58,[.agg [.p (pi b.Num),.p (pi b.Den)]],[],[.one (.p (.val (.bool ((ratio_Valid b).getD default))))],[],(ratio_Valid b).isSome=true,fun h => ok_ratio_Valid b _ (isSome_get h),[]⟩]) (⟨25,mkS [(2,.x (.one (.ptr 102 0))),(3,.x (.one (.ptr 103 0))),(4,.x (.one (.ptr 104 0))),(13,.x (.one (.p (.val (.bool ((!y)||(!((ratio_Valid b).getD default))))))))],mkH [(102,.var [.p (pi a.Num),.p (pi a.Den)]),(103,.var [.p (pi b.Num),.p (pi b.Den)]),(104,.var [.p (pi (0:Int)),.p (pi (0:Int))])]⟩) ?_
  refine lok_c ((!y)||(!((ratio_Valid b).getD default))) ?_ ?_
  · intro b_2
    replace H0:=cpos H0 b_2
    refine lok_rt E0 (⟨25,mkS [(4,.x (.one (.ptr 104 0))),(5,.x (.one (.p (pi (1:Int)))))],mkH [(104,.var [.p (pi (0:Int)),.p (pi (0:Int))])]⟩) ?_
    refine lok_ret ?_
    obtain rfl:=Option.some.inj H0
    try simp only [thenL,blockL]
    exact fin_au _ (.inr rfl) [] (⟨25,mkS [(4,.x (.one (.ptr 104 0))),(5,.x (.one (.p (pi (1:Int)))))],mkH [(104,.var [.p (pi (0:Int)),.p (pi (0:Int))])]⟩) rfl rfl imp_au
  · intro b_2
    replace H0:=cneg H0 b_2
    refine lok_skip ?_
    try simp only [thenL,blockL,↓reduceIte,reduceCtorEq]
    replace H0:=bind_some H0
    obtain ⟨⟨y1,y2⟩,h_1,H0⟩:=H0
    try dsimp only at H0
    refine lok_rt (Env.of E0 [⟨some 22,90,[.agg [.p (pi a.Num),.p (pi a.Den)],.agg [.p (pi (IntKind.i64.wrap (0-b.Num))),.p (pi b.Den)]],[],[.agg [.p (pi y1.Num),.p (pi y1.Den)],.one (.p (pi y2))],[],True,fun _ => ok_ratio_Add a (api_Ratio.mk (IntKind.i64.wrap (0-b.Num)) b.Den) (y1,y2) h_1,[]⟩]) (⟨25,mkS [(4,.x (.one (.ptr 104 0))),(5,.x (.one (.p (pi y2))))],mkH [(104,.var [.p (pi y1.Num),.p (pi y1.Den)])]⟩) ?_
    refine lok_ret ?_
    obtain rfl:=Option.some.inj H0
    try simp only [thenL,blockL]
    exact fin_au _ (.inr rfl) [] (⟨25,mkS [(4,.x (.one (.ptr 104 0))),(5,.x (.one (.p (pi y2))))],mkH [(104,.var [.p (pi y1.Num),.p (pi y1.Den)])]⟩) rfl rfl imp_au
theorem ok_conversion_steps_do_ratio_Sub (s:conversion_steps) (a:api_Ratio) (b:api_Ratio) (r_:api_Ratio × conversion_steps) (H0:conversion_steps_do_ratio_Sub s a b=some r_):CallOK Tryz.prog 89 [.one (.ptr 0 0),.one (.fn 92 []),.agg [.p (pi a.Num),.p (pi a.Den)],.agg [.p (pi b.Num),.p (pi b.Den)]] [.var [.p (pi s.e)]] [.agg [.p (pi r_.1.Num),.p (pi r_.1.Den)]] [some (.var [.p (pi r_.2.e)])]:=by
  refine callOK (n:=29) (rs:=[.cell 8 26]) (nb:=1) (V:=[0]) Tryz.func89 rfl (by kernel_rfl) rfl rfl rfl rfl (Nat.le_of_ble_eq_true rfl) (by decide) ?_
  unfold conversion_steps_do_ratio_Sub at H0
  refine lok_rt E0 (⟨29,mkS [(0,.x (.one (.ptr 0 0))),(1,.x (.one (.fn 92 []))),(6,.x (.one (.ptr 106 0))),(7,.x (.one (.ptr 107 0))),(8,.x (.one (.ptr 108 0)))],mkH [(0,.var [.p (pi s.e)]),(106,.var [.p (pi a.Num),.p (pi a.Den)]),(107,.var [.p (pi b.Num),.p (pi b.Den)]),(108,.var [.p (pi (0:Int)),.p (pi (0:Int))])]⟩) ?_
  refine lok_seq ?_
  refine lok_rt E0 (⟨29,mkS [(0,.x (.one (.ptr 0 0))),(1,.x (.one (.fn 92 []))),(6,.x (.one (.ptr 106 0))),(7,.x (.one (.ptr 107 0))),(8,.x (.one (.ptr 108 0))),(15,.x (.one (.p (.val (.bool (s.e != (0:Int)))))))],mkH [(0,.var [.p (pi s.e)]),(106,.var [.p (pi a.Num),.p (pi a.Den)]),(107,.var [.p (pi b.Num),.p (pi b.Den)]),(108,.var [.p (pi (0:Int)),.p (pi (0:Int))])]⟩) ?_
  refine lok_c (s.e != (0:Int)) ?_ ?_
  · intro b_1
    replace H0:=cpos H0 b_1
    refine lok_rt E0 (⟨29,mkS [(8,.x (.one (.ptr 108 0)))],mkH [(0,.var [.p (pi s.e)]),(108,.var [.p (pi (0:Int)),.p (pi (0:Int))])]⟩) ?_
    refine lok_ret ?_
    obtain rfl:=Option.some.inj H0
    try simp only [thenL,blockL]
    exact fin_au _ (.inr rfl) [0] (⟨29,mkS [(8,.x (.one (.ptr 108 0)))],mkH [(0,.var [.p (pi s.e)]),(108,.var [.p (pi (0:Int)),.p (pi (0:Int))])]⟩) rfl rfl imp_au
  · intro b_1
    replace H0:=cneg H0 b_1
    refine lok_skip ?_
    try simp only [thenL,blockL,↓reduceIte,reduceCtorEq]
    replace H0:=bind_some H0
    obtain ⟨⟨y,y1⟩,h_0,H0⟩:=H0
    try dsimp only at H0
    refine lok_rt (Env.of E0 [⟨some 21,92,[.agg [.p (pi a.Num),.p (pi a.Den)],.agg [.p (pi b.Num),.p (pi b.Den)]],[],[.agg [.p (pi y.Num),.p (pi y.Den)],.one (.p (pi y1))],[],True,fun _ => ok_ratio_Sub a b (y,y1) h_0,[]⟩]) (⟨29,mkS [(0,.x (.one (.ptr 0 0))),(8,.x (.one (.ptr 108 0))),(9,.x (.one (.ptr 109 0))),(10,.x (.one (.p (pi y1))))],mkH [(0,.var [.p (pi s.e)]),(108,.var [.p (pi (0:Int)),.p (pi (0:Int))]),(109,.var [.p (pi y.Num),.p (pi y.Den)])]⟩) ?_
    refine lok_rt E0 (⟨29,mkS [(8,.x (.one (.ptr 108 0))),(9,.x (.one (.ptr 109 0)))],mkH [(0,.var [.p (pi y1)]),(108,.var [.p (pi (0:Int)),.p (pi (0:Int))]),(109,.var [.p (pi y.Num),.p (pi y.Den)])]⟩) ?_
    refine lok_rt E0 (⟨29,mkS [(8,.x (.one (.ptr 108 0)))],mkH [(0,.var [.p (pi y1)]),(108,.var [.p (pi y.Num),.p (pi y.Den)])]⟩) ?_
    refine lok_ret ?_
    obtain rfl:=Option.some.inj H0
    try simp only [thenL,blockL]
    exact fin_au _ (.inr rfl) [0] (⟨29,mkS [(8,.x (.one (.ptr 108 0)))],mkH [(0,.var [.p (pi y1)]),(108,.var [.p (pi y.Num),.p (pi y.Den)])]⟩) rfl rfl imp_au
theorem ok_ratio_Div (a:api_Ratio) (b:api_Ratio) (r_:api_Ratio × Int) (H0:ratio_Div a b=some r_):CallOK Tryz.prog 105 [.agg [.p (pi a.Num),.p (pi a.Den)],.agg [.p (pi b.Num),.p (pi b.Den)]] [] [.agg [.p (pi r_.1.Num),.p (pi r_.1.Den)],.one (.p (pi r_.2))] []:=by
  refine callOK (n:=40) (rs:=[.cell 4 26,.tmp 5]) (nb:=0) (V:=[]) Tryz.func105 rfl (by kernel_rfl) rfl rfl rfl rfl (Nat.le_of_ble_eq_true rfl) (by decide) ?_
  unfold ratio_Div at H0
  refine lok_rt E0 (⟨40,mkS [(2,.x (.one (.ptr 102 0))),(3,.x (.one (.ptr 103 0))),(4,.x (.one (.ptr 104 0)))],mkH [(102,.var [.p (pi a.Num),.p (pi a.Den)]),(103,.var [.p (pi b.Num),.p (pi b.Den)]),(104,.var [.p (pi (0:Int)),.p (pi (0:Int))])]⟩) ?_
  refine lok_seq ?_
  replace H0:=bind_some H0
  obtain ⟨y,h_0,H0⟩:=H0
  replace H0:=req_some H0
  obtain ⟨q_5,H0⟩:=H0
  refine lok_rt (Env.of E0 [⟨some 8,58,[.agg [.p (pi a.Num),.p (pi a.Den)]],[],[.one (.p (.val (.bool y)))],[],True,fun _ => ok_ratio_Valid a y h_0,[]⟩,
      ⟨some 12,58,[.agg [.p (pi b.Num),.p (pi b.Den)]],[],[.one (.p (.val (.bool ((ratio_Valid b).getD default))))],[],(ratio_Valid b).isSome=true,fun h => ok_ratio_Valid b _ (isSome_get h),[]⟩]) (⟨40,mkS [(2,.x (.one (.ptr 102 0))),(3,.x (.one (.ptr 103 0))),(4,.x (.one (.ptr 104 0))),(14,.x (.one (.p (.val (.bool ((!y)||(!((ratio_Valid b).getD default))))))))],mkH [(102,.var [.p (pi a.Num),.p (pi a.Den)]),(103,.var [.p (pi b.Num),.p (pi b.Den)]),(104,.var [.p (pi (0:Int)),.p (pi (0:Int))])]⟩) ?_
  refine lok_c ((!y)||(!((ratio_Valid b).getD default))) ?_ ?_
  · intro b_4
    replace H0:=cpos H0 b_4
    refine lok_rt E0 (⟨40,mkS [(4,.x (.one (.ptr 104 0))),(5,.x (.one (.p (pi (1:Int)))))],mkH [(104,.var [.p (pi (0:Int)),.p (pi (0:Int))])]⟩) ?_
    refine lok_ret ?_
    obtain rfl:=Option.some.inj H0
    try simp only [thenL,blockL]
    exact fin_au _ (.inr rfl) [] (⟨40,mkS [(4,.x (.one (.ptr 104 0))),(5,.x (.one (.p (pi (1:Int)))))],mkH [(104,.var [.p (pi (0:Int)),.p (pi (0:Int))])]⟩) rfl rfl imp_au
  · intro b_4
    replace H0:=cneg H0 b_4
    refine lok_skip ?_
    try simp only [thenL,blockL,↓reduceIte,reduceCtorEq]
    refine lok_seq ?_
    refine lok_rt E0 (⟨40,mkS [(2,.x (.one (.ptr 102 0))),(3,.x (.one (.ptr 103 0))),(4,.x (.one (.ptr 104 0))),(18,.x (.one (.p (.val (.bool (b.Num==(0:Int)))))))],mkH [(102,.var [.p (pi a.Num),.p (pi a.Den)]),(103,.var [.p (pi b.Num),.p (pi b.Den)]),(104,.var [.p (pi (0:Int)),.p (pi (0:Int))])]⟩) ?_
    refine lok_c (b.Num==(0:Int)) ?_ ?_
    · intro b_3
      replace H0:=cpos H0 b_3
      refine lok_rt E0 (⟨40,mkS [(4,.x (.one (.ptr 104 0))),(5,.x (.one (.p (pi (2:Int)))))],mkH [(104,.var [.p (pi (0:Int)),.p (pi (0:Int))])]⟩) ?_
      refine lok_ret ?_
      obtain rfl:=Option.some.inj H0
      try simp only [thenL,blockL]
      exact fin_au _ (.inr rfl) [] (⟨40,mkS [(4,.x (.one (.ptr 104 0))),(5,.x (.one (.p (pi (2:Int)))))],mkH [(104,.var [.p (pi (0:Int)),.p (pi (0:Int))])]⟩) rfl rfl imp_au
    · intro b_3
      replace H0:=cneg H0 b_3
      refine lok_skip ?_
      try simp only [thenL,blockL,↓reduceIte,reduceCtorEq]
      refine lok_rt E0 (⟨40,mkS [(2,.x (.one (.ptr 102 0))),(3,.x (.one (.ptr 103 0))),(4,.x (.one (.ptr 104 0))),(6,.x (.one (.ptr 106 0)))],mkH [(102,.var [.p (pi a.Num),.p (pi a.Den)]),(103,.var [.p (pi b.Num),.p (pi b.Den)]),(104,.var [.p (pi (0:Int)),.p (pi (0:Int))]),(106,.var [.p (pi b.Den),.p (pi b.Num)])]⟩) ?_
      refine lok_join (fun x_:Int × Int => ratio_Div_j1 a x_.1 x_.2=some r_) (fun x_ => ⟨40,mkS [(2,.x (.one (.ptr 102 0))),(4,.x (.one (.ptr 104 0))),(6,.x (.one (.ptr 106 0)))],mkH [(102,.var [.p (pi a.Num),.p (pi a.Den)]),(104,.var [.p (pi (0:Int)),.p (pi (0:Int))]),(106,.var [.p (pi x_.1),.p (pi x_.2)])]⟩) ?hyratio_Div_j1 ?hxratio_Div_j1
      case hyratio_Div_j1 =>
        rintro ⟨inverse,inverse1⟩ H0
        try dsimp only at H0 ⊢
        unfold ratio_Div_j1 at H0
        replace H0:=bind_some H0
        obtain ⟨⟨y1,y2⟩,h_1,H0⟩:=H0
        try dsimp only at H0
        refine lok_rt (Env.of E0 [⟨some 37,91,[.agg [.p (pi a.Num),.p (pi a.Den)],.agg [.p (pi inverse),.p (pi inverse1)]],[],[.agg [.p (pi y1.Num),.p (pi y1.Den)],.one (.p (pi y2))],[],True,fun _ => ok_ratio_Mul a (api_Ratio.mk inverse inverse1) (y1,y2) h_1,[]⟩]) (⟨40,mkS [(4,.x (.one (.ptr 104 0))),(5,.x (.one (.p (pi y2))))],mkH [(104,.var [.p (pi y1.Num),.p (pi y1.Den)])]⟩) ?_
        refine lok_ret ?_
        obtain rfl:=Option.some.inj H0
        try simp only [thenL,blockL]
        exact fin_au _ (.inr rfl) [] (⟨40,mkS [(4,.x (.one (.ptr 104 0))),(5,.x (.one (.p (pi y2))))],mkH [(104,.var [.p (pi y1.Num),.p (pi y1.Den)])]⟩) rfl rfl imp_au
      case hxratio_Div_j1 =>
        refine lok_rt E0 (⟨40,mkS [(2,.x (.one (.ptr 102 0))),(3,.x (.one (.ptr 103 0))),(4,.x (.one (.ptr 104 0))),(6,.x (.one (.ptr 106 0))),(27,.x (.one (.p (.val (.bool (decide (b.Num<(0:Int))))))))],mkH [(102,.var [.p (pi a.Num),.p (pi a.Den)]),(103,.var [.p (pi b.Num),.p (pi b.Den)]),(104,.var [.p (pi (0:Int)),.p (pi (0:Int))]),(106,.var [.p (pi b.Den),.p (pi b.Num)])]⟩) ?_
        refine lok_c (decide (b.Num<(0:Int))) ?_ ?_
        · intro b_2
          replace H0:=cpos H0 b_2
          refine lok_rl E0 (⟨40,mkS [(2,.x (.one (.ptr 102 0))),(4,.x (.one (.ptr 104 0))),(6,.x (.one (.ptr 106 0)))],mkH [(102,.var [.p (pi a.Num),.p (pi a.Den)]),(104,.var [.p (pi (0:Int)),.p (pi (0:Int))]),(106,.var [.p (pi (IntKind.i64.wrap (0-b.Den))),.p (pi (IntKind.i64.wrap (0-b.Num)))])]⟩) ?_
          try simp only [thenL,blockL,↓reduceIte,reduceCtorEq]
          exact ⟨((IntKind.i64.wrap (0-b.Den)),(IntKind.i64.wrap (0-b.Num))),H0,imp_au⟩
        · intro b_2
          replace H0:=cneg H0 b_2
          refine lok_skip ?_
          try simp only [thenL,blockL,↓reduceIte,reduceCtorEq]
          exact ⟨(b.Den,b.Num),H0,imp_au⟩
theorem ok_conversion_steps_do_ratio_Div (s:conversion_steps) (a:api_Ratio) (b:api_Ratio) (r_:api_Ratio × conversion_steps) (H0:conversion_steps_do_ratio_Div s a b=some r_):CallOK Tryz.prog 89 [.one (.ptr 0 0),.one (.fn 105 []),.agg [.p (pi a.Num),.p (pi a.Den)],.agg [.p (pi b.Num),.p (pi b.Den)]] [.var [.p (pi s.e)]] [.agg [.p (pi r_.1.Num),.p (pi r_.1.Den)]] [some (.var [.p (pi r_.2.e)])]:=by
  refine callOK (n:=29) (rs:=[.cell 8 26]) (nb:=1) (V:=[0]) Tryz.func89 rfl (by kernel_rfl) rfl rfl rfl rfl (Nat.le_of_ble_eq_true rfl) (by decide) ?_
  unfold conversion_steps_do_ratio_Div at H0
  refine lok_rt E0 (⟨29,mkS [(0,.x (.one (.ptr 0 0))),(1,.x (.one (.fn 105 []))),(6,.x (.one (.ptr 106 0))),(7,.x (.one (.ptr 107 0))),(8,.x (.one (.ptr 108 0)))],mkH [(0,.var [.p (pi s.e)]),(106,.var [.p (pi a.Num),.p (pi a.Den)]),(107,.var [.p (pi b.Num),.p (pi b.Den)]),(108,.var [.p (pi (0:Int)),.p (pi (0:Int))])]⟩) ?_
  refine lok_seq ?_
  refine lok_rt E0 (⟨29,mkS [(0,.x (.one (.ptr 0 0))),(1,.x (.one (.fn 105 []))),(6,.x (.one (.ptr 106 0))),(7,.x (.one (.ptr 107 0))),(8,.x (.one (.ptr 108 0))),(15,.x (.one (.p (.val (.bool (s.e != (0:Int)))))))],mkH [(0,.var [.p (pi s.e)]),(106,.var [.p (pi a.Num),.p (pi a.Den)]),(107,.var [.p (pi b.Num),.p (pi b.Den)]),(108,.var [.p (pi (0:Int)),.p (pi (0:Int))])]⟩) ?_
  refine lok_c (s.e != (0:Int)) ?_ ?_
  · intro b_1
    replace H0:=cpos H0 b_1
    refine lok_rt E0 (⟨29,mkS [(8,.x (.one (.ptr 108 0)))],mkH [(0,.var [.p (pi s.e)]),(108,.var [.p (pi (0:Int)),.p (pi (0:Int))])]⟩) ?_
    refine lok_ret ?_
    obtain rfl:=Option.some.inj H0
    try simp only [thenL,blockL]
    exact fin_au _ (.inr rfl) [0] (⟨29,mkS [(8,.x (.one (.ptr 108 0)))],mkH [(0,.var [.p (pi s.e)]),(108,.var [.p (pi (0:Int)),.p (pi (0:Int))])]⟩) rfl rfl imp_au
  · intro b_1
    replace H0:=cneg H0 b_1
    refine lok_skip ?_
    try simp only [thenL,blockL,↓reduceIte,reduceCtorEq]
    replace H0:=bind_some H0
    obtain ⟨⟨y,y1⟩,h_0,H0⟩:=H0
    try dsimp only at H0
    refine lok_rt (Env.of E0 [⟨some 21,105,[.agg [.p (pi a.Num),.p (pi a.Den)],.agg [.p (pi b.Num),.p (pi b.Den)]],[],[.agg [.p (pi y.Num),.p (pi y.Den)],.one (.p (pi y1))],[],True,fun _ => ok_ratio_Div a b (y,y1) h_0,[]⟩]) (⟨29,mkS [(0,.x (.one (.ptr 0 0))),(8,.x (.one (.ptr 108 0))),(9,.x (.one (.ptr 109 0))),(10,.x (.one (.p (pi y1))))],mkH [(0,.var [.p (pi s.e)]),(108,.var [.p (pi (0:Int)),.p (pi (0:Int))]),(109,.var [.p (pi y.Num),.p (pi y.Den)])]⟩) ?_
    refine lok_rt E0 (⟨29,mkS [(8,.x (.one (.ptr 108 0))),(9,.x (.one (.ptr 109 0)))],mkH [(0,.var [.p (pi y1)]),(108,.var [.p (pi (0:Int)),.p (pi (0:Int))]),(109,.var [.p (pi y.Num),.p (pi y.Den)])]⟩) ?_
    refine lok_rt E0 (⟨29,mkS [(8,.x (.one (.ptr 108 0)))],mkH [(0,.var [.p (pi y1)]),(108,.var [.p (pi y.Num),.p (pi y.Den)])]⟩) ?_
    refine lok_ret ?_
    obtain rfl:=Option.some.inj H0
    try simp only [thenL,blockL]
    exact fin_au _ (.inr rfl) [0] (⟨29,mkS [(8,.x (.one (.ptr 108 0)))],mkH [(0,.var [.p (pi y1)]),(108,.var [.p (pi y.Num),.p (pi y.Den)])]⟩) rfl rfl imp_au
theorem ok_conversion_steps_slope (s:conversion_steps) (p:api_Point) (q:api_Point) (r_:api_Ratio × conversion_steps) (H0:conversion_steps_slope s p q=some r_):CallOK Tryz.prog 88 [.one (.ptr 0 0),.agg [.p (pi p.X.Num),.p (pi p.X.Den),.p (pi p.Y.Num),.p (pi p.Y.Den)],.agg [.p (pi q.X.Num),.p (pi q.X.Den),.p (pi q.Y.Num),.p (pi q.Y.Den)]] [.var [.p (pi s.e)]] [.agg [.p (pi r_.1.Num),.p (pi r_.1.Den)]] [some (.var [.p (pi r_.2.e)])]:=by
  refine callOK (n:=21) (rs:=[.cell 6 26]) (nb:=1) (V:=[0]) Tryz.func88 rfl (by kernel_rfl) rfl rfl rfl rfl (Nat.le_of_ble_eq_true rfl) (by decide) ?_
  unfold conversion_steps_slope at H0
  refine lok_rt E0 (⟨21,mkS [(0,.x (.one (.ptr 0 0))),(4,.x (.one (.ptr 104 0))),(5,.x (.one (.ptr 105 0))),(6,.x (.one (.ptr 106 0)))],mkH [(0,.var [.p (pi s.e)]),(104,.var [.p (pi p.X.Num),.p (pi p.X.Den),.p (pi p.Y.Num),.p (pi p.Y.Den)]),(105,.var [.p (pi q.X.Num),.p (pi q.X.Den),.p (pi q.Y.Num),.p (pi q.Y.Den)]),(106,.var [.p (pi (0:Int)),.p (pi (0:Int))])]⟩) ?_
  replace H0:=bind_some H0
  obtain ⟨⟨y,y1⟩,h_0,H0⟩:=H0
  try dsimp only at H0
  replace H0:=bind_some H0
  obtain ⟨⟨y2,y3⟩,h_1,H0⟩:=H0
  try dsimp only at H0
  replace H0:=bind_some H0
  obtain ⟨⟨y4,y5⟩,h_2,H0⟩:=H0
  try dsimp only at H0
  refine lok_et (Env.of E0 [⟨some 13,89,[.one (.ptr 0 0),.one (.fn 92 []),.agg [.p (pi q.Y.Num),.p (pi q.Y.Den)],.agg [.p (pi p.Y.Num),.p (pi p.Y.Den)]],[.var [.p (pi s.e)]],[.agg [.p (pi y.Num),.p (pi y.Den)]],[some (.var [.p (pi y1.e)])],True,fun _ => ok_conversion_steps_do_ratio_Sub s q.Y p.Y (y,y1) h_0,[]⟩,
      ⟨some 19,89,[.one (.ptr 0 0),.one (.fn 92 []),.agg [.p (pi q.X.Num),.p (pi q.X.Den)],.agg [.p (pi p.X.Num),.p (pi p.X.Den)]],[.var [.p (pi y1.e)]],[.agg [.p (pi y2.Num),.p (pi y2.Den)]],[some (.var [.p (pi y3.e)])],True,fun _ => ok_conversion_steps_do_ratio_Sub y1 q.X p.X (y2,y3) h_1,[]⟩,
      ⟨some 20,89,[.one (.ptr 0 0),.one (.fn 105 []),.agg [.p (pi y.Num),.p (pi y.Den)],.agg [.p (pi y2.Num),.p (pi y2.Den)]],[.var [.p (pi y3.e)]],[.agg [.p (pi y4.Num),.p (pi y4.Den)]],[some (.var [.p (pi y5.e)])],True,fun _ => ok_conversion_steps_do_ratio_Div y3 y y2 (y4,y5) h_2,[]⟩]) 21 [⟨[(0,.x (.one (.ptr 0 0)))],[],[(7,.x (.one (.ptr 0 0)))],[],none⟩,
      ⟨[(0,.x (.one (.ptr 0 0)))],[],[(8,.x (.one (.ptr 0 0)))],[],none⟩,
      ⟨[(5,.x (.one (.ptr 105 0)))],[],[(9,.x (.one (.ptr 105 2)))],[],none⟩,
      ⟨[(9,.x (.one (.ptr 105 2)))],[(105,some (.var [.p (pi q.X.Num),.p (pi q.X.Den),.p (pi q.Y.Num),.p (pi q.Y.Den)]))],[(10,.x (.agg [.p (pi q.Y.Num),.p (pi q.Y.Den)]))],[],none⟩,
      ⟨[(4,.x (.one (.ptr 104 0)))],[],[(11,.x (.one (.ptr 104 2)))],[],none⟩,
      ⟨[(11,.x (.one (.ptr 104 2)))],[(104,some (.var [.p (pi p.X.Num),.p (pi p.X.Den),.p (pi p.Y.Num),.p (pi p.Y.Den)]))],[(12,.x (.agg [.p (pi p.Y.Num),.p (pi p.Y.Den)]))],[],none⟩,
      ⟨[(8,.x (.one (.ptr 0 0))),(10,.x (.agg [.p (pi q.Y.Num),.p (pi q.Y.Den)])),(12,.x (.agg [.p (pi p.Y.Num),.p (pi p.Y.Den)]))],[(0,some (.var [.p (pi s.e)]))],[(13,.x (.agg [.p (pi y.Num),.p (pi y.Den)]))],[(0,some (.var [.p (pi y1.e)]))],none⟩,
      ⟨[(0,.x (.one (.ptr 0 0)))],[],[(14,.x (.one (.ptr 0 0)))],[],none⟩,
      ⟨[(5,.x (.one (.ptr 105 0)))],[],[(15,.x (.one (.ptr 105 0)))],[],none⟩,
      ⟨[(15,.x (.one (.ptr 105 0)))],[(105,some (.var [.p (pi q.X.Num),.p (pi q.X.Den),.p (pi q.Y.Num),.p (pi q.Y.Den)]))],[(16,.x (.agg [.p (pi q.X.Num),.p (pi q.X.Den)]))],[],none⟩,
      ⟨[(4,.x (.one (.ptr 104 0)))],[],[(17,.x (.one (.ptr 104 0)))],[],none⟩,
      ⟨[(17,.x (.one (.ptr 104 0)))],[(104,some (.var [.p (pi p.X.Num),.p (pi p.X.Den),.p (pi p.Y.Num),.p (pi p.Y.Den)]))],[(18,.x (.agg [.p (pi p.X.Num),.p (pi p.X.Den)]))],[],none⟩,
      ⟨[(14,.x (.one (.ptr 0 0))),(16,.x (.agg [.p (pi q.X.Num),.p (pi q.X.Den)])),(18,.x (.agg [.p (pi p.X.Num),.p (pi p.X.Den)]))],[(0,some (.var [.p (pi y1.e)]))],[(19,.x (.agg [.p (pi y2.Num),.p (pi y2.Den)]))],[(0,some (.var [.p (pi y3.e)]))],none⟩] (⟨21,mkS [(6,.x (.one (.ptr 106 0)))],mkH [(0,.var [.p (pi y5.e)]),(106,.var [.p (pi y4.Num),.p (pi y4.Den)])]⟩) (by kernel_rfl) (by kernel_rfl) (by kernel_rfl) rfl rfl rfl ?_
  refine lok_ret ?_
  obtain rfl:=Option.some.inj H0
  try simp only [thenL,blockL]
  exact fin_au _ (.inr rfl) [0] (⟨21,mkS [(6,.x (.one (.ptr 106 0)))],mkH [(0,.var [.p (pi y5.e)]),(106,.var [.p (pi y4.Num),.p (pi y4.Den)])]⟩) rfl rfl imp_au
set_option maxHeartbeats 4000000 in
theorem ok_conversion_eval (points:List api_Point) (x:api_Ratio) (r_:api_Ratio × Int) (H0:conversion_eval points x=some r_):CallOK Tryz.prog 70 [.one (.p (.sl 4 (List.map enc_api_Point points))),.agg [.p (pi x.Num),.p (pi x.Den)]] [] [.agg [.p (pi r_.1.Num),.p (pi r_.1.Den)],.one (.p (pi r_.2))] []:=by
  refine callOK (n:=45) (rs:=[.cell 4 26,.tmp 5]) (nb:=0) (V:=[]) Tryz.func70 rfl (by kernel_rfl) rfl rfl rfl rfl (Nat.le_of_ble_eq_true rfl) (by decide) ?_
  unfold conversion_eval at H0
  refine lok_rt E0 (⟨45,mkS [(2,.x (.one (.ptr 102 0))),(3,.x (.one (.ptr 103 0))),(4,.x (.one (.ptr 104 0)))],mkH [(102,.var [.p (.sl 4 (List.map enc_api_Point points))]),(103,.var [.p (pi x.Num),.p (pi x.Den)]),(104,.var [.p (pi (0:Int)),.p (pi (0:Int))])]⟩) ?_
  refine lok_rt E0 (⟨45,mkS [(2,.x (.one (.ptr 102 0))),(3,.x (.one (.ptr 103 0))),(4,.x (.one (.ptr 104 0))),(6,.x (.one (.p (pi (IntKind.i64.wrap ((points.length:Int)-(1:Int)))))))],mkH [(102,.var [.p (.sl 4 (List.map enc_api_Point points))]),(103,.var [.p (pi x.Num),.p (pi x.Den)]),(104,.var [.p (pi (0:Int)),.p (pi (0:Int))])]⟩) ?_
  replace H0:=bind_some H0
  obtain ⟨y,h_0,H0⟩:=H0
  refine lok_rt (Env.of E0 [⟨some 19,86,[.one (.p (pi (IntKind.i64.wrap ((IntKind.i64.wrap ((points.length:Int)-(1:Int)))-(1:Int))))),.one (.fn 87 [0,1])],[.var [.p (pi x.Num),.p (pi x.Den)],.var [.p (.sl 4 (List.map enc_api_Point points))]],[.one (.p (pi y))],[some (.var [.p (pi x.Num),.p (pi x.Den)]),some (.var [.p (.sl 4 (List.map enc_api_Point points))])],True,fun _ => ok_sort_Search_conversion_eval_f1 (IntKind.i64.wrap ((IntKind.i64.wrap ((points.length:Int)-(1:Int)))-(1:Int))) x points y h_0,[]⟩]) (⟨45,mkS [(2,.x (.one (.ptr 102 0))),(3,.x (.one (.ptr 103 0))),(4,.x (.one (.ptr 104 0))),(7,.x (.one (.p (pi (IntKind.i64.wrap ((1:Int)+y))))))],mkH [(102,.var [.p (.sl 4 (List.map enc_api_Point points))]),(103,.var [.p (pi x.Num),.p (pi x.Den)]),(104,.var [.p (pi (0:Int)),.p (pi (0:Int))])]⟩) ?_
  replace H0:=req_some H0
  obtain ⟨⟨q_9,q_10⟩,H0⟩:=H0
  replace H0:=bindV_some H0
  obtain ⟨p,a_1,H0⟩:=H0
  replace H0:=bindV_some H0
  obtain ⟨p1,a_2,H0⟩:=H0
  replace H0:=bindV_some H0
  obtain ⟨p2,a_3,H0⟩:=H0
  replace H0:=bindV_some H0
  obtain ⟨p3,a_4,H0⟩:=H0
  refine lok_etg E0 45 [⟨[(2,.x (.one (.ptr 102 0)))],[(102,some (.var [.p (.sl 4 (List.map enc_api_Point points))]))],[(21,.x (.one (.p (.sl 4 (List.map enc_api_Point points)))))],[],none⟩,
      ⟨[(7,.x (.one (.p (pi (IntKind.i64.wrap ((1:Int)+y))))))],[],[(22,.x (.one (.p (pi (IntKind.i64.wrap ((1:Int)+y))))))],[],none⟩,
      ⟨[(22,.x (.one (.p (pi (IntKind.i64.wrap ((1:Int)+y))))))],[],[(23,.x (.one (.p (pi (IntKind.i64.wrap ((IntKind.i64.wrap ((1:Int)+y))-(1:Int)))))))],[],none⟩,
      ⟨[(21,.x (.one (.p (.sl 4 (List.map enc_api_Point points))))),(23,.x (.one (.p (pi (IntKind.i64.wrap ((IntKind.i64.wrap ((1:Int)+y))-(1:Int)))))))],[],[(24,.x (.one (.ep [pi (((ix points (IntKind.i64.wrap ((IntKind.i64.wrap ((1:Int)+y))-(1:Int)))).X).Num),pi (((ix points (IntKind.i64.wrap ((IntKind.i64.wrap ((1:Int)+y))-(1:Int)))).X).Den),pi (((ix points (IntKind.i64.wrap ((IntKind.i64.wrap ((1:Int)+y))-(1:Int)))).Y).Num),pi (((ix points (IntKind.i64.wrap ((IntKind.i64.wrap ((1:Int)+y))-(1:Int)))).Y).Den)])))],[],none⟩,
      ⟨[(24,.x (.one (.ep [pi (((ix points (IntKind.i64.wrap ((IntKind.i64.wrap ((1:Int)+y))-(1:Int)))).X).Num),pi (((ix points (IntKind.i64.wrap ((IntKind.i64.wrap ((1:Int)+y))-(1:Int)))).X).Den),pi (((ix points (IntKind.i64.wrap ((IntKind.i64.wrap ((1:Int)+y))-(1:Int)))).Y).Num),pi (((ix points (IntKind.i64.wrap ((IntKind.i64.wrap ((1:Int)+y))-(1:Int)))).Y).Den)])))],[],[(25,.x (.agg [.p (pi (((ix points (IntKind.i64.wrap ((IntKind.i64.wrap ((1:Int)+y))-(1:Int)))).X).Num)),.p (pi (((ix points (IntKind.i64.wrap ((IntKind.i64.wrap ((1:Int)+y))-(1:Int)))).X).Den)),.p (pi (((ix points (IntKind.i64.wrap ((IntKind.i64.wrap ((1:Int)+y))-(1:Int)))).Y).Num)),.p (pi (((ix points (IntKind.i64.wrap ((IntKind.i64.wrap ((1:Int)+y))-(1:Int)))).Y).Den))]))],[],none⟩,
      ⟨[(2,.x (.one (.ptr 102 0)))],[(102,some (.var [.p (.sl 4 (List.map enc_api_Point points))]))],[(26,.x (.one (.p (.sl 4 (List.map enc_api_Point points)))))],[],none⟩,
      ⟨[(7,.x (.one (.p (pi (IntKind.i64.wrap ((1:Int)+y))))))],[],[(27,.x (.one (.p (pi (IntKind.i64.wrap ((1:Int)+y))))))],[],none⟩,
      ⟨[(26,.x (.one (.p (.sl 4 (List.map enc_api_Point points))))),(27,.x (.one (.p (pi (IntKind.i64.wrap ((1:Int)+y))))))],[],[(28,.x (.one (.ep [pi (((ix points (IntKind.i64.wrap ((1:Int)+y))).X).Num),pi (((ix points (IntKind.i64.wrap ((1:Int)+y))).X).Den),pi (((ix points (IntKind.i64.wrap ((1:Int)+y))).Y).Num),pi (((ix points (IntKind.i64.wrap ((1:Int)+y))).Y).Den)])))],[],none⟩,
      ⟨[(28,.x (.one (.ep [pi (((ix points (IntKind.i64.wrap ((1:Int)+y))).X).Num),pi (((ix points (IntKind.i64.wrap ((1:Int)+y))).X).Den),pi (((ix points (IntKind.i64.wrap ((1:Int)+y))).Y).Num),pi (((ix points (IntKind.i64.wrap ((1:Int)+y))).Y).Den)])))],[],[(29,.x (.agg [.p (pi (((ix points (IntKind.i64.wrap ((1:Int)+y))).X).Num)),.p (pi (((ix points (IntKind.i64.wrap ((1:Int)+y))).X).Den)),.p (pi (((ix points (IntKind.i64.wrap ((1:Int)+y))).Y).Num)),.p (pi (((ix points (IntKind.i64.wrap ((1:Int)+y))).Y).Den))]))],[],none⟩,
      ⟨[],[(108,none)],[(8,.x (.one (.ptr 108 0)))],[(108,some (.var [.p (pi (0:Int)),.p (pi (0:Int)),.p (pi (0:Int)),.p (pi (0:Int))]))],some 108⟩,
      ⟨[],[(109,none)],[(9,.x (.one (.ptr 109 0)))],[(109,some (.var [.p (pi (0:Int)),.p (pi (0:Int)),.p (pi (0:Int)),.p (pi (0:Int))]))],some 109⟩,
      ⟨[(8,.x (.one (.ptr 108 0))),(25,.x (.agg [.p (pi (((ix points (IntKind.i64.wrap ((IntKind.i64.wrap ((1:Int)+y))-(1:Int)))).X).Num)),.p (pi (((ix points (IntKind.i64.wrap ((IntKind.i64.wrap ((1:Int)+y))-(1:Int)))).X).Den)),.p (pi (((ix points (IntKind.i64.wrap ((IntKind.i64.wrap ((1:Int)+y))-(1:Int)))).Y).Num)),.p (pi (((ix points (IntKind.i64.wrap ((IntKind.i64.wrap ((1:Int)+y))-(1:Int)))).Y).Den))]))],[(108,some (.var [.p (pi (0:Int)),.p (pi (0:Int)),.p (pi (0:Int)),.p (pi (0:Int))]))],[],[(108,some (.var [.p (pi (((ix points (IntKind.i64.wrap ((IntKind.i64.wrap ((1:Int)+y))-(1:Int)))).X).Num)),.p (pi (((ix points (IntKind.i64.wrap ((IntKind.i64.wrap ((1:Int)+y))-(1:Int)))).X).Den)),.p (pi (((ix points (IntKind.i64.wrap ((IntKind.i64.wrap ((1:Int)+y))-(1:Int)))).Y).Num)),.p (pi (((ix points (IntKind.i64.wrap ((IntKind.i64.wrap ((1:Int)+y))-(1:Int)))).Y).Den))]))],none⟩] (And.intro a_1 (And.intro a_2 (And.intro a_3 a_4))) (⟨45,mkS [(3,.x (.one (.ptr 103 0))),(4,.x (.one (.ptr 104 0))),(8,.x (.one (.ptr 108 0))),(9,.x (.one (.ptr 109 0)))],mkH [(103,.var [.p (pi x.Num),.p (pi x.Den)]),(104,.var [.p (pi (0:Int)),.p (pi (0:Int))]),(108,.var [.p (pi p),.p (pi p1),.p (pi p2),.p (pi p3)]),(109,.var [.p (pi (((ix points (IntKind.i64.wrap ((1:Int)+y))).X).Num)),.p (pi (((ix points (IntKind.i64.wrap ((1:Int)+y))).X).Den)),.p (pi (((ix points (IntKind.i64.wrap ((1:Int)+y))).Y).Num)),.p (pi (((ix points (IntKind.i64.wrap ((1:Int)+y))).Y).Den))])]⟩) (by kernel_rfl) (by kernel_rfl) (by kernel_rfl) rfl rfl rfl ?_
  refine lok_rt E0 (⟨45,mkS [(3,.x (.one (.ptr 103 0))),(4,.x (.one (.ptr 104 0))),(8,.x (.one (.ptr 108 0))),(9,.x (.one (.ptr 109 0))),(10,.x (.one (.ptr 110 0)))],mkH [(103,.var [.p (pi x.Num),.p (pi x.Den)]),(104,.var [.p (pi (0:Int)),.p (pi (0:Int))]),(108,.var [.p (pi p),.p (pi p1),.p (pi p2),.p (pi p3)]),(109,.var [.p (pi (((ix points (IntKind.i64.wrap ((1:Int)+y))).X).Num)),.p (pi (((ix points (IntKind.i64.wrap ((1:Int)+y))).X).Den)),.p (pi (((ix points (IntKind.i64.wrap ((1:Int)+y))).Y).Num)),.p (pi (((ix points (IntKind.i64.wrap ((1:Int)+y))).Y).Den))]),(110,.var [.p (pi (0:Int))])]⟩) ?_
  replace H0:=bind_some H0
  obtain ⟨⟨y1,y2⟩,h_5,H0⟩:=H0
  try dsimp only at H0
  refine lok_rt (Env.of E0 [⟨some 32,88,[.one (.ptr 0 0),.agg [.p (pi p),.p (pi p1),.p (pi p2),.p (pi p3)],.agg [.p (pi (((ix points (IntKind.i64.wrap ((1:Int)+y))).X).Num)),.p (pi (((ix points (IntKind.i64.wrap ((1:Int)+y))).X).Den)),.p (pi (((ix points (IntKind.i64.wrap ((1:Int)+y))).Y).Num)),.p (pi (((ix points (IntKind.i64.wrap ((1:Int)+y))).Y).Den))]],[.var [.p (pi (0:Int))]],[.agg [.p (pi y1.Num),.p (pi y1.Den)]],[some (.var [.p (pi y2.e)])],True,fun _ => ok_conversion_steps_slope (conversion_steps.mk (0:Int)) (api_Point.mk (api_Ratio.mk p p1) (api_Ratio.mk p2 p3)) (api_Point.mk ((ix points (IntKind.i64.wrap ((1:Int)+y))).X) ((ix points (IntKind.i64.wrap ((1:Int)+y))).Y)) (y1,y2) h_5,[]⟩]) (⟨45,mkS [(3,.x (.one (.ptr 103 0))),(4,.x (.one (.ptr 104 0))),(8,.x (.one (.ptr 108 0))),(10,.x (.one (.ptr 110 0))),(11,.x (.one (.ptr 111 0)))],mkH [(103,.var [.p (pi x.Num),.p (pi x.Den)]),(104,.var [.p (pi (0:Int)),.p (pi (0:Int))]),(108,.var [.p (pi p),.p (pi p1),.p (pi p2),.p (pi p3)]),(110,.var [.p (pi y2.e)]),(111,.var [.p (pi y1.Num),.p (pi y1.Den)])]⟩) ?_
  replace H0:=bind_some H0
  obtain ⟨⟨y3,y4⟩,h_6,H0⟩:=H0
  try dsimp only at H0
  replace H0:=bind_some H0
  obtain ⟨⟨y5,y6⟩,h_7,H0⟩:=H0
  try dsimp only at H0
  replace H0:=bind_some H0
  obtain ⟨⟨y7,y8⟩,h_8,H0⟩:=H0
  try dsimp only at H0
  refine lok_et (Env.of E0 [⟨some 38,89,[.one (.ptr 0 0),.one (.fn 92 []),.agg [.p (pi x.Num),.p (pi x.Den)],.agg [.p (pi p),.p (pi p1)]],[.var [.p (pi y2.e)]],[.agg [.p (pi y3.Num),.p (pi y3.Den)]],[some (.var [.p (pi y4.e)])],True,fun _ => ok_conversion_steps_do_ratio_Sub y2 x (api_Ratio.mk p p1) (y3,y4) h_6,[]⟩,
      ⟨some 40,89,[.one (.ptr 0 0),.one (.fn 91 []),.agg [.p (pi y3.Num),.p (pi y3.Den)],.agg [.p (pi y1.Num),.p (pi y1.Den)]],[.var [.p (pi y4.e)]],[.agg [.p (pi y5.Num),.p (pi y5.Den)]],[some (.var [.p (pi y6.e)])],True,fun _ => ok_conversion_steps_do_ratio_Mul y4 y3 y1 (y5,y6) h_7,[]⟩,
      ⟨some 41,89,[.one (.ptr 0 0),.one (.fn 90 []),.agg [.p (pi p2),.p (pi p3)],.agg [.p (pi y5.Num),.p (pi y5.Den)]],[.var [.p (pi y6.e)]],[.agg [.p (pi y7.Num),.p (pi y7.Den)]],[some (.var [.p (pi y8.e)])],True,fun _ => ok_conversion_steps_do_ratio_Add y6 (api_Ratio.mk p2 p3) y5 (y7,y8) h_8,[]⟩]) 45 [⟨[(8,.x (.one (.ptr 108 0)))],[],[(33,.x (.one (.ptr 108 2)))],[],none⟩,
      ⟨[(33,.x (.one (.ptr 108 2)))],[(108,some (.var [.p (pi p),.p (pi p1),.p (pi p2),.p (pi p3)]))],[(34,.x (.agg [.p (pi p2),.p (pi p3)]))],[],none⟩,
      ⟨[(3,.x (.one (.ptr 103 0)))],[(103,some (.var [.p (pi x.Num),.p (pi x.Den)]))],[(35,.x (.agg [.p (pi x.Num),.p (pi x.Den)]))],[],none⟩,
      ⟨[(8,.x (.one (.ptr 108 0)))],[],[(36,.x (.one (.ptr 108 0)))],[],none⟩,
      ⟨[(36,.x (.one (.ptr 108 0)))],[(108,some (.var [.p (pi p),.p (pi p1),.p (pi p2),.p (pi p3)]))],[(37,.x (.agg [.p (pi p),.p (pi p1)]))],[],none⟩,
      ⟨[(10,.x (.one (.ptr 110 0))),(35,.x (.agg [.p (pi x.Num),.p (pi x.Den)])),(37,.x (.agg [.p (pi p),.p (pi p1)]))],[(110,some (.var [.p (pi y2.e)]))],[(38,.x (.agg [.p (pi y3.Num),.p (pi y3.Den)]))],[(110,some (.var [.p (pi y4.e)]))],none⟩,
      ⟨[(11,.x (.one (.ptr 111 0)))],[(111,some (.var [.p (pi y1.Num),.p (pi y1.Den)]))],[(39,.x (.agg [.p (pi y1.Num),.p (pi y1.Den)]))],[],none⟩,
      ⟨[(10,.x (.one (.ptr 110 0))),(38,.x (.agg [.p (pi y3.Num),.p (pi y3.Den)])),(39,.x (.agg [.p (pi y1.Num),.p (pi y1.Den)]))],[(110,some (.var [.p (pi y4.e)]))],[(40,.x (.agg [.p (pi y5.Num),.p (pi y5.Den)]))],[(110,some (.var [.p (pi y6.e)]))],none⟩,
      ⟨[(10,.x (.one (.ptr 110 0))),(34,.x (.agg [.p (pi p2),.p (pi p3)])),(40,.x (.agg [.p (pi y5.Num),.p (pi y5.Den)]))],[(110,some (.var [.p (pi y6.e)]))],[(41,.x (.agg [.p (pi y7.Num),.p (pi y7.Den)]))],[(110,some (.var [.p (pi y8.e)]))],none⟩,
      ⟨[],[(112,none)],[(12,.x (.one (.ptr 112 0)))],[(112,some (.var [.p (pi (0:Int)),.p (pi (0:Int))]))],some 112⟩] (⟨45,mkS [(4,.x (.one (.ptr 104 0))),(10,.x (.one (.ptr 110 0))),(12,.x (.one (.ptr 112 0)))],mkH [(104,.var [.p (pi (0:Int)),.p (pi (0:Int))]),(110,.var [.p (pi y8.e)]),(112,.var [.p (pi y7.Num),.p (pi y7.Den)])]⟩) (by kernel_rfl) (by kernel_rfl) (by kernel_rfl) rfl rfl rfl ?_
  refine lok_et E0 45 [⟨[(12,.x (.one (.ptr 112 0)))],[(112,some (.var [.p (pi y7.Num),.p (pi y7.Den)]))],[(42,.x (.agg [.p (pi y7.Num),.p (pi y7.Den)]))],[],none⟩,
      ⟨[(10,.x (.one (.ptr 110 0)))],[],[(43,.x (.one (.ptr 110 0)))],[],none⟩,
      ⟨[(43,.x (.one (.ptr 110 0)))],[(110,some (.var [.p (pi y8.e)]))],[(44,.x (.one (.p (pi y8.e))))],[],none⟩,
      ⟨[(4,.x (.one (.ptr 104 0))),(42,.x (.agg [.p (pi y7.Num),.p (pi y7.Den)]))],[(104,some (.var [.p (pi (0:Int)),.p (pi (0:Int))]))],[],[(104,some (.var [.p (pi y7.Num),.p (pi y7.Den)]))],none⟩] (⟨45,mkS [(4,.x (.one (.ptr 104 0))),(5,.x (.one (.p (pi y8.e))))],mkH [(104,.var [.p (pi y7.Num),.p (pi y7.Den)])]⟩) (by kernel_rfl) (by kernel_rfl) (by kernel_rfl) rfl rfl rfl ?_
  refine lok_ret ?_
  obtain rfl:=Option.some.inj H0
  try simp only [thenL,blockL]
  exact fin_au _ (.inr rfl) [] (⟨45,mkS [(4,.x (.one (.ptr 104 0))),(5,.x (.one (.p (pi y8.e))))],mkH [(104,.var [.p (pi y7.Num),.p (pi y7.Den)])]⟩) rfl rfl imp_au
theorem ok_conversion_Eval (c:api_Curve) (x:api_Ratio) (r_:api_Ratio × Int) (H0:conversion_Eval c x=some r_):CallOK Tryz.prog 53 [.agg [.p (.sl 4 (List.map enc_api_Point c.Points))],.agg [.p (pi x.Num),.p (pi x.Den)]] [] [.agg [.p (pi r_.1.Num),.p (pi r_.1.Den)],.one (.p (pi r_.2))] []:=by
  refine callOK (n:=21) (rs:=[.cell 4 26,.tmp 5]) (nb:=0) (V:=[]) Tryz.func53 rfl (by kernel_rfl) rfl rfl rfl rfl (Nat.le_of_ble_eq_true rfl) (by decide) ?_
  unfold conversion_Eval at H0
  refine lok_rt E0 (⟨21,mkS [(2,.x (.one (.ptr 102 0))),(3,.x (.one (.ptr 103 0))),(4,.x (.one (.ptr 104 0)))],mkH [(102,.var [.p (.sl 4 (List.map enc_api_Point c.Points))]),(103,.var [.p (pi x.Num),.p (pi x.Den)]),(104,.var [.p (pi (0:Int)),.p (pi (0:Int))])]⟩) ?_
  refine lok_seq ?_
  replace H0:=bind_some H0
  obtain ⟨y,h_0,H0⟩:=H0
  replace H0:=req_some H0
  obtain ⟨q_3,H0⟩:=H0
  refine lok_rt (Env.of E0 [⟨some 7,69,[.agg [.p (.sl 4 (List.map enc_api_Point c.Points))]],[],[.one (.p (.val (.bool y)))],[],True,fun _ => ok_conversion_Valid c y h_0,[]⟩,
      ⟨some 11,58,[.agg [.p (pi x.Num),.p (pi x.Den)]],[],[.one (.p (.val (.bool ((ratio_Valid x).getD default))))],[],(ratio_Valid x).isSome=true,fun h => ok_ratio_Valid x _ (isSome_get h),[]⟩]) (⟨21,mkS [(2,.x (.one (.ptr 102 0))),(3,.x (.one (.ptr 103 0))),(4,.x (.one (.ptr 104 0))),(13,.x (.one (.p (.val (.bool ((!y)||(!((ratio_Valid x).getD default))))))))],mkH [(102,.var [.p (.sl 4 (List.map enc_api_Point c.Points))]),(103,.var [.p (pi x.Num),.p (pi x.Den)]),(104,.var [.p (pi (0:Int)),.p (pi (0:Int))])]⟩) ?_
  refine lok_c ((!y)||(!((ratio_Valid x).getD default))) ?_ ?_
  · intro b_2
    replace H0:=cpos H0 b_2
    refine lok_rt E0 (⟨21,mkS [(4,.x (.one (.ptr 104 0))),(5,.x (.one (.p (pi (1:Int)))))],mkH [(104,.var [.p (pi (0:Int)),.p (pi (0:Int))])]⟩) ?_
    refine lok_ret ?_
    obtain rfl:=Option.some.inj H0
    try simp only [thenL,blockL]
    exact fin_au _ (.inr rfl) [] (⟨21,mkS [(4,.x (.one (.ptr 104 0))),(5,.x (.one (.p (pi (1:Int)))))],mkH [(104,.var [.p (pi (0:Int)),.p (pi (0:Int))])]⟩) rfl rfl imp_au
  · intro b_2
    replace H0:=cneg H0 b_2
    refine lok_skip ?_
    try simp only [thenL,blockL,↓reduceIte,reduceCtorEq]
    replace H0:=bind_some H0
    obtain ⟨⟨y1,y2⟩,h_1,H0⟩:=H0
    try dsimp only at H0
    refine lok_rt (Env.of E0 [⟨some 18,70,[.one (.p (.sl 4 (List.map enc_api_Point c.Points))),.agg [.p (pi x.Num),.p (pi x.Den)]],[],[.agg [.p (pi y1.Num),.p (pi y1.Den)],.one (.p (pi y2))],[],True,fun _ => ok_conversion_eval c.Points x (y1,y2) h_1,[]⟩]) (⟨21,mkS [(4,.x (.one (.ptr 104 0))),(5,.x (.one (.p (pi y2))))],mkH [(104,.var [.p (pi y1.Num),.p (pi y1.Den)])]⟩) ?_
    refine lok_ret ?_
    obtain rfl:=Option.some.inj H0
    try simp only [thenL,blockL]
    exact fin_au _ (.inr rfl) [] (⟨21,mkS [(4,.x (.one (.ptr 104 0))),(5,.x (.one (.p (pi y2))))],mkH [(104,.var [.p (pi y1.Num),.p (pi y1.Den)])]⟩) rfl rfl imp_au
theorem ok_conversion_whole (n:Int) (r_:api_Ratio) (H0:conversion_whole n=some r_):CallOK Tryz.prog 54 [.one (.p (pi n))] [] [.agg [.p (pi r_.Num),.p (pi r_.Den)]] []:=by
  refine callOK (n:=5) (rs:=[.cell 2 26]) (nb:=0) (V:=[]) Tryz.func54 rfl (by kernel_rfl) rfl rfl rfl rfl (Nat.le_of_ble_eq_true rfl) (by decide) ?_
  unfold conversion_whole at H0
  refine lok_rt E0 (⟨5,mkS [(0,.x (.one (.p (pi n)))),(2,.x (.one (.ptr 102 0)))],mkH [(102,.var [.p (pi (0:Int)),.p (pi (0:Int))])]⟩) ?_
  refine lok_rt E0 (⟨5,mkS [(2,.x (.one (.ptr 102 0)))],mkH [(102,.var [.p (pi n),.p (pi (1:Int))])]⟩) ?_
  refine lok_ret ?_
  obtain rfl:=Option.some.inj H0
  try simp only [thenL,blockL]
  exact fin_au _ (.inr rfl) [] (⟨5,mkS [(2,.x (.one (.ptr 102 0)))],mkH [(102,.var [.p (pi n),.p (pi (1:Int))])]⟩) rfl rfl imp_au
theorem ok_ratio_toRound (floor:Int) (rest:Int) (den:Int) (r_:Int) (H0:ratio_toRound floor rest den=some r_):CallOK Tryz.prog 72 [.one (.p (pi floor)),.one (.p (pi rest)),.one (.p (pi den))] [] [.one (.p (pi r_))] []:=by
  refine callOK (n:=15) (rs:=[.tmp 6]) (nb:=0) (V:=[]) Tryz.func72 rfl (by kernel_rfl) rfl rfl rfl rfl (Nat.le_of_ble_eq_true rfl) (by decide) ?_
  unfold ratio_toRound at H0
  refine lok_rt E0 (⟨15,mkS [(0,.x (.one (.p (pi floor)))),(1,.x (.one (.p (pi rest)))),(2,.x (.one (.p (pi den))))],mkH []⟩) ?_
  refine lok_seq ?_
  refine lok_rt E0 (⟨15,mkS [(0,.x (.one (.p (pi floor)))),(11,.x (.one (.p (.val (.bool (decide ((IntKind.i64.wrap (den-rest))≤rest)))))))],mkH []⟩) ?_
  refine lok_c (decide ((IntKind.i64.wrap (den-rest))≤rest)) ?_ ?_
  · intro b_0
    replace H0:=cpos H0 b_0
    refine lok_rt E0 (⟨15,mkS [(6,.x (.one (.p (pi (IntKind.i64.wrap (floor+(1:Int)))))))],mkH []⟩) ?_
    refine lok_ret ?_
    obtain rfl:=Option.some.inj H0
    try simp only [thenL,blockL]
    exact fin_au _ (.inr rfl) [] (⟨15,mkS [(6,.x (.one (.p (pi (IntKind.i64.wrap (floor+(1:Int)))))))],mkH []⟩) rfl rfl imp_au
  · intro b_0
    replace H0:=cneg H0 b_0
    refine lok_skip ?_
    try simp only [thenL,blockL,↓reduceIte,reduceCtorEq]
    refine lok_rt E0 (⟨15,mkS [(6,.x (.one (.p (pi floor))))],mkH []⟩) ?_
    refine lok_ret ?_
    obtain rfl:=Option.some.inj H0
    try simp only [thenL,blockL]
    exact fin_au _ (.inr rfl) [] (⟨15,mkS [(6,.x (.one (.p (pi floor))))],mkH []⟩) rfl rfl imp_au
theorem ok_ratio_rounded_ratio_toRound (a:api_Ratio) (r_:Int) (H0:ratio_rounded_ratio_toRound a=some r_):CallOK Tryz.prog 71 [.agg [.p (pi a.Num),.p (pi a.Den)],.one (.fn 72 [])] [] [.one (.p (pi r_))] []:=by
  refine callOK (n:=34) (rs:=[.tmp 4]) (nb:=0) (V:=[]) Tryz.func71 rfl (by kernel_rfl) rfl rfl rfl rfl (Nat.le_of_ble_eq_true rfl) (by decide) ?_
  unfold ratio_rounded_ratio_toRound at H0
  refine lok_rt E0 (⟨34,mkS [(1,.x (.one (.fn 72 []))),(2,.x (.one (.ptr 102 0)))],mkH [(102,.var [.p (pi a.Num),.p (pi a.Den)])]⟩) ?_
  refine lok_seq ?_
  replace H0:=bind_some H0
  obtain ⟨y,h_0,H0⟩:=H0
  refine lok_rt (Env.of E0 [⟨some 8,58,[.agg [.p (pi a.Num),.p (pi a.Den)]],[],[.one (.p (.val (.bool y)))],[],True,fun _ => ok_ratio_Valid a y h_0,[]⟩]) (⟨34,mkS [(1,.x (.one (.fn 72 []))),(2,.x (.one (.ptr 102 0))),(9,.x (.one (.p (.val (.bool (!y))))))],mkH [(102,.var [.p (pi a.Num),.p (pi a.Den)])]⟩) ?_
  refine lok_c (!y) ?_ ?_
  · intro b_5
    replace H0:=cpos H0 b_5
    refine lok_rt E0 (⟨34,mkS [(4,.x (.one (.p (pi (0:Int)))))],mkH []⟩) ?_
    refine lok_ret ?_
    obtain rfl:=Option.some.inj H0
    try simp only [thenL,blockL]
    exact fin_au _ (.inr rfl) [] (⟨34,mkS [(4,.x (.one (.p (pi (0:Int)))))],mkH []⟩) rfl rfl imp_au
  · intro b_5
    replace H0:=cneg H0 b_5
    refine lok_skip ?_
    try simp only [thenL,blockL,↓reduceIte,reduceCtorEq]
    replace H0:=req_some H0
    obtain ⟨q_4,H0⟩:=H0
    refine lok_dt E0 11 (⟨34,mkS [(1,.x (.one (.fn 72 []))),(2,.x (.one (.ptr 102 0))),(5,.x (.one (.p (pi (IntKind.i64.wrap (Int.tdiv a.Num a.Den)))))),(6,.x (.one (.p (pi (Int.tmod a.Num a.Den)))))],mkH [(102,.var [.p (pi a.Num),.p (pi a.Den)])]⟩) (by kernel_rfl) (by kernel_rfl) ?_
    refine lok_join (fun x_:Int × Int => ratio_rounded_ratio_toRound_j1 a x_.1 x_.2=some r_) (fun x_ => ⟨34,mkS [(1,.x (.one (.fn 72 []))),(2,.x (.one (.ptr 102 0))),(5,.x (.one (.p (pi x_.1)))),(6,.x (.one (.p (pi x_.2))))],mkH [(102,.var [.p (pi a.Num),.p (pi a.Den)])]⟩) ?hyratio_rounded_ratio_toRound_j1 ?hxratio_rounded_ratio_toRound_j1
    case hyratio_rounded_ratio_toRound_j1 =>
      rintro ⟨floor,rest⟩ H0
      try dsimp only at H0 ⊢
      unfold ratio_rounded_ratio_toRound_j1 at H0
      replace H0:=bind_some H0
      obtain ⟨y1,h_1,H0⟩:=H0
      refine lok_rt (Env.of E0 [⟨some 33,72,[.one (.p (pi floor)),.one (.p (pi rest)),.one (.p (pi a.Den))],[],[.one (.p (pi y1))],[],True,fun _ => ok_ratio_toRound floor rest a.Den y1 h_1,[]⟩]) (⟨34,mkS [(4,.x (.one (.p (pi y1))))],mkH []⟩) ?_
      refine lok_ret ?_
      obtain rfl:=Option.some.inj H0
      try simp only [thenL,blockL]
      exact fin_au _ (.inr rfl) [] (⟨34,mkS [(4,.x (.one (.p (pi y1))))],mkH []⟩) rfl rfl imp_au
    case hxratio_rounded_ratio_toRound_j1 =>
      refine lok_rt E0 (⟨34,mkS [(1,.x (.one (.fn 72 []))),(2,.x (.one (.ptr 102 0))),(5,.x (.one (.p (pi (IntKind.i64.wrap (Int.tdiv a.Num a.Den)))))),(6,.x (.one (.p (pi (Int.tmod a.Num a.Den))))),(21,.x (.one (.p (.val (.bool (decide ((Int.tmod a.Num a.Den)<(0:Int))))))))],mkH [(102,.var [.p (pi a.Num),.p (pi a.Den)])]⟩) ?_
      refine lok_c (decide ((Int.tmod a.Num a.Den)<(0:Int))) ?_ ?_
      · intro b_3
        replace H0:=cpos H0 b_3
        replace H0:=bindV_some H0
        obtain ⟨floor1,a_2,H0⟩:=H0
        refine lok_dlg E0 7 a_2 (⟨34,mkS [(1,.x (.one (.fn 72 []))),(2,.x (.one (.ptr 102 0))),(5,.x (.one (.p (pi floor1)))),(6,.x (.one (.p (pi (IntKind.i64.wrap ((Int.tmod a.Num a.Den)+a.Den))))))],mkH [(102,.var [.p (pi a.Num),.p (pi a.Den)])]⟩) (by kernel_rfl) (by kernel_rfl) ?_
        try simp only [thenL,blockL,↓reduceIte,reduceCtorEq]
        exact ⟨(floor1,(IntKind.i64.wrap ((Int.tmod a.Num a.Den)+a.Den))),H0,imp_au⟩
      · intro b_3
        replace H0:=cneg H0 b_3
        refine lok_skip ?_
        try simp only [thenL,blockL,↓reduceIte,reduceCtorEq]
        exact ⟨((IntKind.i64.wrap (Int.tdiv a.Num a.Den)),(Int.tmod a.Num a.Den)),H0,imp_au⟩
theorem ok_ratio_Round (a:api_Ratio) (r_:Int) (H0:ratio_Round a=some r_):CallOK Tryz.prog 55 [.agg [.p (pi a.Num),.p (pi a.Den)]] [] [.one (.p (pi r_))] []:=by
  refine callOK (n:=5) (rs:=[.tmp 2]) (nb:=0) (V:=[]) Tryz.func55 rfl (by kernel_rfl) rfl rfl rfl rfl (Nat.le_of_ble_eq_true rfl) (by decide) ?_
  unfold ratio_Round at H0
  refine lok_rt E0 (⟨5,mkS [(1,.x (.one (.ptr 101 0)))],mkH [(101,.var [.p (pi a.Num),.p (pi a.Den)])]⟩) ?_
  replace H0:=bind_some H0
  obtain ⟨y,h_0,H0⟩:=H0
  refine lok_rt (Env.of E0 [⟨some 4,71,[.agg [.p (pi a.Num),.p (pi a.Den)],.one (.fn 72 [])],[],[.one (.p (pi y))],[],True,fun _ => ok_ratio_rounded_ratio_toRound a y h_0,[]⟩]) (⟨5,mkS [(2,.x (.one (.p (pi y))))],mkH []⟩) ?_
  refine lok_ret ?_
  obtain rfl:=Option.some.inj H0
  try simp only [thenL,blockL]
  exact fin_au _ (.inr rfl) [] (⟨5,mkS [(2,.x (.one (.p (pi y))))],mkH []⟩) rfl rfl imp_au
theorem ok_conversion_Convert (c:api_Curve) (mark:Int) (most:Int) (r_:Int × Int) (H0:conversion_Convert c mark most=some r_):CallOK Tryz.prog 40 [.agg [.p (.sl 4 (List.map enc_api_Point c.Points))],.one (.p (pi mark)),.one (.p (pi most))] [] [.one (.p (pi r_.1)),.one (.p (pi r_.2))] []:=by
  refine callOK (n:=39) (rs:=[.tmp 6,.tmp 7]) (nb:=0) (V:=[]) Tryz.func40 rfl (by kernel_rfl) rfl rfl rfl rfl (Nat.le_of_ble_eq_true rfl) (by decide) ?_
  unfold conversion_Convert at H0
  refine lok_rt E0 (⟨39,mkS [(1,.x (.one (.p (pi mark)))),(2,.x (.one (.p (pi most)))),(3,.x (.one (.ptr 103 0)))],mkH [(103,.var [.p (.sl 4 (List.map enc_api_Point c.Points))])]⟩) ?_
  refine lok_seq ?_
  refine lok_rt E0 (⟨39,mkS [(1,.x (.one (.p (pi mark)))),(2,.x (.one (.p (pi most)))),(3,.x (.one (.ptr 103 0))),(23,.x (.one (.p (.val (.bool ((((decide (mark<(0:Int)))||(decide ((200:Int)<mark)))||(decide (most<(0:Int))))||(decide ((200:Int)<most))))))))],mkH [(103,.var [.p (.sl 4 (List.map enc_api_Point c.Points))])]⟩) ?_
  refine lok_c ((((decide (mark<(0:Int)))||(decide ((200:Int)<mark)))||(decide (most<(0:Int))))||(decide ((200:Int)<most))) ?_ ?_
  · intro b_4
    replace H0:=cpos H0 b_4
    refine lok_rt E0 (⟨39,mkS [(6,.x (.one (.p (pi (0:Int))))),(7,.x (.one (.p (pi (2:Int)))))],mkH []⟩) ?_
    refine lok_ret ?_
    obtain rfl:=Option.some.inj H0
    try simp only [thenL,blockL]
    exact fin_au _ (.inr rfl) [] (⟨39,mkS [(6,.x (.one (.p (pi (0:Int))))),(7,.x (.one (.p (pi (2:Int)))))],mkH []⟩) rfl rfl imp_au
  · intro b_4
    replace H0:=cneg H0 b_4
    refine lok_skip ?_
    try simp only [thenL,blockL,↓reduceIte,reduceCtorEq]
    replace H0:=bind_some H0
    obtain ⟨y,h_0,H0⟩:=H0
    replace H0:=bind_some H0
    obtain ⟨⟨y1,y2⟩,h_1,H0⟩:=H0
    try dsimp only at H0
    refine lok_et (Env.of E0 [⟨some 27,54,[.one (.p (pi mark))],[],[.agg [.p (pi y.Num),.p (pi y.Den)]],[],True,fun _ => ok_conversion_whole mark y h_0,[]⟩,
      ⟨some 28,53,[.agg [.p (.sl 4 (List.map enc_api_Point c.Points))],.agg [.p (pi y.Num),.p (pi y.Den)]],[],[.agg [.p (pi y1.Num),.p (pi y1.Den)],.one (.p (pi y2))],[],True,fun _ => ok_conversion_Eval c y (y1,y2) h_1,[]⟩]) 39 [⟨[(3,.x (.one (.ptr 103 0)))],[(103,some (.var [.p (.sl 4 (List.map enc_api_Point c.Points))]))],[(25,.x (.agg [.p (.sl 4 (List.map enc_api_Point c.Points))]))],[],none⟩,
      ⟨[(1,.x (.one (.p (pi mark))))],[],[(26,.x (.one (.p (pi mark))))],[],none⟩,
      ⟨[(26,.x (.one (.p (pi mark))))],[],[(27,.x (.agg [.p (pi y.Num),.p (pi y.Den)]))],[],none⟩,
      ⟨[(25,.x (.agg [.p (.sl 4 (List.map enc_api_Point c.Points))])),(27,.x (.agg [.p (pi y.Num),.p (pi y.Den)]))],[],[(28,.tup [.agg [.p (pi y1.Num),.p (pi y1.Den)],.one (.p (pi y2))])],[],none⟩,
      ⟨[(28,.tup [.agg [.p (pi y1.Num),.p (pi y1.Den)],.one (.p (pi y2))])],[],[(24,.tup [.agg [.p (pi y1.Num),.p (pi y1.Den)],.one (.p (pi y2))])],[],none⟩,
      ⟨[(24,.tup [.agg [.p (pi y1.Num),.p (pi y1.Den)],.one (.p (pi y2))])],[],[(29,.x (.agg [.p (pi y1.Num),.p (pi y1.Den)]))],[],none⟩,
      ⟨[(24,.tup [.agg [.p (pi y1.Num),.p (pi y1.Den)],.one (.p (pi y2))])],[],[(30,.x (.one (.p (pi y2))))],[],none⟩,
      ⟨[],[(108,none)],[(8,.x (.one (.ptr 108 0)))],[(108,some (.var [.p (pi (0:Int)),.p (pi (0:Int))]))],some 108⟩,
      ⟨[(8,.x (.one (.ptr 108 0))),(29,.x (.agg [.p (pi y1.Num),.p (pi y1.Den)]))],[(108,some (.var [.p (pi (0:Int)),.p (pi (0:Int))]))],[],[(108,some (.var [.p (pi y1.Num),.p (pi y1.Den)]))],none⟩] (⟨39,mkS [(2,.x (.one (.p (pi most)))),(8,.x (.one (.ptr 108 0))),(9,.x (.one (.p (pi y2))))],mkH [(108,.var [.p (pi y1.Num),.p (pi y1.Den)])]⟩) (by kernel_rfl) (by kernel_rfl) (by kernel_rfl) rfl rfl rfl ?_
    refine lok_seq ?_
    refine lok_rt E0 (⟨39,mkS [(2,.x (.one (.p (pi most)))),(8,.x (.one (.ptr 108 0))),(9,.x (.one (.p (pi y2)))),(32,.x (.one (.p (.val (.bool (y2 != (0:Int)))))))],mkH [(108,.var [.p (pi y1.Num),.p (pi y1.Den)])]⟩) ?_
    refine lok_c (y2 != (0:Int)) ?_ ?_
    · intro b_3
      replace H0:=cpos H0 b_3
      refine lok_rt E0 (⟨39,mkS [(6,.x (.one (.p (pi (0:Int))))),(7,.x (.one (.p (pi y2))))],mkH []⟩) ?_
      refine lok_ret ?_
      obtain rfl:=Option.some.inj H0
      try simp only [thenL,blockL]
      exact fin_au _ (.inr rfl) [] (⟨39,mkS [(6,.x (.one (.p (pi (0:Int))))),(7,.x (.one (.p (pi y2))))],mkH []⟩) rfl rfl imp_au
    · intro b_3
      replace H0:=cneg H0 b_3
      refine lok_skip ?_
      try simp only [thenL,blockL,↓reduceIte,reduceCtorEq]
      replace H0:=bind_some H0
      obtain ⟨y3,h_2,H0⟩:=H0
      refine lok_rt (Env.of E0 [⟨some 35,55,[.agg [.p (pi y1.Num),.p (pi y1.Den)]],[],[.one (.p (pi y3))],[],True,fun _ => ok_ratio_Round y1 y3 h_2,[]⟩]) (⟨39,mkS [(6,.x (.one (.p (pi (imin (imax y3 (0:Int)) most))))),(7,.x (.one (.p (pi (0:Int)))))],mkH []⟩) ?_
      refine lok_ret ?_
      obtain rfl:=Option.some.inj H0
      try simp only [thenL,blockL]
      exact fin_au _ (.inr rfl) [] (⟨39,mkS [(6,.x (.one (.p (pi (imin (imax y3 (0:Int)) most))))),(7,.x (.one (.p (pi (0:Int)))))],mkH []⟩) rfl rfl imp_au
set_option maxHeartbeats 4000000 in
theorem ok_boundary_Transfer (b:List Int) (c:api_Curve) (most:Int) (r_:(List Int) × Int) (H0:boundary_Transfer b c most=some r_):CallOK Tryz.prog 20 [.one (.p (.sl 1 (List.map encI b))),.agg [.p (.sl 4 (List.map enc_api_Point c.Points))],.one (.p (pi most))] [] [.one (.p (.sl 1 (List.map encI r_.1))),.one (.p (pi r_.2))] []:=by
  refine callOK (n:=81) (rs:=[.tmp 6,.tmp 7]) (nb:=0) (V:=[]) Tryz.func20 rfl (by kernel_rfl) rfl rfl rfl rfl (Nat.le_of_ble_eq_true rfl) (by decide) ?_
  unfold boundary_Transfer at H0
  refine lok_rt E0 (⟨81,mkS [(0,.x (.one (.p (.sl 1 (List.map encI b))))),(2,.x (.one (.p (pi most)))),(4,.x (.one (.ptr 104 0)))],mkH [(104,.var [.p (.sl 4 (List.map enc_api_Point c.Points))])]⟩) ?_
  refine lok_seq ?_
  replace H0:=bind_some H0
  obtain ⟨y,h_0,H0⟩:=H0
  refine lok_rt (Env.of E0 [⟨some 17,29,[.one (.p (pi most))],[],[.one (.p (.val (.bool y)))],[],True,fun _ => ok_boundary_isScore most y h_0,[]⟩]) (⟨81,mkS [(0,.x (.one (.p (.sl 1 (List.map encI b))))),(2,.x (.one (.p (pi most)))),(4,.x (.one (.ptr 104 0))),(18,.x (.one (.p (.val (.bool (!y))))))],mkH [(104,.var [.p (.sl 4 (List.map enc_api_Point c.Points))])]⟩) ?_
  refine lok_c (!y) ?_ ?_
  · intro b_19
    replace H0:=cpos H0 b_19
    refine lok_rt E0 (⟨81,mkS [(6,.x (.one (.vw 106))),(7,.x (.one (.p (pi (2:Int)))))],mkH [(106,.arr 1 (List.map encI ([]:List Int)))]⟩) ?_
    refine lok_ret ?_
    obtain rfl:=Option.some.inj H0
    try simp only [thenL,blockL]
    exact fin_au _ (.inr rfl) [] (⟨81,mkS [(6,.x (.one (.p (.sl 1 (List.map encI ([]:List Int)))))),(7,.x (.one (.p (pi (2:Int)))))],mkH []⟩) rfl rfl (Imp.trans (imp_frz 106 1 (List.map encI ([]:List Int))) imp_au)
  · intro b_19
    replace H0:=cneg H0 b_19
    refine lok_skip ?_
    try simp only [thenL,blockL,↓reduceIte,reduceCtorEq]
    refine lok_seq ?_
    replace H0:=bind_some H0
    obtain ⟨y1,h_1,H0⟩:=H0
    refine lok_rt (Env.of E0 [⟨some 20,10,[.one (.p (.sl 1 (List.map encI b))),.one (.p (pi (200:Int)))],[],[.one (.p (pi y1))],[],True,fun _ => ok_boundary_Check b (200:Int) y1 h_1,[]⟩]) (⟨81,mkS [(0,.x (.one (.p (.sl 1 (List.map encI b))))),(2,.x (.one (.p (pi most)))),(4,.x (.one (.ptr 104 0))),(8,.x (.one (.p (pi y1))))],mkH [(104,.var [.p (.sl 4 (List.map enc_api_Point c.Points))])]⟩) ?_
    refine lok_rt E0 (⟨81,mkS [(0,.x (.one (.p (.sl 1 (List.map encI b))))),(2,.x (.one (.p (pi most)))),(4,.x (.one (.ptr 104 0))),(8,.x (.one (.p (pi y1)))),(22,.x (.one (.p (.val (.bool (y1 != (0:Int)))))))],mkH [(104,.var [.p (.sl 4 (List.map enc_api_Point c.Points))])]⟩) ?_
    refine lok_c (y1 != (0:Int)) ?_ ?_
    · intro b_18
      replace H0:=cpos H0 b_18
      refine lok_rt E0 (⟨81,mkS [(6,.x (.one (.vw 106))),(7,.x (.one (.p (pi y1))))],mkH [(106,.arr 1 (List.map encI ([]:List Int)))]⟩) ?_
      refine lok_ret ?_
      obtain rfl:=Option.some.inj H0
      try simp only [thenL,blockL]
      exact fin_au _ (.inr rfl) [] (⟨81,mkS [(6,.x (.one (.p (.sl 1 (List.map encI ([]:List Int)))))),(7,.x (.one (.p (pi y1))))],mkH []⟩) rfl rfl (Imp.trans (imp_frz 106 1 (List.map encI ([]:List Int))) imp_au)
    · intro b_18
      replace H0:=cneg H0 b_18
      refine lok_skip ?_
      try simp only [thenL,blockL,↓reduceIte,reduceCtorEq]
      replace H0:=req_some H0
      obtain ⟨q_17,H0⟩:=H0
      refine lok_rt E0 (⟨81,mkS [(0,.x (.one (.p (.sl 1 (List.map encI b))))),(2,.x (.one (.p (pi most)))),(4,.x (.one (.ptr 104 0))),(9,.x (.one (.vw 126)))],mkH [(104,.var [.p (.sl 4 (List.map enc_api_Point c.Points))]),(126,.arr 1 (List.map encI (rep (IntKind.i64.wrap (most+(1:Int))) (0:Int))))]⟩) ?_
      refine lok_join (fun x_:(List Int) => boundary_Transfer_j5 b most x_=some r_) (fun x_ => ⟨81,mkS [(0,.x (.one (.p (.sl 1 (List.map encI b))))),(2,.x (.one (.p (pi most)))),(9,.x (.one (.vw 126)))],mkH [(126,.arr 1 (List.map encI x_))]⟩) ?hyboundary_Transfer_j5 ?hxboundary_Transfer_j5
      case hyboundary_Transfer_j5 =>
        rintro w H0
        try dsimp only at H0 ⊢
        unfold boundary_Transfer_j5 at H0
        replace H0:=req_some H0
        obtain ⟨q_11,H0⟩:=H0
        refine lok_rt E0 (⟨81,mkS [(0,.x (.one (.p (.sl 1 (List.map encI b))))),(2,.x (.one (.p (pi most)))),(9,.x (.one (.vw 126))),(13,.x (.one (.vw 148)))],mkH [(126,.arr 1 (List.map encI w)),(148,.arr 1 (List.map encI (rep (b.length:Int) (0:Int))))]⟩) ?_
        refine lok_join (fun x_:(List Int) => boundary_Transfer_j1 x_=some r_) (fun x_ => ⟨81,mkS [(13,.x (.one (.vw 148)))],mkH [(148,.arr 1 (List.map encI x_))]⟩) ?hyboundary_Transfer_j1 ?hxboundary_Transfer_j1
        case hyboundary_Transfer_j1 =>
          rintro w1 H0
          try dsimp only at H0 ⊢
          unfold boundary_Transfer_j1 at H0
          refine lok_rt E0 (⟨81,mkS [(6,.x (.one (.vw 148))),(7,.x (.one (.p (pi (0:Int)))))],mkH [(148,.arr 1 (List.map encI w1))]⟩) ?_
          refine lok_ret ?_
          obtain rfl:=Option.some.inj H0
          try simp only [thenL,blockL]
          exact fin_au _ (.inr rfl) [] (⟨81,mkS [(6,.x (.one (.p (.sl 1 (List.map encI w1))))),(7,.x (.one (.p (pi (0:Int)))))],mkH []⟩) rfl rfl (Imp.trans (imp_frz 148 1 (List.map encI w1)) imp_au)
        case hxboundary_Transfer_j1 =>
          refine lok_rt E0 (⟨81,mkS [(2,.x (.one (.p (pi most)))),(9,.x (.one (.vw 126))),(13,.x (.one (.vw 148))),(49,.x (.one (.p (.sl 1 (List.map encI b))))),(50,.x (.one (.p (pi (b.length:Int))))),(51,.x (.one (.p (pi (0:Int)))))],mkH [(126,.arr 1 (List.map encI w)),(148,.arr 1 (List.map encI (rep (b.length:Int) (0:Int))))]⟩) ?_
          refine lok_block ?_
          replace H0:=bind_some H0
          obtain ⟨v_2,hv_2,H0⟩:=H0
          refine lok_iter (fun x_ => ⟨81,mkS [(2,.x (.one (.p (pi most)))),(9,.x (.one (.vw 126))),(13,.x (.one (.vw 148))),(49,.x (.one (.p (.sl 1 (List.map encI b))))),(50,.x (.one (.p (pi (b.length:Int))))),(51,.x (.one (.p (pi x_.1))))],mkH [(126,.arr 1 (List.map encI w)),(148,.arr 1 (List.map encI x_.2))]⟩) hv_2 imp_au ?_
          · rintro ⟨v,w2⟩ o_1 H1 k_1
            unfold boundary_Transfer_l4 at H1
            try dsimp only at H1 ⊢
            refine lok_rt E0 (⟨81,mkS [(2,.x (.one (.p (pi most)))),(9,.x (.one (.vw 126))),(13,.x (.one (.vw 148))),(49,.x (.one (.p (.sl 1 (List.map encI b))))),(50,.x (.one (.p (pi (b.length:Int))))),(51,.x (.one (.p (pi v)))),(52,.x (.one (.p (.val (.bool (decide (v<(b.length:Int))))))))],mkH [(126,.arr 1 (List.map encI w)),(148,.arr 1 (List.map encI w2))]⟩) ?_
            refine lok_seq ?_
            refine lok_c (decide (v<(b.length:Int))) ?_ ?_
            · intro b_10
              replace H1:=cpos H1 b_10
              refine lok_skip ?_
              try simp only [thenL,blockL,↓reduceIte,reduceCtorEq]
              refine lok_join (fun x_:(List Int) => boundary_Transfer_j2 v x_=some o_1) (fun x_ => ⟨81,mkS [(2,.x (.one (.p (pi most)))),(9,.x (.one (.vw 126))),(13,.x (.one (.vw 148))),(49,.x (.one (.p (.sl 1 (List.map encI b))))),(50,.x (.one (.p (pi (b.length:Int))))),(51,.x (.one (.p (pi v))))],mkH [(126,.arr 1 (List.map encI w)),(148,.arr 1 (List.map encI x_))]⟩) ?hyboundary_Transfer_j2 ?hxboundary_Transfer_j2
              case hyboundary_Transfer_j2 =>
                rintro w4 H1
                try dsimp only at H1 ⊢
                unfold boundary_Transfer_j2 at H1
                refine lok_rl E0 (⟨81,mkS [(2,.x (.one (.p (pi most)))),(9,.x (.one (.vw 126))),(13,.x (.one (.vw 148))),(49,.x (.one (.p (.sl 1 (List.map encI b))))),(50,.x (.one (.p (pi (b.length:Int))))),(51,.x (.one (.p (pi (IntKind.i64.wrap (v+(1:Int)))))))],mkH [(126,.arr 1 (List.map encI w)),(148,.arr 1 (List.map encI w4))]⟩) ?_
                try simp only [thenL,blockL,↓reduceIte,reduceCtorEq]
                exact ⟨((IntKind.i64.wrap (v+(1:Int))),w4),(Option.some.inj H1).symm,imp_au⟩
              case hxboundary_Transfer_j2 =>
                refine lok_block ?_
                replace H1:=req_some H1
                obtain ⟨q_9,H1⟩:=H1
                refine lok_rt E0 (⟨81,mkS [(2,.x (.one (.p (pi most)))),(9,.x (.one (.vw 126))),(13,.x (.one (.vw 148))),(14,.x (.one (.p (pi v)))),(15,.x (.one (.p (pi (ix b v))))),(49,.x (.one (.p (.sl 1 (List.map encI b))))),(50,.x (.one (.p (pi (b.length:Int))))),(51,.x (.one (.p (pi v))))],mkH [(126,.arr 1 (List.map encI w)),(148,.arr 1 (List.map encI w2))]⟩) ?_
                refine lok_block ?_
                replace H1:=bind_some H1
                obtain ⟨v_3,hv_3,H1⟩:=H1
                refine lok_iter (fun x_ => ⟨81,mkS [(2,.x (.one (.p (pi most)))),(9,.x (.one (.vw 126))),(13,.x (.one (.vw 148))),(14,.x (.one (.p (pi v)))),(15,.x (.one (.p (pi (ix b v))))),(49,.x (.one (.p (.sl 1 (List.map encI b))))),(50,.x (.one (.p (pi (b.length:Int))))),(51,.x (.one (.p (pi v))))],mkH [(126,.arr 1 (List.map encI w)),(148,.arr 1 (List.map encI x_))]⟩) hv_3 imp_au ?_
                · rintro w5 o_2 H2 k_2
                  unfold boundary_Transfer_l3 at H2
                  try dsimp only at H2 ⊢
                  refine lok_seq ?_
                  replace H2:=req_some H2
                  obtain ⟨⟨q_6,q_7,q_8⟩,H2⟩:=H2
                  refine lok_rt E0 (⟨81,mkS [(2,.x (.one (.p (pi most)))),(9,.x (.one (.vw 126))),(13,.x (.one (.vw 148))),(14,.x (.one (.p (pi v)))),(15,.x (.one (.p (pi (ix b v))))),(49,.x (.one (.p (.sl 1 (List.map encI b))))),(50,.x (.one (.p (pi (b.length:Int))))),(51,.x (.one (.p (pi v)))),(72,.x (.one (.p (.val (.bool ((decide ((ix w5 v)≤most))&&(decide ((ix w (ix w5 v))<(ix b v)))))))))],mkH [(126,.arr 1 (List.map encI w)),(148,.arr 1 (List.map encI w5))]⟩) ?_
                  refine lok_c ((decide ((ix w5 v)≤most))&&(decide ((ix w (ix w5 v))<(ix b v)))) ?_ ?_
                  · intro b_5
                    replace H2:=cpos H2 b_5
                    refine lok_skip ?_
                    try simp only [thenL,blockL,↓reduceIte,reduceCtorEq]
                    refine lok_block ?_
                    replace H2:=req_some H2
                    obtain ⟨q_4,H2⟩:=H2
                    refine lok_rl E0 (⟨81,mkS [(2,.x (.one (.p (pi most)))),(9,.x (.one (.vw 126))),(13,.x (.one (.vw 148))),(14,.x (.one (.p (pi v)))),(15,.x (.one (.p (pi (ix b v))))),(49,.x (.one (.p (.sl 1 (List.map encI b))))),(50,.x (.one (.p (pi (b.length:Int))))),(51,.x (.one (.p (pi v))))],mkH [(126,.arr 1 (List.map encI w)),(148,.arr 1 (List.map encI (setI w5 v (IntKind.i64.wrap ((ix w5 v)+(1:Int))))))]⟩) ?_
                    try simp only [thenL,blockL,↓reduceIte,reduceCtorEq]
                    exact ⟨(setI w5 v (IntKind.i64.wrap ((ix w5 v)+(1:Int)))),(Option.some.inj H2).symm,imp_au⟩
                  · intro b_5
                    replace H2:=cneg H2 b_5
                    refine lok_exit ?_
                    try simp only [thenL,blockL,↓reduceIte,reduceCtorEq]
                    have e_2:=k_2 _ (Option.some.inj H2).symm
                    subst e_2
                    try dsimp only at H1
                    try simp only [thenL,blockL,↓reduceIte,reduceCtorEq]
                    exact ⟨w5,H1,imp_au⟩
            · intro b_10
              replace H1:=cneg H1 b_10
              refine lok_exit ?_
              try simp only [thenL,blockL,↓reduceIte,reduceCtorEq]
              have e_1:=k_1 _ (Option.some.inj H1).symm
              subst e_1
              try dsimp only at H0
              try simp only [thenL,blockL,↓reduceIte,reduceCtorEq]
              exact ⟨w2,H0,imp_au⟩
      case hxboundary_Transfer_j5 =>
        refine lok_rt E0 (⟨81,mkS [(0,.x (.one (.p (.sl 1 (List.map encI b))))),(2,.x (.one (.p (pi most)))),(4,.x (.one (.ptr 104 0))),(9,.x (.one (.vw 126))),(28,.x (.one (.p (pi ((rep (IntKind.i64.wrap (most+(1:Int))) (0:Int)).length:Int))))),(29,.x (.one (.p (pi (0:Int)))))],mkH [(104,.var [.p (.sl 4 (List.map enc_api_Point c.Points))]),(126,.arr 1 (List.map encI (rep (IntKind.i64.wrap (most+(1:Int))) (0:Int))))]⟩) ?_
        refine lok_block ?_
        replace H0:=bind_some H0
        obtain ⟨v_12,hv_12,H0⟩:=H0
        refine lok_iter (fun x_ => ⟨81,mkS [(0,.x (.one (.p (.sl 1 (List.map encI b))))),(2,.x (.one (.p (pi most)))),(4,.x (.one (.ptr 104 0))),(9,.x (.one (.vw 126))),(28,.x (.one (.p (pi ((rep (IntKind.i64.wrap (most+(1:Int))) (0:Int)).length:Int))))),(29,.x (.one (.p (pi x_.1))))],mkH [(104,.var [.p (.sl 4 (List.map enc_api_Point c.Points))]),(126,.arr 1 (List.map encI x_.2))]⟩) hv_12 imp_au ?_
        · rintro ⟨v1,w7⟩ o_1 H1 k_1
          unfold boundary_Transfer_l6 at H1
          try dsimp only at H1 ⊢
          refine lok_rt E0 (⟨81,mkS [(0,.x (.one (.p (.sl 1 (List.map encI b))))),(2,.x (.one (.p (pi most)))),(4,.x (.one (.ptr 104 0))),(9,.x (.one (.vw 126))),(28,.x (.one (.p (pi ((rep (IntKind.i64.wrap (most+(1:Int))) (0:Int)).length:Int))))),(29,.x (.one (.p (pi v1)))),(30,.x (.one (.p (.val (.bool (decide (v1<((rep (IntKind.i64.wrap (most+(1:Int))) (0:Int)).length:Int))))))))],mkH [(104,.var [.p (.sl 4 (List.map enc_api_Point c.Points))]),(126,.arr 1 (List.map encI w7))]⟩) ?_
          refine lok_seq ?_
          refine lok_c (decide (v1<((rep (IntKind.i64.wrap (most+(1:Int))) (0:Int)).length:Int))) ?_ ?_
          · intro b_16
            replace H1:=cpos H1 b_16
            refine lok_skip ?_
            try simp only [thenL,blockL,↓reduceIte,reduceCtorEq]
            refine lok_seq ?_
            refine lok_block ?_
            refine lok_rt E0 (⟨81,mkS [(0,.x (.one (.p (.sl 1 (List.map encI b))))),(2,.x (.one (.p (pi most)))),(4,.x (.one (.ptr 104 0))),(9,.x (.one (.vw 126))),(10,.x (.one (.p (pi v1)))),(28,.x (.one (.p (pi ((rep (IntKind.i64.wrap (most+(1:Int))) (0:Int)).length:Int))))),(29,.x (.one (.p (pi v1))))],mkH [(104,.var [.p (.sl 4 (List.map enc_api_Point c.Points))]),(126,.arr 1 (List.map encI w7))]⟩) ?_
            replace H1:=bind_some H1
            obtain ⟨⟨y2,y3⟩,h_13,H1⟩:=H1
            try dsimp only at H1
            refine lok_rt (Env.of E0 [⟨some 35,40,[.agg [.p (.sl 4 (List.map enc_api_Point c.Points))],.one (.p (pi v1)),.one (.p (pi (200:Int)))],[],[.one (.p (pi y2)),.one (.p (pi y3))],[],True,fun _ => ok_conversion_Convert c v1 (200:Int) (y2,y3) h_13,[]⟩]) (⟨81,mkS [(0,.x (.one (.p (.sl 1 (List.map encI b))))),(2,.x (.one (.p (pi most)))),(4,.x (.one (.ptr 104 0))),(9,.x (.one (.vw 126))),(10,.x (.one (.p (pi v1)))),(11,.x (.one (.p (pi y2)))),(12,.x (.one (.p (pi y3)))),(28,.x (.one (.p (pi ((rep (IntKind.i64.wrap (most+(1:Int))) (0:Int)).length:Int))))),(29,.x (.one (.p (pi v1))))],mkH [(104,.var [.p (.sl 4 (List.map enc_api_Point c.Points))]),(126,.arr 1 (List.map encI w7))]⟩) ?_
            refine lok_seq ?_
            refine lok_rt E0 (⟨81,mkS [(0,.x (.one (.p (.sl 1 (List.map encI b))))),(2,.x (.one (.p (pi most)))),(4,.x (.one (.ptr 104 0))),(9,.x (.one (.vw 126))),(10,.x (.one (.p (pi v1)))),(11,.x (.one (.p (pi y2)))),(12,.x (.one (.p (pi y3)))),(28,.x (.one (.p (pi ((rep (IntKind.i64.wrap (most+(1:Int))) (0:Int)).length:Int))))),(29,.x (.one (.p (pi v1)))),(39,.x (.one (.p (.val (.bool (y3 != (0:Int)))))))],mkH [(104,.var [.p (.sl 4 (List.map enc_api_Point c.Points))]),(126,.arr 1 (List.map encI w7))]⟩) ?_
            refine lok_c (y3 != (0:Int)) ?_ ?_
            · intro b_15
              replace H1:=cpos H1 b_15
              refine lok_rt E0 (⟨81,mkS [(6,.x (.one (.vw 106))),(7,.x (.one (.p (pi y3))))],mkH [(106,.arr 1 (List.map encI ([]:List Int)))]⟩) ?_
              refine lok_ret ?_
              try simp only [thenL,blockL,↓reduceIte,reduceCtorEq]
              have e_1:=k_1 _ (Option.some.inj H1).symm
              subst e_1
              try dsimp only at H0
              obtain rfl:=Option.some.inj H0
              try simp only [thenL,blockL]
              exact fin_au _ (.inr rfl) [] (⟨81,mkS [(6,.x (.one (.p (.sl 1 (List.map encI ([]:List Int)))))),(7,.x (.one (.p (pi y3))))],mkH []⟩) rfl rfl (Imp.trans (imp_frz 106 1 (List.map encI ([]:List Int))) imp_au)
            · intro b_15
              replace H1:=cneg H1 b_15
              refine lok_skip ?_
              try simp only [thenL,blockL,↓reduceIte,reduceCtorEq]
              replace H1:=req_some H1
              obtain ⟨q_14,H1⟩:=H1
              refine lok_rl E0 (⟨81,mkS [(0,.x (.one (.p (.sl 1 (List.map encI b))))),(2,.x (.one (.p (pi most)))),(4,.x (.one (.ptr 104 0))),(9,.x (.one (.vw 126))),(28,.x (.one (.p (pi ((rep (IntKind.i64.wrap (most+(1:Int))) (0:Int)).length:Int))))),(29,.x (.one (.p (pi v1))))],mkH [(104,.var [.p (.sl 4 (List.map enc_api_Point c.Points))]),(126,.arr 1 (List.map encI (setI w7 v1 y2)))]⟩) ?_
              try simp only [thenL,blockL,↓reduceIte,reduceCtorEq]
              refine lok_rl E0 (⟨81,mkS [(0,.x (.one (.p (.sl 1 (List.map encI b))))),(2,.x (.one (.p (pi most)))),(4,.x (.one (.ptr 104 0))),(9,.x (.one (.vw 126))),(28,.x (.one (.p (pi ((rep (IntKind.i64.wrap (most+(1:Int))) (0:Int)).length:Int))))),(29,.x (.one (.p (pi (IntKind.i64.wrap (v1+(1:Int)))))))],mkH [(104,.var [.p (.sl 4 (List.map enc_api_Point c.Points))]),(126,.arr 1 (List.map encI (setI w7 v1 y2)))]⟩) ?_
              try simp only [thenL,blockL,↓reduceIte,reduceCtorEq]
              exact ⟨((IntKind.i64.wrap (v1+(1:Int))),(setI w7 v1 y2)),(Option.some.inj H1).symm,imp_au⟩
          · intro b_16
            replace H1:=cneg H1 b_16
            refine lok_exit ?_
            try simp only [thenL,blockL,↓reduceIte,reduceCtorEq]
            have e_1:=k_1 _ (Option.some.inj H1).symm
            subst e_1
            try dsimp only at H0
            try simp only [thenL,blockL,↓reduceIte,reduceCtorEq]
            exact ⟨w7,H0,imp_au⟩
theorem ok_ref33_rising (l:List api_Point) (r_:Bool) (H0:ref33_rising l=some r_):CallOK Tryz.prog 93 [.one (.p (.sl 4 (List.map enc_api_Point l)))] [] [.one (.p (.val (.bool r_)))] []:=by
  refine callOK (n:=63) (rs:=[.tmp 2]) (nb:=0) (V:=[]) Tryz.func93 rfl (by kernel_rfl) rfl rfl rfl rfl (Nat.le_of_ble_eq_true rfl) (by decide) ?_
  unfold ref33_rising at H0
  refine lok_rt E0 (⟨63,mkS [(0,.x (.one (.p (.sl 4 (List.map enc_api_Point l)))))],mkH []⟩) ?_
  refine lok_join (fun x_:Unit => ref33_rising_j1 l=some r_) (fun x_ => ⟨63,mkS [(0,.x (.one (.p (.sl 4 (List.map enc_api_Point l)))))],mkH []⟩) ?hyref33_rising_j1 ?hxref33_rising_j1
  case hyref33_rising_j1 =>
    rintro _ H0
    try dsimp only at H0 ⊢
    unfold ref33_rising_j1 at H0
    refine lok_rt E0 (⟨63,mkS [(2,.x (.one (.p (.val (.bool (decide ((2:Int)≤(l.length:Int))))))))],mkH []⟩) ?_
    refine lok_ret ?_
    obtain rfl:=Option.some.inj H0
    try simp only [thenL,blockL]
    exact fin_au _ (.inr rfl) [] (⟨63,mkS [(2,.x (.one (.p (.val (.bool (decide ((2:Int)≤(l.length:Int))))))))],mkH []⟩) rfl rfl imp_au
  case hxref33_rising_j1 =>
    refine lok_rt E0 (⟨63,mkS [(0,.x (.one (.p (.sl 4 (List.map enc_api_Point l))))),(3,.x (.one (.p (pi (0:Int)))))],mkH []⟩) ?_
    refine lok_block ?_
    replace H0:=bind_some H0
    obtain ⟨v_0,hv_0,H0⟩:=H0
    refine lok_iter (fun x_ => ⟨63,mkS [(0,.x (.one (.p (.sl 4 (List.map enc_api_Point l))))),(3,.x (.one (.p (pi x_))))],mkH []⟩) hv_0 imp_au ?_
    · rintro i o_1 H1 k_1
      unfold ref33_rising_l2 at H1
      try dsimp only at H1 ⊢
      refine lok_seq ?_
      refine lok_rt E0 (⟨63,mkS [(0,.x (.one (.p (.sl 4 (List.map enc_api_Point l))))),(3,.x (.one (.p (pi i)))),(7,.x (.one (.p (.val (.bool (decide (i<(l.length:Int))))))))],mkH []⟩) ?_
      refine lok_c (decide (i<(l.length:Int))) ?_ ?_
      · intro b_12
        replace H1:=cpos H1 b_12
        refine lok_skip ?_
        try simp only [thenL,blockL,↓reduceIte,reduceCtorEq]
        refine lok_seq ?_
        refine lok_block ?_
        replace H1:=req_some H1
        obtain ⟨q_3,H1⟩:=H1
        replace H1:=bind_some H1
        obtain ⟨y,h_1,H1⟩:=H1
        replace H1:=req_some H1
        obtain ⟨⟨q_4,q_5,q_6,q_7,q_8,q_9,q_10,q_11⟩,H1⟩:=H1
        refine lok_dt (Env.of E0 [⟨some 15,60,[.agg [.p (pi (((ix l i).X).Num)),.p (pi (((ix l i).X).Den))]],[],[.one (.p (.val (.bool y)))],[],True,fun _ => ok_ref01_Valid ((ix l i).X) y h_1,[]⟩,
      ⟨some 23,60,[.agg [.p (pi (((ix l i).Y).Num)),.p (pi (((ix l i).Y).Den))]],[],[.one (.p (.val (.bool ((ref01_Valid ((ix l i).Y)).getD default))))],[],(ref01_Valid ((ix l i).Y)).isSome=true,fun h => ok_ref01_Valid ((ix l i).Y) _ (isSome_get h),[]⟩,
      ⟨some 41,46,[.agg [.p (pi (((ix l (IntKind.i64.wrap (i-(1:Int)))).X).Num)),.p (pi (((ix l (IntKind.i64.wrap (i-(1:Int)))).X).Den))],.agg [.p (pi (((ix l i).X).Num)),.p (pi (((ix l i).X).Den))]],[],[.one (.p (.val (.bool ((ref01_Less ((ix l (IntKind.i64.wrap (i-(1:Int)))).X) ((ix l i).X)).getD default))))],[],(ref01_Less ((ix l (IntKind.i64.wrap (i-(1:Int)))).X) ((ix l i).X)).isSome=true,fun h => ok_ref01_Less ((ix l (IntKind.i64.wrap (i-(1:Int)))).X) ((ix l i).X) _ (isSome_get h),[]⟩,
      ⟨some 55,46,[.agg [.p (pi (((ix l (IntKind.i64.wrap (i-(1:Int)))).Y).Num)),.p (pi (((ix l (IntKind.i64.wrap (i-(1:Int)))).Y).Den))],.agg [.p (pi (((ix l i).Y).Num)),.p (pi (((ix l i).Y).Den))]],[],[.one (.p (.val (.bool ((ref01_Less ((ix l (IntKind.i64.wrap (i-(1:Int)))).Y) ((ix l i).Y)).getD default))))],[],(ref01_Less ((ix l (IntKind.i64.wrap (i-(1:Int)))).Y) ((ix l i).Y)).isSome=true,fun h => ok_ref01_Less ((ix l (IntKind.i64.wrap (i-(1:Int)))).Y) ((ix l i).Y) _ (isSome_get h),[]⟩]) 45 (⟨63,mkS [(0,.x (.one (.p (.sl 4 (List.map enc_api_Point l))))),(3,.x (.one (.p (pi i)))),(59,.x (.one (.p (.val (.bool (((!y)||(!((ref01_Valid ((ix l i).Y)).getD default)))||((decide ((0:Int)<i))&&((!((ref01_Less ((ix l (IntKind.i64.wrap (i-(1:Int)))).X) ((ix l i).X)).getD default))||(!((ref01_Less ((ix l (IntKind.i64.wrap (i-(1:Int)))).Y) ((ix l i).Y)).getD default))))))))))],mkH []⟩) (by kernel_rfl) (by kernel_rfl) ?_
        refine lok_c (((!y)||(!((ref01_Valid ((ix l i).Y)).getD default)))||((decide ((0:Int)<i))&&((!((ref01_Less ((ix l (IntKind.i64.wrap (i-(1:Int)))).X) ((ix l i).X)).getD default))||(!((ref01_Less ((ix l (IntKind.i64.wrap (i-(1:Int)))).Y) ((ix l i).Y)).getD default))))) ?_ ?_
        · intro b_2
          replace H1:=cpos H1 b_2
          refine lok_rt E0 (⟨63,mkS [(2,.x (.one (.p (.val (.bool false)))))],mkH []⟩) ?_
          refine lok_ret ?_
          try simp only [thenL,blockL,↓reduceIte,reduceCtorEq]
          have e_1:=k_1 _ (Option.some.inj H1).symm
          subst e_1
          try dsimp only at H0
          obtain rfl:=Option.some.inj H0
          try simp only [thenL,blockL]
          exact fin_au _ (.inr rfl) [] (⟨63,mkS [(2,.x (.one (.p (.val (.bool false)))))],mkH []⟩) rfl rfl imp_au
        · intro b_2
          replace H1:=cneg H1 b_2
          refine lok_skip ?_
          try simp only [thenL,blockL,↓reduceIte,reduceCtorEq]
          refine lok_rl E0 (⟨63,mkS [(0,.x (.one (.p (.sl 4 (List.map enc_api_Point l))))),(3,.x (.one (.p (pi (IntKind.i64.wrap (i+(1:Int)))))))],mkH []⟩) ?_
          try simp only [thenL,blockL,↓reduceIte,reduceCtorEq]
          exact ⟨(IntKind.i64.wrap (i+(1:Int))),(Option.some.inj H1).symm,imp_au⟩
      · intro b_12
        replace H1:=cneg H1 b_12
        refine lok_exit ?_
        try simp only [thenL,blockL,↓reduceIte,reduceCtorEq]
        have e_1:=k_1 _ (Option.some.inj H1).symm
        subst e_1
        try dsimp only at H0
        try simp only [thenL,blockL,↓reduceIte,reduceCtorEq]
        exact ⟨(),H0,imp_au⟩
theorem ok_ref33_Valid (c:api_Curve) (r_:Bool) (H0:ref33_Valid c=some r_):CallOK Tryz.prog 73 [.agg [.p (.sl 4 (List.map enc_api_Point c.Points))]] [] [.one (.p (.val (.bool r_)))] []:=by
  refine callOK (n:=12) (rs:=[.tmp 2]) (nb:=0) (V:=[]) Tryz.func73 rfl (by kernel_rfl) rfl rfl rfl rfl (Nat.le_of_ble_eq_true rfl) (by decide) ?_
  unfold ref33_Valid at H0
  refine lok_rt E0 (⟨12,mkS [(1,.x (.one (.ptr 101 0)))],mkH [(101,.var [.p (.sl 4 (List.map enc_api_Point c.Points))])]⟩) ?_
  replace H0:=req_some H0
  obtain ⟨q_0,H0⟩:=H0
  refine lok_rt (Env.of E0 [⟨some 10,93,[.one (.p (.sl 4 (List.map enc_api_Point c.Points)))],[],[.one (.p (.val (.bool ((ref33_rising c.Points).getD default))))],[],(ref33_rising c.Points).isSome=true,fun h => ok_ref33_rising c.Points _ (isSome_get h),[]⟩]) (⟨12,mkS [(2,.x (.one (.p (.val (.bool ((decide ((c.Points.length:Int)≤(410:Int)))&&((ref33_rising c.Points).getD default)))))))],mkH []⟩) ?_
  refine lok_ret ?_
  obtain rfl:=Option.some.inj H0
  try simp only [thenL,blockL]
  exact fin_au _ (.inr rfl) [] (⟨12,mkS [(2,.x (.one (.p (.val (.bool ((decide ((c.Points.length:Int)≤(410:Int)))&&((ref33_rising c.Points).getD default)))))))],mkH []⟩) rfl rfl imp_au
theorem ok_ref01_Div (a:api_Ratio) (b:api_Ratio) (r_:api_Ratio × Int) (H0:ref01_Div a b=some r_):CallOK Tryz.prog 107 [.agg [.p (pi a.Num),.p (pi a.Den)],.agg [.p (pi b.Num),.p (pi b.Den)]] [] [.agg [.p (pi r_.1.Num),.p (pi r_.1.Den)],.one (.p (pi r_.2))] []:=by
  refine callOK (n:=43) (rs:=[.cell 4 26,.tmp 5]) (nb:=0) (V:=[]) Tryz.func107 rfl (by kernel_rfl) rfl rfl rfl rfl (Nat.le_of_ble_eq_true rfl) (by decide) ?_
  unfold ref01_Div at H0
  refine lok_rt E0 (⟨43,mkS [(2,.x (.one (.ptr 102 0))),(3,.x (.one (.ptr 103 0))),(4,.x (.one (.ptr 104 0)))],mkH [(102,.var [.p (pi a.Num),.p (pi a.Den)]),(103,.var [.p (pi b.Num),.p (pi b.Den)]),(104,.var [.p (pi (0:Int)),.p (pi (0:Int))])]⟩) ?_
  refine lok_seq ?_
  replace H0:=bind_some H0
  obtain ⟨y,h_0,H0⟩:=H0
  replace H0:=req_some H0
  obtain ⟨q_10,H0⟩:=H0
  refine lok_rt (Env.of E0 [⟨some 7,60,[.agg [.p (pi a.Num),.p (pi a.Den)]],[],[.one (.p (.val (.bool y)))],[],True,fun _ => ok_ref01_Valid a y h_0,[]⟩,
      ⟨some 11,60,[.agg [.p (pi b.Num),.p (pi b.Den)]],[],[.one (.p (.val (.bool ((ref01_Valid b).getD default))))],[],(ref01_Valid b).isSome=true,fun h => ok_ref01_Valid b _ (isSome_get h),[]⟩]) (⟨43,mkS [(2,.x (.one (.ptr 102 0))),(3,.x (.one (.ptr 103 0))),(4,.x (.one (.ptr 104 0))),(13,.x (.one (.p (.val (.bool ((!y)||(!((ref01_Valid b).getD default))))))))],mkH [(102,.var [.p (pi a.Num),.p (pi a.Den)]),(103,.var [.p (pi b.Num),.p (pi b.Den)]),(104,.var [.p (pi (0:Int)),.p (pi (0:Int))])]⟩) ?_
  refine lok_c ((!y)||(!((ref01_Valid b).getD default))) ?_ ?_
  · intro b_9
    replace H0:=cpos H0 b_9
    refine lok_rt E0 (⟨43,mkS [(4,.x (.one (.ptr 104 0))),(5,.x (.one (.p (pi (1:Int)))))],mkH [(104,.var [.p (pi (0:Int)),.p (pi (0:Int))])]⟩) ?_
    refine lok_ret ?_
    obtain rfl:=Option.some.inj H0
    try simp only [thenL,blockL]
    exact fin_au _ (.inr rfl) [] (⟨43,mkS [(4,.x (.one (.ptr 104 0))),(5,.x (.one (.p (pi (1:Int)))))],mkH [(104,.var [.p (pi (0:Int)),.p (pi (0:Int))])]⟩) rfl rfl imp_au
  · intro b_9
    replace H0:=cneg H0 b_9
    refine lok_skip ?_
    try simp only [thenL,blockL,↓reduceIte,reduceCtorEq]
    refine lok_seq ?_
    refine lok_rt E0 (⟨43,mkS [(2,.x (.one (.ptr 102 0))),(3,.x (.one (.ptr 103 0))),(4,.x (.one (.ptr 104 0))),(17,.x (.one (.p (.val (.bool (b.Num==(0:Int)))))))],mkH [(102,.var [.p (pi a.Num),.p (pi a.Den)]),(103,.var [.p (pi b.Num),.p (pi b.Den)]),(104,.var [.p (pi (0:Int)),.p (pi (0:Int))])]⟩) ?_
    refine lok_c (b.Num==(0:Int)) ?_ ?_
    · intro b_8
      replace H0:=cpos H0 b_8
      refine lok_rt E0 (⟨43,mkS [(4,.x (.one (.ptr 104 0))),(5,.x (.one (.p (pi (2:Int)))))],mkH [(104,.var [.p (pi (0:Int)),.p (pi (0:Int))])]⟩) ?_
      refine lok_ret ?_
      obtain rfl:=Option.some.inj H0
      try simp only [thenL,blockL]
      exact fin_au _ (.inr rfl) [] (⟨43,mkS [(4,.x (.one (.ptr 104 0))),(5,.x (.one (.p (pi (2:Int)))))],mkH [(104,.var [.p (pi (0:Int)),.p (pi (0:Int))])]⟩) rfl rfl imp_au
    · intro b_8
      replace H0:=cneg H0 b_8
      refine lok_skip ?_
      try simp only [thenL,blockL,↓reduceIte,reduceCtorEq]
      replace H0:=bind_some H0
      obtain ⟨y1,h_1,H0⟩:=H0
      replace H0:=bind_some H0
      obtain ⟨y2,h_2,H0⟩:=H0
      replace H0:=bind_some H0
      obtain ⟨y3,h_3,H0⟩:=H0
      replace H0:=bind_some H0
      obtain ⟨y4,h_4,H0⟩:=H0
      replace H0:=bind_some H0
      obtain ⟨y5,h_5,H0⟩:=H0
      replace H0:=bind_some H0
      obtain ⟨y6,h_6,H0⟩:=H0
      replace H0:=bind_some H0
      obtain ⟨⟨y7,y8⟩,h_7,H0⟩:=H0
      try dsimp only at H0
      refine lok_dt (Env.of E0 [⟨some 28,52,[.one (.p (pi a.Num))],[],[.one (.p (.val (.int .u64 y1)))],[],True,fun _ => ok_ref01_Size a.Num y1 h_1,[]⟩,
      ⟨some 31,52,[.one (.p (pi b.Den))],[],[.one (.p (.val (.int .u64 y2)))],[],True,fun _ => ok_ref01_Size b.Den y2 h_2,[]⟩,
      ⟨some 32,79,[.one (.p (.val (.int .u64 y1))),.one (.p (.val (.int .u64 y2)))],[],[.agg [.p (.val (.int .u64 y3.Hi)),.p (.val (.int .u64 y3.Lo))]],[],True,fun _ => ok_ref01_Product y1 y2 y3 h_3,[]⟩,
      ⟨some 35,52,[.one (.p (pi a.Den))],[],[.one (.p (.val (.int .u64 y4)))],[],True,fun _ => ok_ref01_Size a.Den y4 h_4,[]⟩,
      ⟨some 38,52,[.one (.p (pi b.Num))],[],[.one (.p (.val (.int .u64 y5)))],[],True,fun _ => ok_ref01_Size b.Num y5 h_5,[]⟩,
      ⟨some 39,79,[.one (.p (.val (.int .u64 y4))),.one (.p (.val (.int .u64 y5)))],[],[.agg [.p (.val (.int .u64 y6.Hi)),.p (.val (.int .u64 y6.Lo))]],[],True,fun _ => ok_ref01_Product y4 y5 y6 h_6,[]⟩,
      ⟨some 40,51,[.one (.p (.val (.bool (!((decide (a.Num<(0:Int)))==(decide (b.Num<(0:Int)))))))),.agg [.p (.val (.int .u64 y3.Hi)),.p (.val (.int .u64 y3.Lo))],.agg [.p (.val (.int .u64 y6.Hi)),.p (.val (.int .u64 y6.Lo))]],[],[.agg [.p (pi y7.Num),.p (pi y7.Den)],.one (.p (pi y8))],[],True,fun _ => ok_ref01_Reduce (!((decide (a.Num<(0:Int)))==(decide (b.Num<(0:Int))))) y3 y6 (y7,y8) h_7,[]⟩]) 24 (⟨43,mkS [(4,.x (.one (.ptr 104 0))),(5,.x (.one (.p (pi y8))))],mkH [(104,.var [.p (pi y7.Num),.p (pi y7.Den)])]⟩) (by kernel_rfl) (by kernel_rfl) ?_
      refine lok_ret ?_
      obtain rfl:=Option.some.inj H0
      try simp only [thenL,blockL]
      exact fin_au _ (.inr rfl) [] (⟨43,mkS [(4,.x (.one (.ptr 104 0))),(5,.x (.one (.p (pi y8))))],mkH [(104,.var [.p (pi y7.Num),.p (pi y7.Den)])]⟩) rfl rfl imp_au
set_option maxHeartbeats 4000000 in
theorem ok_ref01_Add (a:api_Ratio) (b:api_Ratio) (r_:api_Ratio × Int) (H0:ref01_Add a b=some r_):CallOK Tryz.prog 97 [.agg [.p (pi a.Num),.p (pi a.Den)],.agg [.p (pi b.Num),.p (pi b.Den)]] [] [.agg [.p (pi r_.1.Num),.p (pi r_.1.Den)],.one (.p (pi r_.2))] []:=by
  refine callOK (n:=53) (rs:=[.cell 4 26,.tmp 5]) (nb:=0) (V:=[]) Tryz.func97 rfl (by kernel_rfl) rfl rfl rfl rfl (Nat.le_of_ble_eq_true rfl) (by decide) ?_
  unfold ref01_Add at H0
  refine lok_rt E0 (⟨53,mkS [(2,.x (.one (.ptr 102 0))),(3,.x (.one (.ptr 103 0))),(4,.x (.one (.ptr 104 0)))],mkH [(102,.var [.p (pi a.Num),.p (pi a.Den)]),(103,.var [.p (pi b.Num),.p (pi b.Den)]),(104,.var [.p (pi (0:Int)),.p (pi (0:Int))])]⟩) ?_
  refine lok_seq ?_
  replace H0:=bind_some H0
  obtain ⟨y,h_0,H0⟩:=H0
  replace H0:=req_some H0
  obtain ⟨q_13,H0⟩:=H0
  refine lok_rt (Env.of E0 [⟨some 9,60,[.agg [.p (pi a.Num),.p (pi a.Den)]],[],[.one (.p (.val (.bool y)))],[],True,fun _ => ok_ref01_Valid a y h_0,[]⟩,
      ⟨some 13,60,[.agg [.p (pi b.Num),.p (pi b.Den)]],[],[.one (.p (.val (.bool ((ref01_Valid b).getD default))))],[],(ref01_Valid b).isSome=true,fun h => ok_ref01_Valid b _ (isSome_get h),[]⟩]) (⟨53,mkS [(2,.x (.one (.ptr 102 0))),(3,.x (.one (.ptr 103 0))),(4,.x (.one (.ptr 104 0))),(15,.x (.one (.p (.val (.bool ((!y)||(!((ref01_Valid b).getD default))))))))],mkH [(102,.var [.p (pi a.Num),.p (pi a.Den)]),(103,.var [.p (pi b.Num),.p (pi b.Den)]),(104,.var [.p (pi (0:Int)),.p (pi (0:Int))])]⟩) ?_
  refine lok_c ((!y)||(!((ref01_Valid b).getD default))) ?_ ?_
  · intro b_12
    replace H0:=cpos H0 b_12
    refine lok_rt E0 (⟨53,mkS [(4,.x (.one (.ptr 104 0))),(5,.x (.one (.p (pi (1:Int)))))],mkH [(104,.var [.p (pi (0:Int)),.p (pi (0:Int))])]⟩) ?_
    refine lok_ret ?_
    obtain rfl:=Option.some.inj H0
    try simp only [thenL,blockL]
    exact fin_au _ (.inr rfl) [] (⟨53,mkS [(4,.x (.one (.ptr 104 0))),(5,.x (.one (.p (pi (1:Int)))))],mkH [(104,.var [.p (pi (0:Int)),.p (pi (0:Int))])]⟩) rfl rfl imp_au
  · intro b_12
    replace H0:=cneg H0 b_12
    refine lok_skip ?_
    try simp only [thenL,blockL,↓reduceIte,reduceCtorEq]
    replace H0:=bind_some H0
    obtain ⟨y1,h_1,H0⟩:=H0
    replace H0:=bind_some H0
    obtain ⟨y2,h_2,H0⟩:=H0
    replace H0:=bind_some H0
    obtain ⟨y3,h_3,H0⟩:=H0
    replace H0:=bind_some H0
    obtain ⟨y4,h_4,H0⟩:=H0
    replace H0:=bind_some H0
    obtain ⟨y5,h_5,H0⟩:=H0
    replace H0:=bind_some H0
    obtain ⟨y6,h_6,H0⟩:=H0
    replace H0:=bind_some H0
    obtain ⟨⟨y7,y8⟩,h_7,H0⟩:=H0
    try dsimp only at H0
    refine lok_et (Env.of E0 [⟨some 23,52,[.one (.p (pi a.Num))],[],[.one (.p (.val (.int .u64 y1)))],[],True,fun _ => ok_ref01_Size a.Num y1 h_1,[]⟩,
      ⟨some 26,52,[.one (.p (pi b.Den))],[],[.one (.p (.val (.int .u64 y2)))],[],True,fun _ => ok_ref01_Size b.Den y2 h_2,[]⟩,
      ⟨some 27,79,[.one (.p (.val (.int .u64 y1))),.one (.p (.val (.int .u64 y2)))],[],[.agg [.p (.val (.int .u64 y3.Hi)),.p (.val (.int .u64 y3.Lo))]],[],True,fun _ => ok_ref01_Product y1 y2 y3 h_3,[]⟩,
      ⟨some 33,52,[.one (.p (pi b.Num))],[],[.one (.p (.val (.int .u64 y4)))],[],True,fun _ => ok_ref01_Size b.Num y4 h_4,[]⟩,
      ⟨some 36,52,[.one (.p (pi a.Den))],[],[.one (.p (.val (.int .u64 y5)))],[],True,fun _ => ok_ref01_Size a.Den y5 h_5,[]⟩,
      ⟨some 37,79,[.one (.p (.val (.int .u64 y4))),.one (.p (.val (.int .u64 y5)))],[],[.agg [.p (.val (.int .u64 y6.Hi)),.p (.val (.int .u64 y6.Lo))]],[],True,fun _ => ok_ref01_Product y4 y5 y6 h_6,[]⟩,
      ⟨some 38,78,[.one (.p (.val (.bool (decide (a.Num<(0:Int)))))),.agg [.p (.val (.int .u64 y3.Hi)),.p (.val (.int .u64 y3.Lo))],.one (.p (.val (.bool (decide (b.Num<(0:Int)))))),.agg [.p (.val (.int .u64 y6.Hi)),.p (.val (.int .u64 y6.Lo))]],[],[.one (.p (.val (.bool y7))),.agg [.p (.val (.int .u64 y8.Hi)),.p (.val (.int .u64 y8.Lo))]],[],True,fun _ => ok_ref01_total (decide (a.Num<(0:Int))) y3 (decide (b.Num<(0:Int))) y6 (y7,y8) h_7,[]⟩]) 53 [⟨[(2,.x (.one (.ptr 102 0)))],[],[(18,.x (.one (.ptr 102 0)))],[],none⟩,
      ⟨[(18,.x (.one (.ptr 102 0)))],[(102,some (.var [.p (pi a.Num),.p (pi a.Den)]))],[(19,.x (.one (.p (pi a.Num))))],[],none⟩,
      ⟨[(19,.x (.one (.p (pi a.Num))))],[],[(20,.x (.one (.p (.val (.bool (decide (a.Num<(0:Int))))))))],[],none⟩,
      ⟨[(2,.x (.one (.ptr 102 0)))],[],[(21,.x (.one (.ptr 102 0)))],[],none⟩,
      ⟨[(21,.x (.one (.ptr 102 0)))],[(102,some (.var [.p (pi a.Num),.p (pi a.Den)]))],[(22,.x (.one (.p (pi a.Num))))],[],none⟩,
      ⟨[(22,.x (.one (.p (pi a.Num))))],[],[(23,.x (.one (.p (.val (.int .u64 y1)))))],[],none⟩,
      ⟨[(3,.x (.one (.ptr 103 0)))],[],[(24,.x (.one (.ptr 103 1)))],[],none⟩,
      ⟨[(24,.x (.one (.ptr 103 1)))],[(103,some (.var [.p (pi b.Num),.p (pi b.Den)]))],[(25,.x (.one (.p (pi b.Den))))],[],none⟩,
      ⟨[(25,.x (.one (.p (pi b.Den))))],[],[(26,.x (.one (.p (.val (.int .u64 y2)))))],[],none⟩,
      ⟨[(23,.x (.one (.p (.val (.int .u64 y1))))),(26,.x (.one (.p (.val (.int .u64 y2)))))],[],[(27,.x (.agg [.p (.val (.int .u64 y3.Hi)),.p (.val (.int .u64 y3.Lo))]))],[],none⟩,
      ⟨[(3,.x (.one (.ptr 103 0)))],[],[(28,.x (.one (.ptr 103 0)))],[],none⟩,
      ⟨[(28,.x (.one (.ptr 103 0)))],[(103,some (.var [.p (pi b.Num),.p (pi b.Den)]))],[(29,.x (.one (.p (pi b.Num))))],[],none⟩,
      ⟨[(29,.x (.one (.p (pi b.Num))))],[],[(30,.x (.one (.p (.val (.bool (decide (b.Num<(0:Int))))))))],[],none⟩,
      ⟨[(3,.x (.one (.ptr 103 0)))],[],[(31,.x (.one (.ptr 103 0)))],[],none⟩,
      ⟨[(31,.x (.one (.ptr 103 0)))],[(103,some (.var [.p (pi b.Num),.p (pi b.Den)]))],[(32,.x (.one (.p (pi b.Num))))],[],none⟩,
      ⟨[(32,.x (.one (.p (pi b.Num))))],[],[(33,.x (.one (.p (.val (.int .u64 y4)))))],[],none⟩,
      ⟨[(2,.x (.one (.ptr 102 0)))],[],[(34,.x (.one (.ptr 102 1)))],[],none⟩,
      ⟨[(34,.x (.one (.ptr 102 1)))],[(102,some (.var [.p (pi a.Num),.p (pi a.Den)]))],[(35,.x (.one (.p (pi a.Den))))],[],none⟩,
      ⟨[(35,.x (.one (.p (pi a.Den))))],[],[(36,.x (.one (.p (.val (.int .u64 y5)))))],[],none⟩,
      ⟨[(33,.x (.one (.p (.val (.int .u64 y4))))),(36,.x (.one (.p (.val (.int .u64 y5)))))],[],[(37,.x (.agg [.p (.val (.int .u64 y6.Hi)),.p (.val (.int .u64 y6.Lo))]))],[],none⟩,
      ⟨[(20,.x (.one (.p (.val (.bool (decide (a.Num<(0:Int)))))))),(27,.x (.agg [.p (.val (.int .u64 y3.Hi)),.p (.val (.int .u64 y3.Lo))])),(30,.x (.one (.p (.val (.bool (decide (b.Num<(0:Int)))))))),(37,.x (.agg [.p (.val (.int .u64 y6.Hi)),.p (.val (.int .u64 y6.Lo))]))],[],[(38,.tup [.one (.p (.val (.bool y7))),.agg [.p (.val (.int .u64 y8.Hi)),.p (.val (.int .u64 y8.Lo))]])],[],none⟩,
      ⟨[(38,.tup [.one (.p (.val (.bool y7))),.agg [.p (.val (.int .u64 y8.Hi)),.p (.val (.int .u64 y8.Lo))]])],[],[(17,.tup [.one (.p (.val (.bool y7))),.agg [.p (.val (.int .u64 y8.Hi)),.p (.val (.int .u64 y8.Lo))]])],[],none⟩,
      ⟨[(17,.tup [.one (.p (.val (.bool y7))),.agg [.p (.val (.int .u64 y8.Hi)),.p (.val (.int .u64 y8.Lo))]])],[],[(39,.x (.one (.p (.val (.bool y7)))))],[],none⟩,
      ⟨[(17,.tup [.one (.p (.val (.bool y7))),.agg [.p (.val (.int .u64 y8.Hi)),.p (.val (.int .u64 y8.Lo))]])],[],[(40,.x (.agg [.p (.val (.int .u64 y8.Hi)),.p (.val (.int .u64 y8.Lo))]))],[],none⟩,
      ⟨[],[(107,none)],[(7,.x (.one (.ptr 107 0)))],[(107,some (.var [.p (.val (.int .u64 (0:Int))),.p (.val (.int .u64 (0:Int)))]))],some 107⟩,
      ⟨[(39,.x (.one (.p (.val (.bool y7)))))],[],[(6,.x (.one (.p (.val (.bool y7)))))],[],none⟩] (⟨53,mkS [(2,.x (.one (.ptr 102 0))),(3,.x (.one (.ptr 103 0))),(4,.x (.one (.ptr 104 0))),(6,.x (.one (.p (.val (.bool y7))))),(7,.x (.one (.ptr 107 0)))],mkH [(102,.var [.p (pi a.Num),.p (pi a.Den)]),(103,.var [.p (pi b.Num),.p (pi b.Den)]),(104,.var [.p (pi (0:Int)),.p (pi (0:Int))]),(107,.var [.p (.val (.int .u64 y8.Hi)),.p (.val (.int .u64 y8.Lo))])]⟩) (by kernel_rfl) (by kernel_rfl) (by kernel_rfl) rfl rfl rfl ?_
    replace H0:=bind_some H0
    obtain ⟨y9,h_8,H0⟩:=H0
    replace H0:=bind_some H0
    obtain ⟨y10,h_9,H0⟩:=H0
    replace H0:=bind_some H0
    obtain ⟨y11,h_10,H0⟩:=H0
    replace H0:=bind_some H0
    obtain ⟨⟨y12,y13⟩,h_11,H0⟩:=H0
    try dsimp only at H0
    refine lok_dt (Env.of E0 [⟨some 45,52,[.one (.p (pi a.Den))],[],[.one (.p (.val (.int .u64 y9)))],[],True,fun _ => ok_ref01_Size a.Den y9 h_8,[]⟩,
      ⟨some 48,52,[.one (.p (pi b.Den))],[],[.one (.p (.val (.int .u64 y10)))],[],True,fun _ => ok_ref01_Size b.Den y10 h_9,[]⟩,
      ⟨some 49,79,[.one (.p (.val (.int .u64 y9))),.one (.p (.val (.int .u64 y10)))],[],[.agg [.p (.val (.int .u64 y11.Hi)),.p (.val (.int .u64 y11.Lo))]],[],True,fun _ => ok_ref01_Product y9 y10 y11 h_10,[]⟩,
      ⟨some 50,51,[.one (.p (.val (.bool y7))),.agg [.p (.val (.int .u64 y8.Hi)),.p (.val (.int .u64 y8.Lo))],.agg [.p (.val (.int .u64 y11.Hi)),.p (.val (.int .u64 y11.Lo))]],[],[.agg [.p (pi y12.Num),.p (pi y12.Den)],.one (.p (pi y13))],[],True,fun _ => ok_ref01_Reduce y7 y8 y11 (y12,y13) h_11,[]⟩]) 12 (⟨53,mkS [(4,.x (.one (.ptr 104 0))),(5,.x (.one (.p (pi y13))))],mkH [(104,.var [.p (pi y12.Num),.p (pi y12.Den)])]⟩) (by kernel_rfl) (by kernel_rfl) ?_
    refine lok_ret ?_
    obtain rfl:=Option.some.inj H0
    try simp only [thenL,blockL]
    exact fin_au _ (.inr rfl) [] (⟨53,mkS [(4,.x (.one (.ptr 104 0))),(5,.x (.one (.p (pi y13))))],mkH [(104,.var [.p (pi y12.Num),.p (pi y12.Den)])]⟩) rfl rfl imp_au
end Go.LS
