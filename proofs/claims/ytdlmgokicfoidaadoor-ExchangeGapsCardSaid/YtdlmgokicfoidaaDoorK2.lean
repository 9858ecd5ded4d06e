/-
  The walks: the functions compute what the plain ones say. Condition: the plain function has a value.
-/
import Derived.Test.YtdlmgokicfoidaaDoorK1
import Derived.Test.YtdlmgokicfoidaaDoorD2
namespace Go.LS
open Go.Proofs
set_option linter.all false
set_option linter.unusedSimpArgs false
set_option linter.unusedVariables false
set_option maxRecDepth 200000

set_option maxHeartbeats 4000000 in
theorem ok_law03_ExchangeLong (rows:Int) (fields:Int) (bytes:Int) (r_:Bool) (H0:law03_ExchangeLong rows fields bytes=some r_):CallOK Tryd.prog 4 [.one (.p (pi rows)),.one (.p (pi fields)),.one (.p (pi bytes))] [] [.one (.p (.val (.bool r_)))] []:=by
  refine callOK (n:=99) (rs:=[.tmp 6]) (nb:=0) (V:=[]) Tryd.func4 rfl (by kernel_rfl) rfl rfl rfl rfl (Nat.le_of_ble_eq_true rfl) (by decide) ?_
  unfold law03_ExchangeLong at H0
  refine lok_rt E0 (⟨99,mkS [(0,.x (.one (.p (pi rows)))),(1,.x (.one (.p (pi fields)))),(2,.x (.one (.p (pi bytes))))],mkH []⟩) ?_
  replace H0:=bind_some H0
  obtain ⟨y,h_0,H0⟩:=H0
  replace H0:=bind_some H0
  obtain ⟨y1,h_1,H0⟩:=H0
  replace H0:=bind_some H0
  obtain ⟨y2,h_2,H0⟩:=H0
  refine lok_rt (Env.of E0 [⟨some 20,20,[.one (.p (pi rows)),.one (.p (pi (43:Int)))],[],[.one (.p (pi y))],[],True,fun _ => ok_make_Cut rows (43:Int) y h_0,[]⟩,
      ⟨some 22,20,[.one (.p (pi fields)),.one (.p (pi (10:Int)))],[],[.one (.p (pi y1))],[],True,fun _ => ok_make_Cut fields (10:Int) y1 h_1,[]⟩,
      ⟨some 24,20,[.one (.p (pi bytes)),.one (.p (pi (42:Int)))],[],[.one (.p (pi y2))],[],True,fun _ => ok_make_Cut bytes (42:Int) y2 h_2,[]⟩]) (⟨99,mkS [(0,.x (.one (.p (pi y)))),(1,.x (.one (.p (pi y1)))),(2,.x (.one (.p (pi y2))))],mkH []⟩) ?_
  refine lok_rt E0 (⟨99,mkS [(0,.x (.one (.p (pi y)))),(1,.x (.one (.p (pi y1)))),(2,.x (.one (.p (pi y2)))),(7,.x (.one (.ptr 107 0)))],mkH [(107,.var [.p (.val (.string (bs ([76,79,78,71]:Str)))),.p (pi (0:Int)),.p (pi (0:Int)),.p .nil])]⟩) ?_
  refine lok_rt E0 (⟨99,mkS [(0,.x (.one (.p (pi y)))),(1,.x (.one (.p (pi y1)))),(2,.x (.one (.p (pi y2)))),(7,.x (.one (.ptr 107 0))),(8,.x (.one (.p (.val (.string (bs ([]:Str)))))))],mkH [(107,.var [.p (.val (.string (bs ([76,79,78,71]:Str)))),.p (pi (0:Int)),.p (pi (0:Int)),.p .nil])]⟩) ?_
  refine lok_join (fun x_:Str => law03_ExchangeLong_j5 y y1 x_=some r_) (fun x_ => ⟨99,mkS [(0,.x (.one (.p (pi y)))),(1,.x (.one (.p (pi y1)))),(7,.x (.one (.ptr 107 0))),(8,.x (.one (.p (.val (.string (bs x_))))))],mkH [(107,.var [.p (.val (.string (bs ([76,79,78,71]:Str)))),.p (pi (0:Int)),.p (pi (0:Int)),.p .nil])]⟩) ?hylaw03_ExchangeLong_j5 ?hxlaw03_ExchangeLong_j5
  case hylaw03_ExchangeLong_j5 =>
    rintro field H0
    try dsimp only at H0 ⊢
    unfold law03_ExchangeLong_j5 at H0
    refine lok_rt E0 (⟨99,mkS [(0,.x (.one (.p (pi y)))),(1,.x (.one (.p (pi y1)))),(7,.x (.one (.ptr 107 0))),(8,.x (.one (.p (.val (.string (bs field)))))),(10,.x (.one (.vw 110)))],mkH [(107,.var [.p (.val (.string (bs ([76,79,78,71]:Str)))),.p (pi (0:Int)),.p (pi (0:Int)),.p .nil]),(110,.arr 1 (List.map encS ([]:List Str)))]⟩) ?_
    refine lok_join (fun x_:(List Str) => law03_ExchangeLong_j3 y x_=some r_) (fun x_ => ⟨99,mkS [(0,.x (.one (.p (pi y)))),(7,.x (.one (.ptr 107 0))),(10,.x (.one (.vw 110)))],mkH [(107,.var [.p (.val (.string (bs ([76,79,78,71]:Str)))),.p (pi (0:Int)),.p (pi (0:Int)),.p .nil]),(110,.arr 1 (List.map encS x_))]⟩) ?hylaw03_ExchangeLong_j3 ?hxlaw03_ExchangeLong_j3
    case hylaw03_ExchangeLong_j3 =>
      rintro row H0
      try dsimp only at H0 ⊢
      unfold law03_ExchangeLong_j3 at H0
      refine lok_join (fun x_:(List (List Str)) => law03_ExchangeLong_j1 x_=some r_) (fun x_ => ⟨99,mkS [(7,.x (.one (.ptr 107 0)))],mkH [(107,.var [.p (.val (.string (bs ([76,79,78,71]:Str)))),.p (pi (0:Int)),.p (pi (0:Int)),.vw 151]),(151,.arr 1 (List.map encL_encS x_))]⟩) ?hylaw03_ExchangeLong_j1 ?hxlaw03_ExchangeLong_j1
      case hylaw03_ExchangeLong_j1 =>
        rintro w H0
        try dsimp only at H0 ⊢
        unfold law03_ExchangeLong_j1 at H0
        replace H0:=bind_some H0
        obtain ⟨⟨y3,y4⟩,h_3,H0⟩:=H0
        try dsimp only at H0
        refine lok_rt (Env.of E0 [⟨some 55,15,[.agg [.p (.val (.string (bs ([76,79,78,71]:Str)))),.p (pi (0:Int)),.p (pi (0:Int)),.p (.sl 1 (List.map encL_encS w))]],[],[.one (.p (.val (.string (bs y3)))),.one (.p (pi y4))],[],True,fun _ => ok_exchange_Format (api_File.mk ([76,79,78,71]:Str) (0:Int) (0:Int) w) (y3,y4) h_3,[]⟩]) (⟨99,mkS [(7,.x (.one (.ptr 107 0))),(13,.x (.one (.p (.val (.string (bs y3)))))),(14,.x (.one (.p (pi y4))))],mkH [(107,.var [.p (.val (.string (bs ([76,79,78,71]:Str)))),.p (pi (0:Int)),.p (pi (0:Int)),.vw 151]),(151,.arr 1 (List.map encL_encS w))]⟩) ?_
        replace H0:=bind_some H0
        obtain ⟨⟨y5,y6⟩,h_4,H0⟩:=H0
        try dsimp only at H0
        refine lok_rt (Env.of E0 [⟨some 60,16,[.agg [.p (.val (.string (bs ([76,79,78,71]:Str)))),.p (pi (0:Int)),.p (pi (0:Int)),.p (.sl 1 (List.map encL_encS w))]],[],[.one (.p (.val (.string (bs y5)))),.one (.p (pi y6))],[],True,fun _ => ok_ref03_Format (api_File.mk ([76,79,78,71]:Str) (0:Int) (0:Int) w) (y5,y6) h_4,[]⟩]) (⟨99,mkS [(7,.x (.one (.ptr 107 0))),(13,.x (.one (.p (.val (.string (bs y3)))))),(14,.x (.one (.p (pi y4)))),(15,.x (.one (.p (.val (.string (bs y5)))))),(16,.x (.one (.p (pi y6))))],mkH [(107,.var [.p (.val (.string (bs ([76,79,78,71]:Str)))),.p (pi (0:Int)),.p (pi (0:Int)),.vw 151]),(151,.arr 1 (List.map encL_encS w))]⟩) ?_
        replace H0:=bind_some H0
        obtain ⟨⟨y7,y8⟩,h_5,H0⟩:=H0
        try dsimp only at H0
        refine lok_rt (Env.of E0 [⟨some 65,21,[.one (.p (.val (.string (bs y3))))],[],[.agg [.p (.val (.string (bs y7.Kind))),.p (pi y7.Source),.p (pi y7.Number),.p (.sl 1 (List.map encL_encS y7.Rows))],.one (.p (pi y8))],[],True,fun _ => ok_exchange_Parse y3 (y7,y8) h_5,[]⟩]) (⟨99,mkS [(7,.x (.one (.ptr 107 0))),(13,.x (.one (.p (.val (.string (bs y3)))))),(14,.x (.one (.p (pi y4)))),(15,.x (.one (.p (.val (.string (bs y5)))))),(16,.x (.one (.p (pi y6)))),(17,.x (.one (.ptr 117 0))),(18,.x (.one (.p (pi y8))))],mkH [(107,.var [.p (.val (.string (bs ([76,79,78,71]:Str)))),.p (pi (0:Int)),.p (pi (0:Int)),.vw 151]),(117,.var [.p (.val (.string (bs y7.Kind))),.p (pi y7.Source),.p (pi y7.Number),.p (.sl 1 (List.map encL_encS y7.Rows))]),(151,.arr 1 (List.map encL_encS w))]⟩) ?_
        replace H0:=req_some H0
        obtain ⟨⟨q_6,q_7,q_8,q_9⟩,H0⟩:=H0
        refine lok_dt (Env.of E0 [⟨some 78,17,[.agg [.p (.val (.string (bs ([76,79,78,71]:Str)))),.p (pi (0:Int)),.p (pi (0:Int)),.p (.sl 1 (List.map encL_encS w))]],[],[.one (.p (.val (.bool ((exchange_Valid (api_File.mk ([76,79,78,71]:Str) (0:Int) (0:Int) w)).getD default))))],[],(exchange_Valid (api_File.mk ([76,79,78,71]:Str) (0:Int) (0:Int) w)).isSome=true,fun h => ok_exchange_Valid (api_File.mk ([76,79,78,71]:Str) (0:Int) (0:Int) w) _ (isSome_get h),[]⟩,
      ⟨some 80,18,[.agg [.p (.val (.string (bs ([76,79,78,71]:Str)))),.p (pi (0:Int)),.p (pi (0:Int)),.p (.sl 1 (List.map encL_encS w))]],[],[.one (.p (.val (.bool ((ref03_Valid (api_File.mk ([76,79,78,71]:Str) (0:Int) (0:Int) w)).getD default))))],[],(ref03_Valid (api_File.mk ([76,79,78,71]:Str) (0:Int) (0:Int) w)).isSome=true,fun h => ok_ref03_Valid (api_File.mk ([76,79,78,71]:Str) (0:Int) (0:Int) w) _ (isSome_get h),[]⟩,
      ⟨some 92,22,[.agg [.p (.val (.string (bs y7.Kind))),.p (pi y7.Source),.p (pi y7.Number),.p (.sl 1 (List.map encL_encS y7.Rows))],.agg [.p (.val (.string (bs ([76,79,78,71]:Str)))),.p (pi (0:Int)),.p (pi (0:Int)),.p (.sl 1 (List.map encL_encS w))]],[],[.one (.p (.val (.bool ((law03_same y7 (api_File.mk ([76,79,78,71]:Str) (0:Int) (0:Int) w)).getD default))))],[],(law03_same y7 (api_File.mk ([76,79,78,71]:Str) (0:Int) (0:Int) w)).isSome=true,fun h => ok_law03_same y7 (api_File.mk ([76,79,78,71]:Str) (0:Int) (0:Int) w) _ (isSome_get h),[]⟩,
      ⟨some 97,19,[],[],[.one (.p (.val (.bool ((law03_awake).getD default))))],[],(law03_awake).isSome=true,fun h => ok_law03_awake _ (isSome_get h),[]⟩]) 24 (⟨99,mkS [(6,.x (.one (.p (.val (.bool (((((y3==y5)&&(y4==y6))&&(((exchange_Valid (api_File.mk ([76,79,78,71]:Str) (0:Int) (0:Int) w)).getD default)==((ref03_Valid (api_File.mk ([76,79,78,71]:Str) (0:Int) (0:Int) w)).getD default)))&&((y4 != (0:Int))||((y8==(0:Int))&&((law03_same y7 (api_File.mk ([76,79,78,71]:Str) (0:Int) (0:Int) w)).getD default))))&&((law03_awake).getD default)))))))],mkH []⟩) (by kernel_rfl) (by kernel_rfl) ?_
        refine lok_ret ?_
        try obtain rfl:=Option.some.inj H0
        try simp only [thenL,blockL]
        exact fin_au _ (.inr rfl) [] (⟨99,mkS [(6,.x (.one (.p (.val (.bool (((((y3==y5)&&(y4==y6))&&(((exchange_Valid (api_File.mk ([76,79,78,71]:Str) (0:Int) (0:Int) w)).getD default)==((ref03_Valid (api_File.mk ([76,79,78,71]:Str) (0:Int) (0:Int) w)).getD default)))&&((y4 != (0:Int))||((y8==(0:Int))&&((law03_same y7 (api_File.mk ([76,79,78,71]:Str) (0:Int) (0:Int) w)).getD default))))&&((law03_awake).getD default)))))))],mkH []⟩) rfl rfl imp_au
      case hxlaw03_ExchangeLong_j1 =>
        refine lok_rt E0 (⟨99,mkS [(0,.x (.one (.p (pi y)))),(7,.x (.one (.ptr 107 0))),(10,.x (.one (.vw 110))),(12,.x (.one (.p (pi (0:Int)))))],mkH [(107,.var [.p (.val (.string (bs ([76,79,78,71]:Str)))),.p (pi (0:Int)),.p (pi (0:Int)),.p .nil]),(110,.arr 1 (List.map encS row))]⟩) ?_
        refine lok_block ?_
        replace H0:=bind_some H0
        obtain ⟨v_10,hv_10,H0⟩:=H0
        refine lok_iter (fun x_ => ⟨99,mkS [(0,.x (.one (.p (pi y)))),(7,.x (.one (.ptr 107 0))),(10,.x (.one (.p (.sl 1 (List.map encS row))))),(12,.x (.one (.p (pi x_.1))))],mkH [(107,.var [.p (.val (.string (bs ([76,79,78,71]:Str)))),.p (pi (0:Int)),.p (pi (0:Int)),.vw 151]),(151,.arr 1 (List.map encL_encS x_.2))]⟩) hv_10 (Imp.trans (imp_frz 110 1 (List.map encS row)) imp_au) ?_
        · rintro ⟨i,w1⟩ o_1 H1 k_1
          unfold law03_ExchangeLong_l2 at H1
          try dsimp only at H1 ⊢
          refine lok_seq ?_
          refine lok_rt E0 (⟨99,mkS [(0,.x (.one (.p (pi y)))),(7,.x (.one (.ptr 107 0))),(10,.x (.one (.p (.sl 1 (List.map encS row))))),(12,.x (.one (.p (pi i)))),(44,.x (.one (.p (.val (.bool (decide (i<y)))))))],mkH [(107,.var [.p (.val (.string (bs ([76,79,78,71]:Str)))),.p (pi (0:Int)),.p (pi (0:Int)),.vw 151]),(151,.arr 1 (List.map encL_encS w1))]⟩) ?_
          refine lok_c (decide (i<y)) ?_ ?_
          · intro b_12
            replace H1:=cpos H1 b_12
            refine lok_skip ?_
            try simp only [thenL,blockL,↓reduceIte,reduceCtorEq]
            refine lok_seq ?_
            refine lok_block ?_
            replace H1:=req_some H1
            obtain ⟨q_11,H1⟩:=H1
            refine lok_rl E0 (⟨99,mkS [(0,.x (.one (.p (pi y)))),(7,.x (.one (.ptr 107 0))),(10,.x (.one (.p (.sl 1 (List.map encS row))))),(12,.x (.one (.p (pi i))))],mkH [(107,.var [.p (.val (.string (bs ([76,79,78,71]:Str)))),.p (pi (0:Int)),.p (pi (0:Int)),.vw 151]),(151,.arr 1 (List.map encL_encS (w1 ++ [row])))]⟩) ?_
            try simp only [thenL,blockL,↓reduceIte,reduceCtorEq]
            refine lok_rl E0 (⟨99,mkS [(0,.x (.one (.p (pi y)))),(7,.x (.one (.ptr 107 0))),(10,.x (.one (.p (.sl 1 (List.map encS row))))),(12,.x (.one (.p (pi (IntKind.i64.wrap (i+(1:Int)))))))],mkH [(107,.var [.p (.val (.string (bs ([76,79,78,71]:Str)))),.p (pi (0:Int)),.p (pi (0:Int)),.vw 151]),(151,.arr 1 (List.map encL_encS (w1 ++ [row])))]⟩) ?_
            try simp only [thenL,blockL,↓reduceIte,reduceCtorEq]
            exact ⟨((IntKind.i64.wrap (i+(1:Int))),(w1 ++ [row])),(Option.some.inj H1).symm,imp_au⟩
          · intro b_12
            replace H1:=cneg H1 b_12
            refine lok_exit ?_
            try simp only [thenL,blockL,↓reduceIte,reduceCtorEq]
            have e_1:=k_1 _ (Option.some.inj H1).symm
            subst e_1
            try dsimp only at H0
            try simp only [thenL,blockL,↓reduceIte,reduceCtorEq]
            exact ⟨w1,H0,imp_au⟩
    case hxlaw03_ExchangeLong_j3 =>
      refine lok_rt E0 (⟨99,mkS [(0,.x (.one (.p (pi y)))),(1,.x (.one (.p (pi y1)))),(7,.x (.one (.ptr 107 0))),(8,.x (.one (.p (.val (.string (bs field)))))),(10,.x (.one (.vw 110))),(11,.x (.one (.p (pi (0:Int)))))],mkH [(107,.var [.p (.val (.string (bs ([76,79,78,71]:Str)))),.p (pi (0:Int)),.p (pi (0:Int)),.p .nil]),(110,.arr 1 (List.map encS ([]:List Str)))]⟩) ?_
      refine lok_block ?_
      replace H0:=bind_some H0
      obtain ⟨v_13,hv_13,H0⟩:=H0
      refine lok_iter (fun x_ => ⟨99,mkS [(0,.x (.one (.p (pi y)))),(1,.x (.one (.p (pi y1)))),(7,.x (.one (.ptr 107 0))),(8,.x (.one (.p (.val (.string (bs field)))))),(10,.x (.one (.vw 110))),(11,.x (.one (.p (pi x_.1))))],mkH [(107,.var [.p (.val (.string (bs ([76,79,78,71]:Str)))),.p (pi (0:Int)),.p (pi (0:Int)),.p .nil]),(110,.arr 1 (List.map encS x_.2))]⟩) hv_13 imp_au ?_
      · rintro ⟨i1,row1⟩ o_1 H1 k_1
        unfold law03_ExchangeLong_l4 at H1
        try dsimp only at H1 ⊢
        refine lok_seq ?_
        refine lok_rt E0 (⟨99,mkS [(0,.x (.one (.p (pi y)))),(1,.x (.one (.p (pi y1)))),(7,.x (.one (.ptr 107 0))),(8,.x (.one (.p (.val (.string (bs field)))))),(10,.x (.one (.vw 110))),(11,.x (.one (.p (pi i1)))),(35,.x (.one (.p (.val (.bool (decide (i1<y1)))))))],mkH [(107,.var [.p (.val (.string (bs ([76,79,78,71]:Str)))),.p (pi (0:Int)),.p (pi (0:Int)),.p .nil]),(110,.arr 1 (List.map encS row1))]⟩) ?_
        refine lok_c (decide (i1<y1)) ?_ ?_
        · intro b_15
          replace H1:=cpos H1 b_15
          refine lok_skip ?_
          try simp only [thenL,blockL,↓reduceIte,reduceCtorEq]
          refine lok_seq ?_
          refine lok_block ?_
          replace H1:=req_some H1
          obtain ⟨q_14,H1⟩:=H1
          refine lok_rl E0 (⟨99,mkS [(0,.x (.one (.p (pi y)))),(1,.x (.one (.p (pi y1)))),(7,.x (.one (.ptr 107 0))),(8,.x (.one (.p (.val (.string (bs field)))))),(10,.x (.one (.vw 110))),(11,.x (.one (.p (pi i1))))],mkH [(107,.var [.p (.val (.string (bs ([76,79,78,71]:Str)))),.p (pi (0:Int)),.p (pi (0:Int)),.p .nil]),(110,.arr 1 (List.map encS (row1 ++ [field])))]⟩) ?_
          try simp only [thenL,blockL,↓reduceIte,reduceCtorEq]
          refine lok_rl E0 (⟨99,mkS [(0,.x (.one (.p (pi y)))),(1,.x (.one (.p (pi y1)))),(7,.x (.one (.ptr 107 0))),(8,.x (.one (.p (.val (.string (bs field)))))),(10,.x (.one (.vw 110))),(11,.x (.one (.p (pi (IntKind.i64.wrap (i1+(1:Int)))))))],mkH [(107,.var [.p (.val (.string (bs ([76,79,78,71]:Str)))),.p (pi (0:Int)),.p (pi (0:Int)),.p .nil]),(110,.arr 1 (List.map encS (row1 ++ [field])))]⟩) ?_
          try simp only [thenL,blockL,↓reduceIte,reduceCtorEq]
          exact ⟨((IntKind.i64.wrap (i1+(1:Int))),(row1 ++ [field])),(Option.some.inj H1).symm,imp_au⟩
        · intro b_15
          replace H1:=cneg H1 b_15
          refine lok_exit ?_
          try simp only [thenL,blockL,↓reduceIte,reduceCtorEq]
          have e_1:=k_1 _ (Option.some.inj H1).symm
          subst e_1
          try dsimp only at H0
          try simp only [thenL,blockL,↓reduceIte,reduceCtorEq]
          exact ⟨row1,H0,imp_au⟩
  case hxlaw03_ExchangeLong_j5 =>
    refine lok_rt E0 (⟨99,mkS [(0,.x (.one (.p (pi y)))),(1,.x (.one (.p (pi y1)))),(2,.x (.one (.p (pi y2)))),(7,.x (.one (.ptr 107 0))),(8,.x (.one (.p (.val (.string (bs ([]:Str))))))),(9,.x (.one (.p (pi (0:Int)))))],mkH [(107,.var [.p (.val (.string (bs ([76,79,78,71]:Str)))),.p (pi (0:Int)),.p (pi (0:Int)),.p .nil])]⟩) ?_
    refine lok_block ?_
    replace H0:=bind_some H0
    obtain ⟨v_16,hv_16,H0⟩:=H0
    refine lok_iter (fun x_ => ⟨99,mkS [(0,.x (.one (.p (pi y)))),(1,.x (.one (.p (pi y1)))),(2,.x (.one (.p (pi y2)))),(7,.x (.one (.ptr 107 0))),(8,.x (.one (.p (.val (.string (bs x_.1)))))),(9,.x (.one (.p (pi x_.2))))],mkH [(107,.var [.p (.val (.string (bs ([76,79,78,71]:Str)))),.p (pi (0:Int)),.p (pi (0:Int)),.p .nil])]⟩) hv_16 imp_au ?_
    · rintro ⟨field1,i2⟩ o_1 H1 k_1
      unfold law03_ExchangeLong_l6 at H1
      try dsimp only at H1 ⊢
      refine lok_seq ?_
      refine lok_rt E0 (⟨99,mkS [(0,.x (.one (.p (pi y)))),(1,.x (.one (.p (pi y1)))),(2,.x (.one (.p (pi y2)))),(7,.x (.one (.ptr 107 0))),(8,.x (.one (.p (.val (.string (bs field1)))))),(9,.x (.one (.p (pi i2)))),(28,.x (.one (.p (.val (.bool (decide (i2<y2)))))))],mkH [(107,.var [.p (.val (.string (bs ([76,79,78,71]:Str)))),.p (pi (0:Int)),.p (pi (0:Int)),.p .nil])]⟩) ?_
      refine lok_c (decide (i2<y2)) ?_ ?_
      · intro b_18
        replace H1:=cpos H1 b_18
        refine lok_skip ?_
        try simp only [thenL,blockL,↓reduceIte,reduceCtorEq]
        refine lok_seq ?_
        refine lok_block ?_
        replace H1:=req_some H1
        obtain ⟨q_17,H1⟩:=H1
        refine lok_rl E0 (⟨99,mkS [(0,.x (.one (.p (pi y)))),(1,.x (.one (.p (pi y1)))),(2,.x (.one (.p (pi y2)))),(7,.x (.one (.ptr 107 0))),(8,.x (.one (.p (.val (.string (bs (field1 ++ ([120]:Str)))))))),(9,.x (.one (.p (pi i2))))],mkH [(107,.var [.p (.val (.string (bs ([76,79,78,71]:Str)))),.p (pi (0:Int)),.p (pi (0:Int)),.p .nil])]⟩) ?_
        try simp only [thenL,blockL,↓reduceIte,reduceCtorEq]
        refine lok_rl E0 (⟨99,mkS [(0,.x (.one (.p (pi y)))),(1,.x (.one (.p (pi y1)))),(2,.x (.one (.p (pi y2)))),(7,.x (.one (.ptr 107 0))),(8,.x (.one (.p (.val (.string (bs (field1 ++ ([120]:Str)))))))),(9,.x (.one (.p (pi (IntKind.i64.wrap (i2+(1:Int)))))))],mkH [(107,.var [.p (.val (.string (bs ([76,79,78,71]:Str)))),.p (pi (0:Int)),.p (pi (0:Int)),.p .nil])]⟩) ?_
        try simp only [thenL,blockL,↓reduceIte,reduceCtorEq]
        exact ⟨((field1 ++ ([120]:Str)),(IntKind.i64.wrap (i2+(1:Int)))),(Option.some.inj H1).symm,imp_au⟩
      · intro b_18
        replace H1:=cneg H1 b_18
        refine lok_exit ?_
        try simp only [thenL,blockL,↓reduceIte,reduceCtorEq]
        have e_1:=k_1 _ (Option.some.inj H1).symm
        subst e_1
        try dsimp only at H0
        try simp only [thenL,blockL,↓reduceIte,reduceCtorEq]
        exact ⟨field1,H0,imp_au⟩
theorem ok_ref03_Cut (s:Str) (b:Int) (r_:(List Str)) (H0:ref03_Cut s b=some r_):CallOK Tryd.prog 52 [.one (.p (.val (.string (bs s)))),.one (.p (.val (.int .u8 b)))] [] [.one (.p (.sl 1 (List.map encS r_)))] []:=by
  refine callOK (n:=34) (rs:=[.tmp 4]) (nb:=0) (V:=[]) Tryd.func52 rfl (by kernel_rfl) rfl rfl rfl rfl (Nat.le_of_ble_eq_true rfl) (by decide) ?_
  unfold ref03_Cut at H0
  refine lok_rt E0 (⟨34,mkS [(0,.x (.one (.p (.val (.string (bs s)))))),(1,.x (.one (.p (.val (.int .u8 b)))))],mkH []⟩) ?_
  refine lok_rt E0 (⟨34,mkS [(0,.x (.one (.p (.val (.string (bs s)))))),(1,.x (.one (.p (.val (.int .u8 b))))),(5,.x (.one (.vw 105)))],mkH [(105,.arr 1 (List.map encS ([]:List Str)))]⟩) ?_
  refine lok_rt E0 (⟨34,mkS [(0,.x (.one (.p (.val (.string (bs s)))))),(1,.x (.one (.p (.val (.int .u8 b))))),(5,.x (.one (.vw 105))),(6,.x (.one (.p (pi (0:Int)))))],mkH [(105,.arr 1 (List.map encS ([]:List Str)))]⟩) ?_
  refine lok_join (fun x_:Int × (List Str) => ref03_Cut_j1 s x_.1 x_.2=some r_) (fun x_ => ⟨34,mkS [(0,.x (.one (.p (.val (.string (bs s)))))),(5,.x (.one (.vw 105))),(6,.x (.one (.p (pi x_.1))))],mkH [(105,.arr 1 (List.map encS x_.2))]⟩) ?hyref03_Cut_j1 ?hxref03_Cut_j1
  case hyref03_Cut_j1 =>
    rintro ⟨from_,out⟩ H0
    try dsimp only at H0 ⊢
    unfold ref03_Cut_j1 at H0
    replace H0:=req_some H0
    obtain ⟨⟨q_0,q_1⟩,H0⟩:=H0
    refine lok_rt E0 (⟨34,mkS [(4,.x (.one (.vw 105)))],mkH [(105,.arr 1 (List.map encS (out ++ [(List.drop from_.toNat s)])))]⟩) ?_
    refine lok_ret ?_
    try obtain rfl:=Option.some.inj H0
    try simp only [thenL,blockL]
    exact fin_au _ (.inr rfl) [] (⟨34,mkS [(4,.x (.one (.p (.sl 1 (List.map encS (out ++ [(List.drop from_.toNat s)]))))))],mkH []⟩) rfl rfl (Imp.trans (imp_frz 105 1 (List.map encS (out ++ [(List.drop from_.toNat s)]))) imp_au)
  case hxref03_Cut_j1 =>
    refine lok_rt E0 (⟨34,mkS [(0,.x (.one (.p (.val (.string (bs s)))))),(1,.x (.one (.p (.val (.int .u8 b))))),(5,.x (.one (.vw 105))),(6,.x (.one (.p (pi (0:Int))))),(7,.x (.one (.p (pi (0:Int)))))],mkH [(105,.arr 1 (List.map encS ([]:List Str)))]⟩) ?_
    refine lok_block ?_
    replace H0:=bind_some H0
    obtain ⟨v_2,hv_2,H0⟩:=H0
    refine lok_iter (fun x_ => ⟨34,mkS [(0,.x (.one (.p (.val (.string (bs s)))))),(1,.x (.one (.p (.val (.int .u8 b))))),(5,.x (.one (.vw 105))),(6,.x (.one (.p (pi x_.1)))),(7,.x (.one (.p (pi x_.2.1))))],mkH [(105,.arr 1 (List.map encS x_.2.2))]⟩) hv_2 imp_au ?_
    · rintro ⟨from_1,i,out1⟩ o_1 H1 k_1
      unfold ref03_Cut_l3 at H1
      try dsimp only at H1 ⊢
      refine lok_seq ?_
      refine lok_rt E0 (⟨34,mkS [(0,.x (.one (.p (.val (.string (bs s)))))),(1,.x (.one (.p (.val (.int .u8 b))))),(5,.x (.one (.vw 105))),(6,.x (.one (.p (pi from_1)))),(7,.x (.one (.p (pi i)))),(11,.x (.one (.p (.val (.bool (decide (i<(s.length:Int))))))))],mkH [(105,.arr 1 (List.map encS out1))]⟩) ?_
      refine lok_c (decide (i<(s.length:Int))) ?_ ?_
      · intro b_7
        replace H1:=cpos H1 b_7
        refine lok_skip ?_
        try simp only [thenL,blockL,↓reduceIte,reduceCtorEq]
        refine lok_join (fun x_:Int × (List Str) => ref03_Cut_j2 i x_.1 x_.2=some o_1) (fun x_ => ⟨34,mkS [(0,.x (.one (.p (.val (.string (bs s)))))),(1,.x (.one (.p (.val (.int .u8 b))))),(5,.x (.one (.vw 105))),(6,.x (.one (.p (pi x_.1)))),(7,.x (.one (.p (pi i))))],mkH [(105,.arr 1 (List.map encS x_.2))]⟩) ?hyref03_Cut_j2 ?hxref03_Cut_j2
        case hyref03_Cut_j2 =>
          rintro ⟨from_3,out3⟩ H1
          try dsimp only at H1 ⊢
          unfold ref03_Cut_j2 at H1
          refine lok_rl E0 (⟨34,mkS [(0,.x (.one (.p (.val (.string (bs s)))))),(1,.x (.one (.p (.val (.int .u8 b))))),(5,.x (.one (.vw 105))),(6,.x (.one (.p (pi from_3)))),(7,.x (.one (.p (pi (IntKind.i64.wrap (i+(1:Int)))))))],mkH [(105,.arr 1 (List.map encS out3))]⟩) ?_
          try simp only [thenL,blockL,↓reduceIte,reduceCtorEq]
          exact ⟨(from_3,(IntKind.i64.wrap (i+(1:Int))),out3),(Option.some.inj H1).symm,imp_au⟩
        case hxref03_Cut_j2 =>
          refine lok_block ?_
          replace H1:=req_some H1
          obtain ⟨q_6,H1⟩:=H1
          refine lok_rt E0 (⟨34,mkS [(0,.x (.one (.p (.val (.string (bs s)))))),(1,.x (.one (.p (.val (.int .u8 b))))),(5,.x (.one (.vw 105))),(6,.x (.one (.p (pi from_1)))),(7,.x (.one (.p (pi i)))),(18,.x (.one (.p (.val (.bool ((sx s i)==b))))))],mkH [(105,.arr 1 (List.map encS out1))]⟩) ?_
          refine lok_c ((sx s i)==b) ?_ ?_
          · intro b_5
            replace H1:=cpos H1 b_5
            replace H1:=req_some H1
            obtain ⟨⟨q_3,q_4⟩,H1⟩:=H1
            refine lok_rt E0 (⟨34,mkS [(0,.x (.one (.p (.val (.string (bs s)))))),(1,.x (.one (.p (.val (.int .u8 b))))),(5,.x (.one (.vw 105))),(7,.x (.one (.p (pi i))))],mkH [(105,.arr 1 (List.map encS (out1 ++ [(List.drop from_1.toNat (List.take i.toNat s))])))]⟩) ?_
            refine lok_rl E0 (⟨34,mkS [(0,.x (.one (.p (.val (.string (bs s)))))),(1,.x (.one (.p (.val (.int .u8 b))))),(5,.x (.one (.vw 105))),(6,.x (.one (.p (pi (IntKind.i64.wrap (i+(1:Int))))))),(7,.x (.one (.p (pi i))))],mkH [(105,.arr 1 (List.map encS (out1 ++ [(List.drop from_1.toNat (List.take i.toNat s))])))]⟩) ?_
            try simp only [thenL,blockL,↓reduceIte,reduceCtorEq]
            exact ⟨((IntKind.i64.wrap (i+(1:Int))),(out1 ++ [(List.drop from_1.toNat (List.take i.toNat s))])),H1,imp_au⟩
          · intro b_5
            replace H1:=cneg H1 b_5
            refine lok_skip ?_
            try simp only [thenL,blockL,↓reduceIte,reduceCtorEq]
            exact ⟨(from_1,out1),H1,imp_au⟩
      · intro b_7
        replace H1:=cneg H1 b_7
        refine lok_exit ?_
        try simp only [thenL,blockL,↓reduceIte,reduceCtorEq]
        have e_1:=k_1 _ (Option.some.inj H1).symm
        subst e_1
        try dsimp only at H0
        try simp only [thenL,blockL,↓reduceIte,reduceCtorEq]
        exact ⟨(from_1,out1),H0,imp_au⟩
theorem ok_ref03_number (s:Str) (r_:Int × Bool) (H0:ref03_number s=some r_):CallOK Tryd.prog 54 [.one (.p (.val (.string (bs s))))] [] [.one (.p (pi r_.1)),.one (.p (.val (.bool r_.2)))] []:=by
  refine callOK (n:=49) (rs:=[.tmp 2,.tmp 3]) (nb:=0) (V:=[]) Tryd.func54 rfl (by kernel_rfl) rfl rfl rfl rfl (Nat.le_of_ble_eq_true rfl) (by decide) ?_
  unfold ref03_number at H0
  refine lok_rt E0 (⟨49,mkS [(0,.x (.one (.p (.val (.string (bs s))))))],mkH []⟩) ?_
  refine lok_seq ?_
  replace H0:=req_some H0
  obtain ⟨q_8,H0⟩:=H0
  refine lok_rt E0 (⟨49,mkS [(0,.x (.one (.p (.val (.string (bs s)))))),(23,.x (.one (.p (.val (.bool (((decide ((s.length:Int)<(1:Int)))||(decide ((4:Int)<(s.length:Int))))||((decide ((1:Int)<(s.length:Int)))&&((sx s (0:Int))==(48:Int)))))))))],mkH []⟩) ?_
  refine lok_c (((decide ((s.length:Int)<(1:Int)))||(decide ((4:Int)<(s.length:Int))))||((decide ((1:Int)<(s.length:Int)))&&((sx s (0:Int))==(48:Int)))) ?_ ?_
  · intro b_7
    replace H0:=cpos H0 b_7
    refine lok_rt E0 (⟨49,mkS [(2,.x (.one (.p (pi (0:Int))))),(3,.x (.one (.p (.val (.bool false)))))],mkH []⟩) ?_
    refine lok_ret ?_
    try obtain rfl:=Option.some.inj H0
    try simp only [thenL,blockL]
    exact fin_au _ (.inr rfl) [] (⟨49,mkS [(2,.x (.one (.p (pi (0:Int))))),(3,.x (.one (.p (.val (.bool false)))))],mkH []⟩) rfl rfl imp_au
  · intro b_7
    replace H0:=cneg H0 b_7
    refine lok_skip ?_
    try simp only [thenL,blockL,↓reduceIte,reduceCtorEq]
    refine lok_rt E0 (⟨49,mkS [(0,.x (.one (.p (.val (.string (bs s)))))),(4,.x (.one (.p (pi (0:Int)))))],mkH []⟩) ?_
    refine lok_join (fun x_:Int => ref03_number_j1 x_=some r_) (fun x_ => ⟨49,mkS [(4,.x (.one (.p (pi x_))))],mkH []⟩) ?hyref03_number_j1 ?hxref03_number_j1
    case hyref03_number_j1 =>
      rintro n H0
      try dsimp only at H0 ⊢
      unfold ref03_number_j1 at H0
      refine lok_rt E0 (⟨49,mkS [(2,.x (.one (.p (pi n)))),(3,.x (.one (.p (.val (.bool true)))))],mkH []⟩) ?_
      refine lok_ret ?_
      try obtain rfl:=Option.some.inj H0
      try simp only [thenL,blockL]
      exact fin_au _ (.inr rfl) [] (⟨49,mkS [(2,.x (.one (.p (pi n)))),(3,.x (.one (.p (.val (.bool true)))))],mkH []⟩) rfl rfl imp_au
    case hxref03_number_j1 =>
      refine lok_rt E0 (⟨49,mkS [(0,.x (.one (.p (.val (.string (bs s)))))),(4,.x (.one (.p (pi (0:Int))))),(5,.x (.one (.p (pi (0:Int)))))],mkH []⟩) ?_
      refine lok_block ?_
      replace H0:=bind_some H0
      obtain ⟨v_0,hv_0,H0⟩:=H0
      refine lok_iter (fun x_ => ⟨49,mkS [(0,.x (.one (.p (.val (.string (bs s)))))),(4,.x (.one (.p (pi x_.1)))),(5,.x (.one (.p (pi x_.2))))],mkH []⟩) hv_0 imp_au ?_
      · rintro ⟨n1,i⟩ o_1 H1 k_1
        unfold ref03_number_l2 at H1
        try dsimp only at H1 ⊢
        refine lok_seq ?_
        refine lok_rt E0 (⟨49,mkS [(0,.x (.one (.p (.val (.string (bs s)))))),(4,.x (.one (.p (pi n1)))),(5,.x (.one (.p (pi i)))),(27,.x (.one (.p (.val (.bool (decide (i<(s.length:Int))))))))],mkH []⟩) ?_
        refine lok_c (decide (i<(s.length:Int))) ?_ ?_
        · intro b_6
          replace H1:=cpos H1 b_6
          refine lok_skip ?_
          try simp only [thenL,blockL,↓reduceIte,reduceCtorEq]
          refine lok_seq ?_
          refine lok_block ?_
          refine lok_seq ?_
          replace H1:=req_some H1
          obtain ⟨⟨q_4,q_5⟩,H1⟩:=H1
          refine lok_rt E0 (⟨49,mkS [(0,.x (.one (.p (.val (.string (bs s)))))),(4,.x (.one (.p (pi n1)))),(5,.x (.one (.p (pi i)))),(39,.x (.one (.p (.val (.bool ((decide ((sx s i)<(48:Int)))||(decide ((57:Int)<(sx s i)))))))))],mkH []⟩) ?_
          refine lok_c ((decide ((sx s i)<(48:Int)))||(decide ((57:Int)<(sx s i)))) ?_ ?_
          · intro b_3
            replace H1:=cpos H1 b_3
            refine lok_rt E0 (⟨49,mkS [(2,.x (.one (.p (pi (0:Int))))),(3,.x (.one (.p (.val (.bool false)))))],mkH []⟩) ?_
            refine lok_ret ?_
            try simp only [thenL,blockL,↓reduceIte,reduceCtorEq]
            have e_1:=k_1 _ (Option.some.inj H1).symm
            subst e_1
            try dsimp only at H0
            try obtain rfl:=Option.some.inj H0
            try simp only [thenL,blockL]
            exact fin_au _ (.inr rfl) [] (⟨49,mkS [(2,.x (.one (.p (pi (0:Int))))),(3,.x (.one (.p (.val (.bool false)))))],mkH []⟩) rfl rfl imp_au
          · intro b_3
            replace H1:=cneg H1 b_3
            refine lok_skip ?_
            try simp only [thenL,blockL,↓reduceIte,reduceCtorEq]
            replace H1:=req_some H1
            obtain ⟨q_2,H1⟩:=H1
            replace H1:=bindV_some H1
            obtain ⟨n3,a_1,H1⟩:=H1
            refine lok_rlg E0 a_1 (⟨49,mkS [(0,.x (.one (.p (.val (.string (bs s)))))),(4,.x (.one (.p (pi n3)))),(5,.x (.one (.p (pi i))))],mkH []⟩) ?_
            try simp only [thenL,blockL,↓reduceIte,reduceCtorEq]
            refine lok_rl E0 (⟨49,mkS [(0,.x (.one (.p (.val (.string (bs s)))))),(4,.x (.one (.p (pi n3)))),(5,.x (.one (.p (pi (IntKind.i64.wrap (i+(1:Int)))))))],mkH []⟩) ?_
            try simp only [thenL,blockL,↓reduceIte,reduceCtorEq]
            exact ⟨(n3,(IntKind.i64.wrap (i+(1:Int)))),(Option.some.inj H1).symm,imp_au⟩
        · intro b_6
          replace H1:=cneg H1 b_6
          refine lok_exit ?_
          try simp only [thenL,blockL,↓reduceIte,reduceCtorEq]
          have e_1:=k_1 _ (Option.some.inj H1).symm
          subst e_1
          try dsimp only at H0
          try simp only [thenL,blockL,↓reduceIte,reduceCtorEq]
          exact ⟨n1,H0,imp_au⟩
theorem ok_ref03_header (s:Str) (r_:api_File × Bool) (H0:ref03_header s=some r_):CallOK Tryd.prog 53 [.one (.p (.val (.string (bs s))))] [] [.agg [.p (.val (.string (bs r_.1.Kind))),.p (pi r_.1.Source),.p (pi r_.1.Number),.p .nil],.one (.p (.val (.bool r_.2)))] []:=by
  refine callOK (n:=51) (rs:=[.cell 2 25,.tmp 3]) (nb:=0) (V:=[]) Tryd.func53 rfl (by kernel_rfl) rfl rfl rfl rfl (Nat.le_of_ble_eq_true rfl) (by decide) ?_
  unfold ref03_header at H0
  refine lok_rt E0 (⟨51,mkS [(0,.x (.one (.p (.val (.string (bs s)))))),(2,.x (.one (.ptr 102 0)))],mkH [(102,.var [.p (.val (.string (bs ([]:Str)))),.p (pi (0:Int)),.p (pi (0:Int)),.p .nil])]⟩) ?_
  replace H0:=bind_some H0
  obtain ⟨y,h_0,H0⟩:=H0
  refine lok_rt (Env.of E0 [⟨some 11,52,[.one (.p (.val (.string (bs s)))),.one (.p (.val (.int .u8 (124:Int))))],[],[.one (.p (.sl 1 (List.map encS y)))],[],True,fun _ => ok_ref03_Cut s (124:Int) y h_0,[]⟩]) (⟨51,mkS [(2,.x (.one (.ptr 102 0))),(4,.x (.one (.p (.sl 1 (List.map encS y)))))],mkH [(102,.var [.p (.val (.string (bs ([]:Str)))),.p (pi (0:Int)),.p (pi (0:Int)),.p .nil])]⟩) ?_
  refine lok_seq ?_
  replace H0:=req_some H0
  obtain ⟨q_8,H0⟩:=H0
  refine lok_rt E0 (⟨51,mkS [(2,.x (.one (.ptr 102 0))),(4,.x (.one (.p (.sl 1 (List.map encS y))))),(20,.x (.one (.p (.val (.bool (((y.length:Int) != (4:Int))||(!((ix y (0:Int))==([70,73,76,69]:Str)))))))))],mkH [(102,.var [.p (.val (.string (bs ([]:Str)))),.p (pi (0:Int)),.p (pi (0:Int)),.p .nil])]⟩) ?_
  refine lok_c (((y.length:Int) != (4:Int))||(!((ix y (0:Int))==([70,73,76,69]:Str)))) ?_ ?_
  · intro b_7
    replace H0:=cpos H0 b_7
    refine lok_rt E0 (⟨51,mkS [(2,.x (.one (.ptr 102 0))),(3,.x (.one (.p (.val (.bool false)))))],mkH [(102,.var [.p (.val (.string (bs ([]:Str)))),.p (pi (0:Int)),.p (pi (0:Int)),.p .nil])]⟩) ?_
    refine lok_ret ?_
    try obtain rfl:=Option.some.inj H0
    try simp only [thenL,blockL]
    exact fin_au _ (.inr rfl) [] (⟨51,mkS [(2,.x (.one (.ptr 102 0))),(3,.x (.one (.p (.val (.bool false)))))],mkH [(102,.var [.p (.val (.string (bs ([]:Str)))),.p (pi (0:Int)),.p (pi (0:Int)),.p .nil])]⟩) rfl rfl imp_au
  · intro b_7
    replace H0:=cneg H0 b_7
    refine lok_skip ?_
    try simp only [thenL,blockL,↓reduceIte,reduceCtorEq]
    replace H0:=req_some H0
    obtain ⟨q_6,H0⟩:=H0
    replace H0:=bind_some H0
    obtain ⟨⟨y1,y2⟩,h_1,H0⟩:=H0
    try dsimp only at H0
    refine lok_rt (Env.of E0 [⟨some 26,54,[.one (.p (.val (.string (bs (ix y (2:Int))))))],[],[.one (.p (pi y1)),.one (.p (.val (.bool y2)))],[],True,fun _ => ok_ref03_number (ix y (2:Int)) (y1,y2) h_1,[]⟩]) (⟨51,mkS [(2,.x (.one (.ptr 102 0))),(4,.x (.one (.p (.sl 1 (List.map encS y))))),(5,.x (.one (.p (pi y1)))),(6,.x (.one (.p (.val (.bool y2)))))],mkH [(102,.var [.p (.val (.string (bs ([]:Str)))),.p (pi (0:Int)),.p (pi (0:Int)),.p .nil])]⟩) ?_
    replace H0:=req_some H0
    obtain ⟨q_5,H0⟩:=H0
    replace H0:=bind_some H0
    obtain ⟨⟨y3,y4⟩,h_2,H0⟩:=H0
    try dsimp only at H0
    refine lok_rt (Env.of E0 [⟨some 33,54,[.one (.p (.val (.string (bs (ix y (3:Int))))))],[],[.one (.p (pi y3)),.one (.p (.val (.bool y4)))],[],True,fun _ => ok_ref03_number (ix y (3:Int)) (y3,y4) h_2,[]⟩]) (⟨51,mkS [(2,.x (.one (.ptr 102 0))),(4,.x (.one (.p (.sl 1 (List.map encS y))))),(5,.x (.one (.p (pi y1)))),(6,.x (.one (.p (.val (.bool y2))))),(7,.x (.one (.p (pi y3)))),(8,.x (.one (.p (.val (.bool y4)))))],mkH [(102,.var [.p (.val (.string (bs ([]:Str)))),.p (pi (0:Int)),.p (pi (0:Int)),.p .nil])]⟩) ?_
    replace H0:=req_some H0
    obtain ⟨q_4,H0⟩:=H0
    refine lok_rt E0 (⟨51,mkS [(2,.x (.one (.ptr 102 0))),(6,.x (.one (.p (.val (.bool y2))))),(8,.x (.one (.p (.val (.bool y4))))),(9,.x (.one (.ptr 109 0)))],mkH [(102,.var [.p (.val (.string (bs ([]:Str)))),.p (pi (0:Int)),.p (pi (0:Int)),.p .nil]),(109,.var [.p (.val (.string (bs (ix y (1:Int))))),.p (pi y1),.p (pi y3),.p .nil])]⟩) ?_
    replace H0:=req_some H0
    obtain ⟨q_3,H0⟩:=H0
    refine lok_et (Env.of E0 [⟨some 49,18,[.agg [.p (.val (.string (bs (ix y (1:Int))))),.p (pi y1),.p (pi y3),.p (.sl 1 (List.map encL_encS ([]:List (List Str))))]],[],[.one (.p (.val (.bool ((ref03_Valid (api_File.mk (ix y (1:Int)) y1 y3 ([]:List (List Str)))).getD default))))],[],(ref03_Valid (api_File.mk (ix y (1:Int)) y1 y3 ([]:List (List Str)))).isSome=true,fun h => ok_ref03_Valid (api_File.mk (ix y (1:Int)) y1 y3 ([]:List (List Str))) _ (isSome_get h),[]⟩]) 51 [⟨[(9,.x (.one (.ptr 109 0)))],[(109,some (.var [.p (.val (.string (bs (ix y (1:Int))))),.p (pi y1),.p (pi y3),.p .nil]))],[(42,.x (.agg [.p (.val (.string (bs (ix y (1:Int))))),.p (pi y1),.p (pi y3),.p .nil]))],[],none⟩,
      ⟨[(6,.x (.one (.p (.val (.bool y2)))))],[],[(43,.x (.one (.p (.val (.bool y2)))))],[],none⟩,
      ⟨[(43,.x (.one (.p (.val (.bool y2)))))],[],[(44,.x (.one (.p (.val (.bool y2)))))],[],none⟩,
      ⟨[(8,.x (.one (.p (.val (.bool y4))))),(44,.x (.one (.p (.val (.bool y2)))))],[],[(45,.wh y2 (.one (.p (.val (.bool y4)))))],[],none⟩,
      ⟨[(44,.x (.one (.p (.val (.bool y2))))),(45,.wh y2 (.one (.p (.val (.bool y4)))))],[],[(46,.x (.one (.p (.val (.bool (y2&&y4))))))],[],none⟩,
      ⟨[(46,.x (.one (.p (.val (.bool (y2&&y4))))))],[],[(47,.x (.one (.p (.val (.bool (y2&&y4))))))],[],none⟩,
      ⟨[(9,.x (.one (.ptr 109 0))),(47,.x (.one (.p (.val (.bool (y2&&y4))))))],[(109,some (.var [.p (.val (.string (bs (ix y (1:Int))))),.p (pi y1),.p (pi y3),.p .nil]))],[(48,.wh (y2&&y4) (.agg [.p (.val (.string (bs (ix y (1:Int))))),.p (pi y1),.p (pi y3),.p .nil]))],[],none⟩,
      ⟨[(47,.x (.one (.p (.val (.bool (y2&&y4)))))),(48,.wh (y2&&y4) (.agg [.p (.val (.string (bs (ix y (1:Int))))),.p (pi y1),.p (pi y3),.p .nil]))],[],[(49,.wh (y2&&y4) (.one (.p (.val (.bool ((ref03_Valid (api_File.mk (ix y (1:Int)) y1 y3 ([]:List (List Str)))).getD default))))))],[],none⟩,
      ⟨[(47,.x (.one (.p (.val (.bool (y2&&y4)))))),(49,.wh (y2&&y4) (.one (.p (.val (.bool ((ref03_Valid (api_File.mk (ix y (1:Int)) y1 y3 ([]:List (List Str)))).getD default))))))],[],[(50,.x (.one (.p (.val (.bool ((y2&&y4)&&((ref03_Valid (api_File.mk (ix y (1:Int)) y1 y3 ([]:List (List Str)))).getD default)))))))],[],none⟩,
      ⟨[(2,.x (.one (.ptr 102 0))),(42,.x (.agg [.p (.val (.string (bs (ix y (1:Int))))),.p (pi y1),.p (pi y3),.p .nil]))],[(102,some (.var [.p (.val (.string (bs ([]:Str)))),.p (pi (0:Int)),.p (pi (0:Int)),.p .nil]))],[],[(102,some (.var [.p (.val (.string (bs (ix y (1:Int))))),.p (pi y1),.p (pi y3),.p .nil]))],none⟩] (⟨51,mkS [(2,.x (.one (.ptr 102 0))),(3,.x (.one (.p (.val (.bool ((y2&&y4)&&((ref03_Valid (api_File.mk (ix y (1:Int)) y1 y3 ([]:List (List Str)))).getD default)))))))],mkH [(102,.var [.p (.val (.string (bs (ix y (1:Int))))),.p (pi y1),.p (pi y3),.p .nil])]⟩) (by kernel_rfl) (by kernel_rfl) (by kernel_rfl) rfl rfl rfl ?_
    refine lok_ret ?_
    try obtain rfl:=Option.some.inj H0
    try simp only [thenL,blockL]
    exact fin_au _ (.inr rfl) [] (⟨51,mkS [(2,.x (.one (.ptr 102 0))),(3,.x (.one (.p (.val (.bool ((y2&&y4)&&((ref03_Valid (api_File.mk (ix y (1:Int)) y1 y3 ([]:List (List Str)))).getD default)))))))],mkH [(102,.var [.p (.val (.string (bs (ix y (1:Int))))),.p (pi y1),.p (pi y3),.p .nil])]⟩) rfl rfl imp_au
set_option maxHeartbeats 4000000 in
theorem ok_ref03_unescape (s:Str) (r_:Str × Bool) (H0:ref03_unescape s=some r_):CallOK Tryd.prog 67 [.one (.p (.val (.string (bs s))))] [] [.one (.p (.val (.string (bs r_.1)))),.one (.p (.val (.bool r_.2)))] []:=by
  refine callOK (n:=47) (rs:=[.tmp 2,.tmp 3]) (nb:=0) (V:=[]) Tryd.func67 rfl (by kernel_rfl) rfl rfl rfl rfl (Nat.le_of_ble_eq_true rfl) (by decide) ?_
  unfold ref03_unescape at H0
  refine lok_rt E0 (⟨47,mkS [(0,.x (.one (.p (.val (.string (bs s))))))],mkH []⟩) ?_
  refine lok_rt E0 (⟨47,mkS [(0,.x (.one (.p (.val (.string (bs s)))))),(4,.x (.one (.p (.val (.string (bs ([]:Str)))))))],mkH []⟩) ?_
  refine lok_join (fun x_:Str => ref03_unescape_j1 x_=some r_) (fun x_ => ⟨47,mkS [(4,.x (.one (.p (.val (.string (bs x_))))))],mkH []⟩) ?hyref03_unescape_j1 ?hxref03_unescape_j1
  case hyref03_unescape_j1 =>
    rintro out H0
    try dsimp only at H0 ⊢
    unfold ref03_unescape_j1 at H0
    replace H0:=bind_some H0
    obtain ⟨y,h_0,H0⟩:=H0
    refine lok_rt (Env.of E0 [⟨some 46,47,[.one (.p (.val (.string (bs out))))],[],[.one (.p (.val (.bool y)))],[],True,fun _ => ok_ref03_Field out y h_0,[]⟩]) (⟨47,mkS [(2,.x (.one (.p (.val (.string (bs out)))))),(3,.x (.one (.p (.val (.bool y)))))],mkH []⟩) ?_
    refine lok_ret ?_
    try obtain rfl:=Option.some.inj H0
    try simp only [thenL,blockL]
    exact fin_au _ (.inr rfl) [] (⟨47,mkS [(2,.x (.one (.p (.val (.string (bs out)))))),(3,.x (.one (.p (.val (.bool y)))))],mkH []⟩) rfl rfl imp_au
  case hxref03_unescape_j1 =>
    refine lok_rt E0 (⟨47,mkS [(0,.x (.one (.p (.val (.string (bs s)))))),(4,.x (.one (.p (.val (.string (bs ([]:Str))))))),(5,.x (.one (.p (pi (0:Int)))))],mkH []⟩) ?_
    refine lok_block ?_
    replace H0:=bind_some H0
    obtain ⟨v_1,hv_1,H0⟩:=H0
    refine lok_iter (fun x_ => ⟨47,mkS [(0,.x (.one (.p (.val (.string (bs s)))))),(4,.x (.one (.p (.val (.string (bs x_.1)))))),(5,.x (.one (.p (pi x_.2))))],mkH []⟩) hv_1 imp_au ?_
    · rintro ⟨out1,i⟩ o_1 H1 k_1
      unfold ref03_unescape_l3 at H1
      try dsimp only at H1 ⊢
      refine lok_seq ?_
      refine lok_rt E0 (⟨47,mkS [(0,.x (.one (.p (.val (.string (bs s)))))),(4,.x (.one (.p (.val (.string (bs out1)))))),(5,.x (.one (.p (pi i)))),(9,.x (.one (.p (.val (.bool (decide (i<(s.length:Int))))))))],mkH []⟩) ?_
      refine lok_c (decide (i<(s.length:Int))) ?_ ?_
      · intro b_15
        replace H1:=cpos H1 b_15
        refine lok_skip ?_
        try simp only [thenL,blockL,↓reduceIte,reduceCtorEq]
        refine lok_join (fun x_:Str × Int => ref03_unescape_j2 x_.1 x_.2=some o_1) (fun x_ => ⟨47,mkS [(0,.x (.one (.p (.val (.string (bs s)))))),(4,.x (.one (.p (.val (.string (bs x_.1)))))),(5,.x (.one (.p (pi x_.2))))],mkH []⟩) ?hyref03_unescape_j2 ?hxref03_unescape_j2
        case hyref03_unescape_j2 =>
          rintro ⟨out3,i1⟩ H1
          try dsimp only at H1 ⊢
          unfold ref03_unescape_j2 at H1
          refine lok_rl E0 (⟨47,mkS [(0,.x (.one (.p (.val (.string (bs s)))))),(4,.x (.one (.p (.val (.string (bs out3)))))),(5,.x (.one (.p (pi (IntKind.i64.wrap (i1+(1:Int)))))))],mkH []⟩) ?_
          try simp only [thenL,blockL,↓reduceIte,reduceCtorEq]
          exact ⟨(out3,(IntKind.i64.wrap (i1+(1:Int)))),(Option.some.inj H1).symm,imp_au⟩
        case hxref03_unescape_j2 =>
          refine lok_block ?_
          refine lok_seq ?_
          replace H1:=req_some H1
          obtain ⟨q_14,H1⟩:=H1
          refine lok_rt E0 (⟨47,mkS [(0,.x (.one (.p (.val (.string (bs s)))))),(4,.x (.one (.p (.val (.string (bs out1)))))),(5,.x (.one (.p (pi i)))),(15,.x (.one (.p (.val (.bool ((sx s i) != (92:Int)))))))],mkH []⟩) ?_
          refine lok_c ((sx s i) != (92:Int)) ?_ ?_
          · intro b_13
            replace H1:=cpos H1 b_13
            replace H1:=req_some H1
            obtain ⟨⟨q_3,q_4⟩,H1⟩:=H1
            replace H1:=bindV_some H1
            obtain ⟨out4,a_2,H1⟩:=H1
            refine lok_rtg E0 a_2 (⟨47,mkS [(0,.x (.one (.p (.val (.string (bs s)))))),(4,.x (.one (.p (.val (.string (bs out4)))))),(5,.x (.one (.p (pi i))))],mkH []⟩) ?_
            refine lok_exit ?_
            try simp only [thenL,blockL,↓reduceIte,reduceCtorEq]
            exact ⟨(out4,i),H1,imp_au⟩
          · intro b_13
            replace H1:=cneg H1 b_13
            refine lok_skip ?_
            try simp only [thenL,blockL,↓reduceIte,reduceCtorEq]
            refine lok_rt E0 (⟨47,mkS [(0,.x (.one (.p (.val (.string (bs s)))))),(4,.x (.one (.p (.val (.string (bs out1)))))),(5,.x (.one (.p (pi (IntKind.i64.wrap (i+(1:Int)))))))],mkH []⟩) ?_
            refine lok_seq ?_
            refine lok_rt E0 (⟨47,mkS [(0,.x (.one (.p (.val (.string (bs s)))))),(4,.x (.one (.p (.val (.string (bs out1)))))),(5,.x (.one (.p (pi (IntKind.i64.wrap (i+(1:Int))))))),(28,.x (.one (.p (.val (.bool ((IntKind.i64.wrap (i+(1:Int)))==(s.length:Int)))))))],mkH []⟩) ?_
            refine lok_c ((IntKind.i64.wrap (i+(1:Int)))==(s.length:Int)) ?_ ?_
            · intro b_12
              replace H1:=cpos H1 b_12
              refine lok_rt E0 (⟨47,mkS [(2,.x (.one (.p (.val (.string (bs ([]:Str))))))),(3,.x (.one (.p (.val (.bool false)))))],mkH []⟩) ?_
              refine lok_ret ?_
              try simp only [thenL,blockL,↓reduceIte,reduceCtorEq]
              have e_1:=k_1 _ (Option.some.inj H1).symm
              subst e_1
              try dsimp only at H0
              try obtain rfl:=Option.some.inj H0
              try simp only [thenL,blockL]
              exact fin_au _ (.inr rfl) [] (⟨47,mkS [(2,.x (.one (.p (.val (.string (bs ([]:Str))))))),(3,.x (.one (.p (.val (.bool false)))))],mkH []⟩) rfl rfl imp_au
            · intro b_12
              replace H1:=cneg H1 b_12
              refine lok_skip ?_
              try simp only [thenL,blockL,↓reduceIte,reduceCtorEq]
              replace H1:=req_some H1
              obtain ⟨q_11,H1⟩:=H1
              refine lok_rt E0 (⟨47,mkS [(0,.x (.one (.p (.val (.string (bs s)))))),(4,.x (.one (.p (.val (.string (bs out1)))))),(5,.x (.one (.p (pi (IntKind.i64.wrap (i+(1:Int))))))),(31,.x (.one (.p (.val (.int .u8 (sx s (IntKind.i64.wrap (i+(1:Int)))))))))],mkH []⟩) ?_
              refine lok_block ?_
              refine lok_rt E0 (⟨47,mkS [(0,.x (.one (.p (.val (.string (bs s)))))),(4,.x (.one (.p (.val (.string (bs out1)))))),(5,.x (.one (.p (pi (IntKind.i64.wrap (i+(1:Int))))))),(31,.x (.one (.p (.val (.int .u8 (sx s (IntKind.i64.wrap (i+(1:Int))))))))),(32,.x (.one (.p (.val (.bool ((sx s (IntKind.i64.wrap (i+(1:Int))))==(92:Int)))))))],mkH []⟩) ?_
              refine lok_c ((sx s (IntKind.i64.wrap (i+(1:Int))))==(92:Int)) ?_ ?_
              · intro b_10
                replace H1:=cpos H1 b_10
                replace H1:=req_some H1
                obtain ⟨q_5,H1⟩:=H1
                refine lok_rl E0 (⟨47,mkS [(0,.x (.one (.p (.val (.string (bs s)))))),(4,.x (.one (.p (.val (.string (bs (out1 ++ ([92]:Str)))))))),(5,.x (.one (.p (pi (IntKind.i64.wrap (i+(1:Int)))))))],mkH []⟩) ?_
                try simp only [thenL,blockL,↓reduceIte,reduceCtorEq]
                exact ⟨((out1 ++ ([92]:Str)),(IntKind.i64.wrap (i+(1:Int)))),H1,imp_au⟩
              · intro b_10
                replace H1:=cneg H1 b_10
                refine lok_rt E0 (⟨47,mkS [(0,.x (.one (.p (.val (.string (bs s)))))),(4,.x (.one (.p (.val (.string (bs out1)))))),(5,.x (.one (.p (pi (IntKind.i64.wrap (i+(1:Int))))))),(31,.x (.one (.p (.val (.int .u8 (sx s (IntKind.i64.wrap (i+(1:Int))))))))),(36,.x (.one (.p (.val (.bool ((sx s (IntKind.i64.wrap (i+(1:Int))))==(112:Int)))))))],mkH []⟩) ?_
                refine lok_c ((sx s (IntKind.i64.wrap (i+(1:Int))))==(112:Int)) ?_ ?_
                · intro b_9
                  replace H1:=cpos H1 b_9
                  replace H1:=req_some H1
                  obtain ⟨q_6,H1⟩:=H1
                  refine lok_rl E0 (⟨47,mkS [(0,.x (.one (.p (.val (.string (bs s)))))),(4,.x (.one (.p (.val (.string (bs (out1 ++ ([124]:Str)))))))),(5,.x (.one (.p (pi (IntKind.i64.wrap (i+(1:Int)))))))],mkH []⟩) ?_
                  try simp only [thenL,blockL,↓reduceIte,reduceCtorEq]
                  exact ⟨((out1 ++ ([124]:Str)),(IntKind.i64.wrap (i+(1:Int)))),H1,imp_au⟩
                · intro b_9
                  replace H1:=cneg H1 b_9
                  refine lok_rt E0 (⟨47,mkS [(0,.x (.one (.p (.val (.string (bs s)))))),(4,.x (.one (.p (.val (.string (bs out1)))))),(5,.x (.one (.p (pi (IntKind.i64.wrap (i+(1:Int))))))),(40,.x (.one (.p (.val (.bool ((sx s (IntKind.i64.wrap (i+(1:Int))))==(110:Int)))))))],mkH []⟩) ?_
                  refine lok_c ((sx s (IntKind.i64.wrap (i+(1:Int))))==(110:Int)) ?_ ?_
                  · intro b_8
                    replace H1:=cpos H1 b_8
                    replace H1:=req_some H1
                    obtain ⟨q_7,H1⟩:=H1
                    refine lok_rl E0 (⟨47,mkS [(0,.x (.one (.p (.val (.string (bs s)))))),(4,.x (.one (.p (.val (.string (bs (out1 ++ ([10]:Str)))))))),(5,.x (.one (.p (pi (IntKind.i64.wrap (i+(1:Int)))))))],mkH []⟩) ?_
                    try simp only [thenL,blockL,↓reduceIte,reduceCtorEq]
                    exact ⟨((out1 ++ ([10]:Str)),(IntKind.i64.wrap (i+(1:Int)))),H1,imp_au⟩
                  · intro b_8
                    replace H1:=cneg H1 b_8
                    refine lok_rt E0 (⟨47,mkS [(2,.x (.one (.p (.val (.string (bs ([]:Str))))))),(3,.x (.one (.p (.val (.bool false)))))],mkH []⟩) ?_
                    refine lok_ret ?_
                    try simp only [thenL,blockL,↓reduceIte,reduceCtorEq]
                    have e_1:=k_1 _ (Option.some.inj H1).symm
                    subst e_1
                    try dsimp only at H0
                    try obtain rfl:=Option.some.inj H0
                    try simp only [thenL,blockL]
                    exact fin_au _ (.inr rfl) [] (⟨47,mkS [(2,.x (.one (.p (.val (.string (bs ([]:Str))))))),(3,.x (.one (.p (.val (.bool false)))))],mkH []⟩) rfl rfl imp_au
      · intro b_15
        replace H1:=cneg H1 b_15
        refine lok_exit ?_
        try simp only [thenL,blockL,↓reduceIte,reduceCtorEq]
        have e_1:=k_1 _ (Option.some.inj H1).symm
        subst e_1
        try dsimp only at H0
        try simp only [thenL,blockL,↓reduceIte,reduceCtorEq]
        exact ⟨out1,H0,imp_au⟩
theorem ok_ref03_row (s:Str) (r_:(List Str) × Bool) (H0:ref03_row s=some r_):CallOK Tryd.prog 55 [.one (.p (.val (.string (bs s))))] [] [.one (.p (.sl 1 (List.map encS r_.1))),.one (.p (.val (.bool r_.2)))] []:=by
  refine callOK (n:=46) (rs:=[.tmp 2,.tmp 3]) (nb:=0) (V:=[]) Tryd.func55 rfl (by kernel_rfl) rfl rfl rfl rfl (Nat.le_of_ble_eq_true rfl) (by decide) ?_
  unfold ref03_row at H0
  refine lok_rt E0 (⟨46,mkS [(0,.x (.one (.p (.val (.string (bs s))))))],mkH []⟩) ?_
  replace H0:=bind_some H0
  obtain ⟨y,h_0,H0⟩:=H0
  refine lok_rt (Env.of E0 [⟨some 10,52,[.one (.p (.val (.string (bs s)))),.one (.p (.val (.int .u8 (124:Int))))],[],[.one (.p (.sl 1 (List.map encS y)))],[],True,fun _ => ok_ref03_Cut s (124:Int) y h_0,[]⟩]) (⟨46,mkS [(4,.x (.one (.p (.sl 1 (List.map encS y)))))],mkH []⟩) ?_
  refine lok_seq ?_
  replace H0:=req_some H0
  obtain ⟨q_8,H0⟩:=H0
  refine lok_rt E0 (⟨46,mkS [(4,.x (.one (.p (.sl 1 (List.map encS y))))),(24,.x (.one (.p (.val (.bool (((!((ix y (0:Int))==([82,79,87]:Str)))||(decide ((y.length:Int)<(2:Int))))||(decide ((9:Int)<(y.length:Int)))))))))],mkH []⟩) ?_
  refine lok_c (((!((ix y (0:Int))==([82,79,87]:Str)))||(decide ((y.length:Int)<(2:Int))))||(decide ((9:Int)<(y.length:Int)))) ?_ ?_
  · intro b_7
    replace H0:=cpos H0 b_7
    refine lok_rt E0 (⟨46,mkS [(2,.x (.one (.vw 102))),(3,.x (.one (.p (.val (.bool false)))))],mkH [(102,.arr 1 (List.map encS ([]:List Str)))]⟩) ?_
    refine lok_ret ?_
    try obtain rfl:=Option.some.inj H0
    try simp only [thenL,blockL]
    exact fin_au _ (.inr rfl) [] (⟨46,mkS [(2,.x (.one (.p (.sl 1 (List.map encS ([]:List Str)))))),(3,.x (.one (.p (.val (.bool false)))))],mkH []⟩) rfl rfl (Imp.trans (imp_frz 102 1 (List.map encS ([]:List Str))) imp_au)
  · intro b_7
    replace H0:=cneg H0 b_7
    refine lok_skip ?_
    try simp only [thenL,blockL,↓reduceIte,reduceCtorEq]
    refine lok_rt E0 (⟨46,mkS [(4,.x (.one (.p (.sl 1 (List.map encS y))))),(5,.x (.one (.vw 105)))],mkH [(105,.arr 1 (List.map encS ([]:List Str)))]⟩) ?_
    refine lok_join (fun x_:(List Str) => ref03_row_j1 x_=some r_) (fun x_ => ⟨46,mkS [(5,.x (.one (.vw 105)))],mkH [(105,.arr 1 (List.map encS x_))]⟩) ?hyref03_row_j1 ?hxref03_row_j1
    case hyref03_row_j1 =>
      rintro out H0
      try dsimp only at H0 ⊢
      unfold ref03_row_j1 at H0
      refine lok_rt E0 (⟨46,mkS [(2,.x (.one (.vw 105))),(3,.x (.one (.p (.val (.bool true)))))],mkH [(105,.arr 1 (List.map encS out))]⟩) ?_
      refine lok_ret ?_
      try obtain rfl:=Option.some.inj H0
      try simp only [thenL,blockL]
      exact fin_au _ (.inr rfl) [] (⟨46,mkS [(2,.x (.one (.p (.sl 1 (List.map encS out))))),(3,.x (.one (.p (.val (.bool true)))))],mkH []⟩) rfl rfl (Imp.trans (imp_frz 105 1 (List.map encS out)) imp_au)
    case hxref03_row_j1 =>
      refine lok_rt E0 (⟨46,mkS [(4,.x (.one (.p (.sl 1 (List.map encS y))))),(5,.x (.one (.vw 105))),(6,.x (.one (.p (pi (1:Int)))))],mkH [(105,.arr 1 (List.map encS ([]:List Str)))]⟩) ?_
      refine lok_block ?_
      replace H0:=bind_some H0
      obtain ⟨v_1,hv_1,H0⟩:=H0
      refine lok_iter (fun x_ => ⟨46,mkS [(4,.x (.one (.p (.sl 1 (List.map encS y))))),(5,.x (.one (.vw 105))),(6,.x (.one (.p (pi x_.1))))],mkH [(105,.arr 1 (List.map encS x_.2))]⟩) hv_1 imp_au ?_
      · rintro ⟨i,out1⟩ o_1 H1 k_1
        unfold ref03_row_l2 at H1
        try dsimp only at H1 ⊢
        refine lok_seq ?_
        refine lok_rt E0 (⟨46,mkS [(4,.x (.one (.p (.sl 1 (List.map encS y))))),(5,.x (.one (.vw 105))),(6,.x (.one (.p (pi i)))),(28,.x (.one (.p (.val (.bool (decide (i<(y.length:Int))))))))],mkH [(105,.arr 1 (List.map encS out1))]⟩) ?_
        refine lok_c (decide (i<(y.length:Int))) ?_ ?_
        · intro b_6
          replace H1:=cpos H1 b_6
          refine lok_skip ?_
          try simp only [thenL,blockL,↓reduceIte,reduceCtorEq]
          refine lok_seq ?_
          refine lok_block ?_
          replace H1:=req_some H1
          obtain ⟨q_5,H1⟩:=H1
          replace H1:=bind_some H1
          obtain ⟨⟨y1,y2⟩,h_2,H1⟩:=H1
          try dsimp only at H1
          refine lok_rt (Env.of E0 [⟨some 36,67,[.one (.p (.val (.string (bs (ix y i)))))],[],[.one (.p (.val (.string (bs y1)))),.one (.p (.val (.bool y2)))],[],True,fun _ => ok_ref03_unescape (ix y i) (y1,y2) h_2,[]⟩]) (⟨46,mkS [(4,.x (.one (.p (.sl 1 (List.map encS y))))),(5,.x (.one (.vw 105))),(6,.x (.one (.p (pi i)))),(7,.x (.one (.p (.val (.string (bs y1)))))),(8,.x (.one (.p (.val (.bool y2)))))],mkH [(105,.arr 1 (List.map encS out1))]⟩) ?_
          refine lok_seq ?_
          refine lok_rt E0 (⟨46,mkS [(4,.x (.one (.p (.sl 1 (List.map encS y))))),(5,.x (.one (.vw 105))),(6,.x (.one (.p (pi i)))),(7,.x (.one (.p (.val (.string (bs y1)))))),(40,.x (.one (.p (.val (.bool (!y2))))))],mkH [(105,.arr 1 (List.map encS out1))]⟩) ?_
          refine lok_c (!y2) ?_ ?_
          · intro b_4
            replace H1:=cpos H1 b_4
            refine lok_rt E0 (⟨46,mkS [(2,.x (.one (.vw 102))),(3,.x (.one (.p (.val (.bool false)))))],mkH [(102,.arr 1 (List.map encS ([]:List Str)))]⟩) ?_
            refine lok_ret ?_
            try simp only [thenL,blockL,↓reduceIte,reduceCtorEq]
            have e_1:=k_1 _ (Option.some.inj H1).symm
            subst e_1
            try dsimp only at H0
            try obtain rfl:=Option.some.inj H0
            try simp only [thenL,blockL]
            exact fin_au _ (.inr rfl) [] (⟨46,mkS [(2,.x (.one (.p (.sl 1 (List.map encS ([]:List Str)))))),(3,.x (.one (.p (.val (.bool false)))))],mkH []⟩) rfl rfl (Imp.trans (imp_frz 102 1 (List.map encS ([]:List Str))) imp_au)
          · intro b_4
            replace H1:=cneg H1 b_4
            refine lok_skip ?_
            try simp only [thenL,blockL,↓reduceIte,reduceCtorEq]
            replace H1:=req_some H1
            obtain ⟨q_3,H1⟩:=H1
            refine lok_rl E0 (⟨46,mkS [(4,.x (.one (.p (.sl 1 (List.map encS y))))),(5,.x (.one (.vw 105))),(6,.x (.one (.p (pi i))))],mkH [(105,.arr 1 (List.map encS (out1 ++ [y1])))]⟩) ?_
            try simp only [thenL,blockL,↓reduceIte,reduceCtorEq]
            refine lok_rl E0 (⟨46,mkS [(4,.x (.one (.p (.sl 1 (List.map encS y))))),(5,.x (.one (.vw 105))),(6,.x (.one (.p (pi (IntKind.i64.wrap (i+(1:Int)))))))],mkH [(105,.arr 1 (List.map encS (out1 ++ [y1])))]⟩) ?_
            try simp only [thenL,blockL,↓reduceIte,reduceCtorEq]
            exact ⟨((IntKind.i64.wrap (i+(1:Int))),(out1 ++ [y1])),(Option.some.inj H1).symm,imp_au⟩
        · intro b_6
          replace H1:=cneg H1 b_6
          refine lok_exit ?_
          try simp only [thenL,blockL,↓reduceIte,reduceCtorEq]
          have e_1:=k_1 _ (Option.some.inj H1).symm
          subst e_1
          try dsimp only at H0
          try simp only [thenL,blockL,↓reduceIte,reduceCtorEq]
          exact ⟨out1,H0,imp_au⟩
set_option maxHeartbeats 4000000 in
theorem ok_ref03_Parse (s:Str) (r_:api_File × Int) (H0:ref03_Parse s=some r_):CallOK Tryd.prog 23 [.one (.p (.val (.string (bs s))))] [] [.agg [.p (.val (.string (bs r_.1.Kind))),.p (pi r_.1.Source),.p (pi r_.1.Number),.p (.sl 1 (List.map encL_encS r_.1.Rows))],.one (.p (pi r_.2))] []:=by
  refine callOK (n:=140) (rs:=[.cell 2 25,.tmp 3]) (nb:=0) (V:=[]) Tryd.func23 rfl (by kernel_rfl) rfl rfl rfl rfl (Nat.le_of_ble_eq_true rfl) (by decide) ?_
  unfold ref03_Parse at H0
  refine lok_rt E0 (⟨140,mkS [(0,.x (.one (.p (.val (.string (bs s)))))),(2,.x (.one (.ptr 102 0)))],mkH [(102,.var [.p (.val (.string (bs ([]:Str)))),.p (pi (0:Int)),.p (pi (0:Int)),.p .nil])]⟩) ?_
  refine lok_seq ?_
  refine lok_rt E0 (⟨140,mkS [(0,.x (.one (.p (.val (.string (bs s)))))),(2,.x (.one (.ptr 102 0))),(18,.x (.one (.p (.val (.bool (decide ((8192:Int)<(s.length:Int))))))))],mkH [(102,.var [.p (.val (.string (bs ([]:Str)))),.p (pi (0:Int)),.p (pi (0:Int)),.p .nil])]⟩) ?_
  refine lok_c (decide ((8192:Int)<(s.length:Int))) ?_ ?_
  · intro b_28
    replace H0:=cpos H0 b_28
    refine lok_rt E0 (⟨140,mkS [(2,.x (.one (.ptr 102 0))),(3,.x (.one (.p (pi (3:Int)))))],mkH [(102,.var [.p (.val (.string (bs ([]:Str)))),.p (pi (0:Int)),.p (pi (0:Int)),.p .nil])]⟩) ?_
    refine lok_ret ?_
    try obtain rfl:=Option.some.inj H0
    try simp only [thenL,blockL]
    exact fin_au _ (.inr rfl) [] (⟨140,mkS [(2,.x (.one (.ptr 102 0))),(3,.x (.one (.p (pi (3:Int)))))],mkH [(102,.var [.p (.val (.string (bs ([]:Str)))),.p (pi (0:Int)),.p (pi (0:Int)),.p (.sl 1 (List.map encL_encS ([]:List (List Str))))])]⟩) rfl rfl imp_au
  · intro b_28
    replace H0:=cneg H0 b_28
    refine lok_skip ?_
    try simp only [thenL,blockL,↓reduceIte,reduceCtorEq]
    refine lok_seq ?_
    replace H0:=req_some H0
    obtain ⟨q_27,H0⟩:=H0
    refine lok_rt E0 (⟨140,mkS [(0,.x (.one (.p (.val (.string (bs s)))))),(2,.x (.one (.ptr 102 0))),(30,.x (.one (.p (.val (.bool (((s.length:Int)==(0:Int))||((sx s (IntKind.i64.wrap ((s.length:Int)-(1:Int)))) != (10:Int))))))))],mkH [(102,.var [.p (.val (.string (bs ([]:Str)))),.p (pi (0:Int)),.p (pi (0:Int)),.p .nil])]⟩) ?_
    refine lok_c (((s.length:Int)==(0:Int))||((sx s (IntKind.i64.wrap ((s.length:Int)-(1:Int)))) != (10:Int))) ?_ ?_
    · intro b_26
      replace H0:=cpos H0 b_26
      refine lok_rt E0 (⟨140,mkS [(2,.x (.one (.ptr 102 0))),(3,.x (.one (.p (pi (7:Int)))))],mkH [(102,.var [.p (.val (.string (bs ([]:Str)))),.p (pi (0:Int)),.p (pi (0:Int)),.p .nil])]⟩) ?_
      refine lok_ret ?_
      try obtain rfl:=Option.some.inj H0
      try simp only [thenL,blockL]
      exact fin_au _ (.inr rfl) [] (⟨140,mkS [(2,.x (.one (.ptr 102 0))),(3,.x (.one (.p (pi (7:Int)))))],mkH [(102,.var [.p (.val (.string (bs ([]:Str)))),.p (pi (0:Int)),.p (pi (0:Int)),.p (.sl 1 (List.map encL_encS ([]:List (List Str))))])]⟩) rfl rfl imp_au
    · intro b_26
      replace H0:=cneg H0 b_26
      refine lok_skip ?_
      try simp only [thenL,blockL,↓reduceIte,reduceCtorEq]
      replace H0:=req_some H0
      obtain ⟨q_25,H0⟩:=H0
      replace H0:=bind_some H0
      obtain ⟨y,h_0,H0⟩:=H0
      refine lok_rt (Env.of E0 [⟨some 37,52,[.one (.p (.val (.string (bs (List.take (IntKind.i64.wrap ((s.length:Int)-(1:Int))).toNat s))))),.one (.p (.val (.int .u8 (10:Int))))],[],[.one (.p (.sl 1 (List.map encS y)))],[],True,fun _ => ok_ref03_Cut (List.take (IntKind.i64.wrap ((s.length:Int)-(1:Int))).toNat s) (10:Int) y h_0,[]⟩]) (⟨140,mkS [(0,.x (.one (.p (.val (.string (bs s)))))),(2,.x (.one (.ptr 102 0))),(4,.x (.one (.p (.sl 1 (List.map encS y)))))],mkH [(102,.var [.p (.val (.string (bs ([]:Str)))),.p (pi (0:Int)),.p (pi (0:Int)),.p .nil])]⟩) ?_
      refine lok_rt E0 (⟨140,mkS [(0,.x (.one (.p (.val (.string (bs s)))))),(2,.x (.one (.ptr 102 0))),(4,.x (.one (.p (.sl 1 (List.map encS y))))),(5,.x (.one (.p (pi (y.length:Int)))))],mkH [(102,.var [.p (.val (.string (bs ([]:Str)))),.p (pi (0:Int)),.p (pi (0:Int)),.p .nil])]⟩) ?_
      refine lok_seq ?_
      refine lok_rt E0 (⟨140,mkS [(0,.x (.one (.p (.val (.string (bs s)))))),(2,.x (.one (.ptr 102 0))),(4,.x (.one (.p (.sl 1 (List.map encS y))))),(5,.x (.one (.p (pi (y.length:Int))))),(41,.x (.one (.p (.val (.bool (decide ((y.length:Int)<(2:Int))))))))],mkH [(102,.var [.p (.val (.string (bs ([]:Str)))),.p (pi (0:Int)),.p (pi (0:Int)),.p .nil])]⟩) ?_
      refine lok_c (decide ((y.length:Int)<(2:Int))) ?_ ?_
      · intro b_24
        replace H0:=cpos H0 b_24
        refine lok_rt E0 (⟨140,mkS [(2,.x (.one (.ptr 102 0))),(3,.x (.one (.p (pi (7:Int)))))],mkH [(102,.var [.p (.val (.string (bs ([]:Str)))),.p (pi (0:Int)),.p (pi (0:Int)),.p .nil])]⟩) ?_
        refine lok_ret ?_
        try obtain rfl:=Option.some.inj H0
        try simp only [thenL,blockL]
        exact fin_au _ (.inr rfl) [] (⟨140,mkS [(2,.x (.one (.ptr 102 0))),(3,.x (.one (.p (pi (7:Int)))))],mkH [(102,.var [.p (.val (.string (bs ([]:Str)))),.p (pi (0:Int)),.p (pi (0:Int)),.p (.sl 1 (List.map encL_encS ([]:List (List Str))))])]⟩) rfl rfl imp_au
      · intro b_24
        replace H0:=cneg H0 b_24
        refine lok_skip ?_
        try simp only [thenL,blockL,↓reduceIte,reduceCtorEq]
        replace H0:=req_some H0
        obtain ⟨q_23,H0⟩:=H0
        replace H0:=bind_some H0
        obtain ⟨⟨y1,y2⟩,h_1,H0⟩:=H0
        try dsimp only at H0
        refine lok_rt (Env.of E0 [⟨some 47,53,[.one (.p (.val (.string (bs (ix y (0:Int))))))],[],[.agg [.p (.val (.string (bs y1.Kind))),.p (pi y1.Source),.p (pi y1.Number),.p .nil],.one (.p (.val (.bool y2)))],[],True,fun _ => ok_ref03_header (ix y (0:Int)) (y1,y2) h_1,[]⟩]) (⟨140,mkS [(0,.x (.one (.p (.val (.string (bs s)))))),(2,.x (.one (.ptr 102 0))),(4,.x (.one (.p (.sl 1 (List.map encS y))))),(5,.x (.one (.p (pi (y.length:Int))))),(6,.x (.one (.ptr 106 0))),(7,.x (.one (.p (.val (.bool y2)))))],mkH [(102,.var [.p (.val (.string (bs ([]:Str)))),.p (pi (0:Int)),.p (pi (0:Int)),.p .nil]),(106,.var [.p (.val (.string (bs y1.Kind))),.p (pi y1.Source),.p (pi y1.Number),.p .nil])]⟩) ?_
        refine lok_seq ?_
        refine lok_rt E0 (⟨140,mkS [(0,.x (.one (.p (.val (.string (bs s)))))),(2,.x (.one (.ptr 102 0))),(4,.x (.one (.p (.sl 1 (List.map encS y))))),(5,.x (.one (.p (pi (y.length:Int))))),(6,.x (.one (.ptr 106 0))),(51,.x (.one (.p (.val (.bool (!y2))))))],mkH [(102,.var [.p (.val (.string (bs ([]:Str)))),.p (pi (0:Int)),.p (pi (0:Int)),.p .nil]),(106,.var [.p (.val (.string (bs y1.Kind))),.p (pi y1.Source),.p (pi y1.Number),.p .nil])]⟩) ?_
        refine lok_c (!y2) ?_ ?_
        · intro b_22
          replace H0:=cpos H0 b_22
          refine lok_rt E0 (⟨140,mkS [(2,.x (.one (.ptr 102 0))),(3,.x (.one (.p (pi (20:Int)))))],mkH [(102,.var [.p (.val (.string (bs ([]:Str)))),.p (pi (0:Int)),.p (pi (0:Int)),.p .nil])]⟩) ?_
          refine lok_ret ?_
          try obtain rfl:=Option.some.inj H0
          try simp only [thenL,blockL]
          exact fin_au _ (.inr rfl) [] (⟨140,mkS [(2,.x (.one (.ptr 102 0))),(3,.x (.one (.p (pi (20:Int)))))],mkH [(102,.var [.p (.val (.string (bs ([]:Str)))),.p (pi (0:Int)),.p (pi (0:Int)),.p (.sl 1 (List.map encL_encS ([]:List (List Str))))])]⟩) rfl rfl imp_au
        · intro b_22
          replace H0:=cneg H0 b_22
          refine lok_skip ?_
          try simp only [thenL,blockL,↓reduceIte,reduceCtorEq]
          replace H0:=req_some H0
          obtain ⟨q_21,H0⟩:=H0
          replace H0:=bind_some H0
          obtain ⟨y3,h_2,H0⟩:=H0
          refine lok_rt (Env.of E0 [⟨some 58,52,[.one (.p (.val (.string (bs (ix y (IntKind.i64.wrap ((y.length:Int)-(1:Int)))))))),.one (.p (.val (.int .u8 (124:Int))))],[],[.one (.p (.sl 1 (List.map encS y3)))],[],True,fun _ => ok_ref03_Cut (ix y (IntKind.i64.wrap ((y.length:Int)-(1:Int)))) (124:Int) y3 h_2,[]⟩]) (⟨140,mkS [(0,.x (.one (.p (.val (.string (bs s)))))),(2,.x (.one (.ptr 102 0))),(4,.x (.one (.p (.sl 1 (List.map encS y))))),(5,.x (.one (.p (pi (y.length:Int))))),(6,.x (.one (.ptr 106 0))),(8,.x (.one (.p (.sl 1 (List.map encS y3)))))],mkH [(102,.var [.p (.val (.string (bs ([]:Str)))),.p (pi (0:Int)),.p (pi (0:Int)),.p .nil]),(106,.var [.p (.val (.string (bs y1.Kind))),.p (pi y1.Source),.p (pi y1.Number),.p .nil])]⟩) ?_
          refine lok_seq ?_
          replace H0:=req_some H0
          obtain ⟨q_20,H0⟩:=H0
          refine lok_rt E0 (⟨140,mkS [(0,.x (.one (.p (.val (.string (bs s)))))),(2,.x (.one (.ptr 102 0))),(4,.x (.one (.p (.sl 1 (List.map encS y))))),(5,.x (.one (.p (pi (y.length:Int))))),(6,.x (.one (.ptr 106 0))),(8,.x (.one (.p (.sl 1 (List.map encS y3))))),(67,.x (.one (.p (.val (.bool (((y3.length:Int) != (3:Int))||(!((ix y3 (0:Int))==([69,78,68]:Str)))))))))],mkH [(102,.var [.p (.val (.string (bs ([]:Str)))),.p (pi (0:Int)),.p (pi (0:Int)),.p .nil]),(106,.var [.p (.val (.string (bs y1.Kind))),.p (pi y1.Source),.p (pi y1.Number),.p .nil])]⟩) ?_
          refine lok_c (((y3.length:Int) != (3:Int))||(!((ix y3 (0:Int))==([69,78,68]:Str)))) ?_ ?_
          · intro b_19
            replace H0:=cpos H0 b_19
            refine lok_rt E0 (⟨140,mkS [(2,.x (.one (.ptr 102 0))),(3,.x (.one (.p (pi (21:Int)))))],mkH [(102,.var [.p (.val (.string (bs ([]:Str)))),.p (pi (0:Int)),.p (pi (0:Int)),.p .nil])]⟩) ?_
            refine lok_ret ?_
            try obtain rfl:=Option.some.inj H0
            try simp only [thenL,blockL]
            exact fin_au _ (.inr rfl) [] (⟨140,mkS [(2,.x (.one (.ptr 102 0))),(3,.x (.one (.p (pi (21:Int)))))],mkH [(102,.var [.p (.val (.string (bs ([]:Str)))),.p (pi (0:Int)),.p (pi (0:Int)),.p (.sl 1 (List.map encL_encS ([]:List (List Str))))])]⟩) rfl rfl imp_au
          · intro b_19
            replace H0:=cneg H0 b_19
            refine lok_skip ?_
            try simp only [thenL,blockL,↓reduceIte,reduceCtorEq]
            replace H0:=req_some H0
            obtain ⟨q_18,H0⟩:=H0
            replace H0:=bind_some H0
            obtain ⟨⟨y4,y5⟩,h_3,H0⟩:=H0
            try dsimp only at H0
            refine lok_rt (Env.of E0 [⟨some 73,54,[.one (.p (.val (.string (bs (ix y3 (1:Int))))))],[],[.one (.p (pi y4)),.one (.p (.val (.bool y5)))],[],True,fun _ => ok_ref03_number (ix y3 (1:Int)) (y4,y5) h_3,[]⟩]) (⟨140,mkS [(0,.x (.one (.p (.val (.string (bs s)))))),(2,.x (.one (.ptr 102 0))),(4,.x (.one (.p (.sl 1 (List.map encS y))))),(5,.x (.one (.p (pi (y.length:Int))))),(6,.x (.one (.ptr 106 0))),(8,.x (.one (.p (.sl 1 (List.map encS y3))))),(9,.x (.one (.p (pi y4)))),(10,.x (.one (.p (.val (.bool y5)))))],mkH [(102,.var [.p (.val (.string (bs ([]:Str)))),.p (pi (0:Int)),.p (pi (0:Int)),.p .nil]),(106,.var [.p (.val (.string (bs y1.Kind))),.p (pi y1.Source),.p (pi y1.Number),.p .nil])]⟩) ?_
            replace H0:=req_some H0
            obtain ⟨q_17,H0⟩:=H0
            replace H0:=bind_some H0
            obtain ⟨⟨y6,y7⟩,h_4,H0⟩:=H0
            try dsimp only at H0
            refine lok_rt (Env.of E0 [⟨some 80,54,[.one (.p (.val (.string (bs (ix y3 (2:Int))))))],[],[.one (.p (pi y6)),.one (.p (.val (.bool y7)))],[],True,fun _ => ok_ref03_number (ix y3 (2:Int)) (y6,y7) h_4,[]⟩]) (⟨140,mkS [(0,.x (.one (.p (.val (.string (bs s)))))),(2,.x (.one (.ptr 102 0))),(4,.x (.one (.p (.sl 1 (List.map encS y))))),(5,.x (.one (.p (pi (y.length:Int))))),(6,.x (.one (.ptr 106 0))),(9,.x (.one (.p (pi y4)))),(10,.x (.one (.p (.val (.bool y5))))),(11,.x (.one (.p (pi y6)))),(12,.x (.one (.p (.val (.bool y7)))))],mkH [(102,.var [.p (.val (.string (bs ([]:Str)))),.p (pi (0:Int)),.p (pi (0:Int)),.p .nil]),(106,.var [.p (.val (.string (bs y1.Kind))),.p (pi y1.Source),.p (pi y1.Number),.p .nil])]⟩) ?_
            refine lok_seq ?_
            refine lok_rt E0 (⟨140,mkS [(0,.x (.one (.p (.val (.string (bs s)))))),(2,.x (.one (.ptr 102 0))),(4,.x (.one (.p (.sl 1 (List.map encS y))))),(5,.x (.one (.p (pi (y.length:Int))))),(6,.x (.one (.ptr 106 0))),(9,.x (.one (.p (pi y4)))),(11,.x (.one (.p (pi y6)))),(88,.x (.one (.p (.val (.bool ((!y5)||(!y7)))))))],mkH [(102,.var [.p (.val (.string (bs ([]:Str)))),.p (pi (0:Int)),.p (pi (0:Int)),.p .nil]),(106,.var [.p (.val (.string (bs y1.Kind))),.p (pi y1.Source),.p (pi y1.Number),.p .nil])]⟩) ?_
            refine lok_c ((!y5)||(!y7)) ?_ ?_
            · intro b_16
              replace H0:=cpos H0 b_16
              refine lok_rt E0 (⟨140,mkS [(2,.x (.one (.ptr 102 0))),(3,.x (.one (.p (pi (21:Int)))))],mkH [(102,.var [.p (.val (.string (bs ([]:Str)))),.p (pi (0:Int)),.p (pi (0:Int)),.p .nil])]⟩) ?_
              refine lok_ret ?_
              try obtain rfl:=Option.some.inj H0
              try simp only [thenL,blockL]
              exact fin_au _ (.inr rfl) [] (⟨140,mkS [(2,.x (.one (.ptr 102 0))),(3,.x (.one (.p (pi (21:Int)))))],mkH [(102,.var [.p (.val (.string (bs ([]:Str)))),.p (pi (0:Int)),.p (pi (0:Int)),.p (.sl 1 (List.map encL_encS ([]:List (List Str))))])]⟩) rfl rfl imp_au
            · intro b_16
              replace H0:=cneg H0 b_16
              refine lok_skip ?_
              try simp only [thenL,blockL,↓reduceIte,reduceCtorEq]
              refine lok_join (fun x_:(List (List Str)) => ref03_Parse_j1 s y y1 y4 y6 x_=some r_) (fun x_ => ⟨140,mkS [(0,.x (.one (.p (.val (.string (bs s)))))),(2,.x (.one (.ptr 102 0))),(4,.x (.one (.p (.sl 1 (List.map encS y))))),(5,.x (.one (.p (pi (y.length:Int))))),(6,.x (.one (.ptr 106 0))),(9,.x (.one (.p (pi y4)))),(11,.x (.one (.p (pi y6))))],mkH [(102,.var [.p (.val (.string (bs ([]:Str)))),.p (pi (0:Int)),.p (pi (0:Int)),.p .nil]),(106,.var [.p (.val (.string (bs y1.Kind))),.p (pi y1.Source),.p (pi y1.Number),.vw 211]),(211,.arr 1 (List.map encL_encS x_))]⟩) ?hyref03_Parse_j1 ?hxref03_Parse_j1
              case hyref03_Parse_j1 =>
                rintro w H0
                try dsimp only at H0 ⊢
                unfold ref03_Parse_j1 at H0
                refine lok_seq ?_
                refine lok_rt E0 (⟨140,mkS [(0,.x (.one (.p (.val (.string (bs s)))))),(2,.x (.one (.ptr 102 0))),(4,.x (.one (.p (.sl 1 (List.map encS y))))),(5,.x (.one (.p (pi (y.length:Int))))),(6,.x (.one (.ptr 106 0))),(11,.x (.one (.p (pi y6)))),(121,.x (.one (.p (.val (.bool ((y4 != (IntKind.i64.wrap ((y.length:Int)-(2:Int))))||(decide ((40:Int)<(IntKind.i64.wrap ((y.length:Int)-(2:Int)))))))))))],mkH [(102,.var [.p (.val (.string (bs ([]:Str)))),.p (pi (0:Int)),.p (pi (0:Int)),.p .nil]),(106,.var [.p (.val (.string (bs y1.Kind))),.p (pi y1.Source),.p (pi y1.Number),.vw 211]),(211,.arr 1 (List.map encL_encS w))]⟩) ?_
                refine lok_c ((y4 != (IntKind.i64.wrap ((y.length:Int)-(2:Int))))||(decide ((40:Int)<(IntKind.i64.wrap ((y.length:Int)-(2:Int)))))) ?_ ?_
                · intro b_9
                  replace H0:=cpos H0 b_9
                  refine lok_rt E0 (⟨140,mkS [(2,.x (.one (.ptr 102 0))),(3,.x (.one (.p (pi (22:Int)))))],mkH [(102,.var [.p (.val (.string (bs ([]:Str)))),.p (pi (0:Int)),.p (pi (0:Int)),.p .nil])]⟩) ?_
                  refine lok_ret ?_
                  try obtain rfl:=Option.some.inj H0
                  try simp only [thenL,blockL]
                  exact fin_au _ (.inr rfl) [] (⟨140,mkS [(2,.x (.one (.ptr 102 0))),(3,.x (.one (.p (pi (22:Int)))))],mkH [(102,.var [.p (.val (.string (bs ([]:Str)))),.p (pi (0:Int)),.p (pi (0:Int)),.p (.sl 1 (List.map encL_encS ([]:List (List Str))))])]⟩) rfl rfl imp_au
                · intro b_9
                  replace H0:=cneg H0 b_9
                  refine lok_skip ?_
                  try simp only [thenL,blockL,↓reduceIte,reduceCtorEq]
                  refine lok_seq ?_
                  replace H0:=req_some H0
                  obtain ⟨⟨q_7,q_8⟩,H0⟩:=H0
                  replace H0:=bind_some H0
                  obtain ⟨y8,h_5,H0⟩:=H0
                  refine lok_rt (Env.of E0 [⟨some 136,28,[.one (.p (.val (.string (bs (List.take (IntKind.i64.wrap ((IntKind.i64.wrap ((s.length:Int)-(1:Int)))-((ix y (IntKind.i64.wrap ((y.length:Int)-(1:Int)))).length:Int))).toNat s)))))],[],[.one (.p (pi y8))],[],True,fun _ => ok_ref03_Check (List.take (IntKind.i64.wrap ((IntKind.i64.wrap ((s.length:Int)-(1:Int)))-((ix y (IntKind.i64.wrap ((y.length:Int)-(1:Int)))).length:Int))).toNat s) y8 h_5,[]⟩]) (⟨140,mkS [(2,.x (.one (.ptr 102 0))),(6,.x (.one (.ptr 106 0))),(137,.x (.one (.p (.val (.bool (y6 != y8))))))],mkH [(102,.var [.p (.val (.string (bs ([]:Str)))),.p (pi (0:Int)),.p (pi (0:Int)),.p .nil]),(106,.var [.p (.val (.string (bs y1.Kind))),.p (pi y1.Source),.p (pi y1.Number),.vw 211]),(211,.arr 1 (List.map encL_encS w))]⟩) ?_
                  refine lok_c (y6 != y8) ?_ ?_
                  · intro b_6
                    replace H0:=cpos H0 b_6
                    refine lok_rt E0 (⟨140,mkS [(2,.x (.one (.ptr 102 0))),(3,.x (.one (.p (pi (23:Int)))))],mkH [(102,.var [.p (.val (.string (bs ([]:Str)))),.p (pi (0:Int)),.p (pi (0:Int)),.p .nil])]⟩) ?_
                    refine lok_ret ?_
                    try obtain rfl:=Option.some.inj H0
                    try simp only [thenL,blockL]
                    exact fin_au _ (.inr rfl) [] (⟨140,mkS [(2,.x (.one (.ptr 102 0))),(3,.x (.one (.p (pi (23:Int)))))],mkH [(102,.var [.p (.val (.string (bs ([]:Str)))),.p (pi (0:Int)),.p (pi (0:Int)),.p (.sl 1 (List.map encL_encS ([]:List (List Str))))])]⟩) rfl rfl imp_au
                  · intro b_6
                    replace H0:=cneg H0 b_6
                    refine lok_skip ?_
                    try simp only [thenL,blockL,↓reduceIte,reduceCtorEq]
                    refine lok_rt E0 (⟨140,mkS [(2,.x (.one (.ptr 102 0))),(3,.x (.one (.p (pi (0:Int)))))],mkH [(102,.var [.p (.val (.string (bs y1.Kind))),.p (pi y1.Source),.p (pi y1.Number),.vw 211]),(211,.arr 1 (List.map encL_encS w))]⟩) ?_
                    refine lok_ret ?_
                    try obtain rfl:=Option.some.inj H0
                    try simp only [thenL,blockL]
                    exact fin_au _ (.inr rfl) [] (⟨140,mkS [(2,.x (.one (.ptr 102 0))),(3,.x (.one (.p (pi (0:Int)))))],mkH [(102,.var [.p (.val (.string (bs y1.Kind))),.p (pi y1.Source),.p (pi y1.Number),.p (.sl 1 (List.map encL_encS w))])]⟩) rfl rfl (Imp.trans (imp_frz 211 1 (List.map encL_encS w)) imp_au)
              case hxref03_Parse_j1 =>
                refine lok_rt E0 (⟨140,mkS [(0,.x (.one (.p (.val (.string (bs s)))))),(2,.x (.one (.ptr 102 0))),(4,.x (.one (.p (.sl 1 (List.map encS y))))),(5,.x (.one (.p (pi (y.length:Int))))),(6,.x (.one (.ptr 106 0))),(9,.x (.one (.p (pi y4)))),(11,.x (.one (.p (pi y6)))),(13,.x (.one (.p (pi (1:Int)))))],mkH [(102,.var [.p (.val (.string (bs ([]:Str)))),.p (pi (0:Int)),.p (pi (0:Int)),.p .nil]),(106,.var [.p (.val (.string (bs y1.Kind))),.p (pi y1.Source),.p (pi y1.Number),.p .nil])]⟩) ?_
                refine lok_block ?_
                replace H0:=bind_some H0
                obtain ⟨v_10,hv_10,H0⟩:=H0
                refine lok_iter (fun x_ => ⟨140,mkS [(0,.x (.one (.p (.val (.string (bs s)))))),(2,.x (.one (.ptr 102 0))),(4,.x (.one (.p (.sl 1 (List.map encS y))))),(5,.x (.one (.p (pi (y.length:Int))))),(6,.x (.one (.ptr 106 0))),(9,.x (.one (.p (pi y4)))),(11,.x (.one (.p (pi y6)))),(13,.x (.one (.p (pi x_.1))))],mkH [(102,.var [.p (.val (.string (bs ([]:Str)))),.p (pi (0:Int)),.p (pi (0:Int)),.p .nil]),(106,.var [.p (.val (.string (bs y1.Kind))),.p (pi y1.Source),.p (pi y1.Number),.vw 211]),(211,.arr 1 (List.map encL_encS x_.2))]⟩) hv_10 imp_au ?_
                · rintro ⟨i,w1⟩ o_1 H1 k_1
                  unfold ref03_Parse_l2 at H1
                  try dsimp only at H1 ⊢
                  refine lok_seq ?_
                  refine lok_rt E0 (⟨140,mkS [(0,.x (.one (.p (.val (.string (bs s)))))),(2,.x (.one (.ptr 102 0))),(4,.x (.one (.p (.sl 1 (List.map encS y))))),(5,.x (.one (.p (pi (y.length:Int))))),(6,.x (.one (.ptr 106 0))),(9,.x (.one (.p (pi y4)))),(11,.x (.one (.p (pi y6)))),(13,.x (.one (.p (pi i)))),(93,.x (.one (.p (.val (.bool (decide (i<(IntKind.i64.wrap ((y.length:Int)-(1:Int))))))))))],mkH [(102,.var [.p (.val (.string (bs ([]:Str)))),.p (pi (0:Int)),.p (pi (0:Int)),.p .nil]),(106,.var [.p (.val (.string (bs y1.Kind))),.p (pi y1.Source),.p (pi y1.Number),.vw 211]),(211,.arr 1 (List.map encL_encS w1))]⟩) ?_
                  refine lok_c (decide (i<(IntKind.i64.wrap ((y.length:Int)-(1:Int))))) ?_ ?_
                  · intro b_15
                    replace H1:=cpos H1 b_15
                    refine lok_skip ?_
                    try simp only [thenL,blockL,↓reduceIte,reduceCtorEq]
                    refine lok_seq ?_
                    refine lok_block ?_
                    replace H1:=req_some H1
                    obtain ⟨q_14,H1⟩:=H1
                    replace H1:=bind_some H1
                    obtain ⟨⟨y9,y10⟩,h_11,H1⟩:=H1
                    try dsimp only at H1
                    refine lok_rt (Env.of E0 [⟨some 101,55,[.one (.p (.val (.string (bs (ix y i)))))],[],[.one (.p (.sl 1 (List.map encS y9))),.one (.p (.val (.bool y10)))],[],True,fun _ => ok_ref03_row (ix y i) (y9,y10) h_11,[]⟩]) (⟨140,mkS [(0,.x (.one (.p (.val (.string (bs s)))))),(2,.x (.one (.ptr 102 0))),(4,.x (.one (.p (.sl 1 (List.map encS y))))),(5,.x (.one (.p (pi (y.length:Int))))),(6,.x (.one (.ptr 106 0))),(9,.x (.one (.p (pi y4)))),(11,.x (.one (.p (pi y6)))),(13,.x (.one (.p (pi i)))),(14,.x (.one (.p (.sl 1 (List.map encS y9))))),(15,.x (.one (.p (.val (.bool y10)))))],mkH [(102,.var [.p (.val (.string (bs ([]:Str)))),.p (pi (0:Int)),.p (pi (0:Int)),.p .nil]),(106,.var [.p (.val (.string (bs y1.Kind))),.p (pi y1.Source),.p (pi y1.Number),.vw 211]),(211,.arr 1 (List.map encL_encS w1))]⟩) ?_
                    refine lok_seq ?_
                    refine lok_rt E0 (⟨140,mkS [(0,.x (.one (.p (.val (.string (bs s)))))),(2,.x (.one (.ptr 102 0))),(4,.x (.one (.p (.sl 1 (List.map encS y))))),(5,.x (.one (.p (pi (y.length:Int))))),(6,.x (.one (.ptr 106 0))),(9,.x (.one (.p (pi y4)))),(11,.x (.one (.p (pi y6)))),(13,.x (.one (.p (pi i)))),(14,.x (.one (.p (.sl 1 (List.map encS y9))))),(105,.x (.one (.p (.val (.bool (!y10))))))],mkH [(102,.var [.p (.val (.string (bs ([]:Str)))),.p (pi (0:Int)),.p (pi (0:Int)),.p .nil]),(106,.var [.p (.val (.string (bs y1.Kind))),.p (pi y1.Source),.p (pi y1.Number),.vw 211]),(211,.arr 1 (List.map encL_encS w1))]⟩) ?_
                    refine lok_c (!y10) ?_ ?_
                    · intro b_13
                      replace H1:=cpos H1 b_13
                      refine lok_rt E0 (⟨140,mkS [(2,.x (.one (.ptr 102 0))),(3,.x (.one (.p (pi (7:Int)))))],mkH [(102,.var [.p (.val (.string (bs ([]:Str)))),.p (pi (0:Int)),.p (pi (0:Int)),.p .nil])]⟩) ?_
                      refine lok_ret ?_
                      try simp only [thenL,blockL,↓reduceIte,reduceCtorEq]
                      have e_1:=k_1 _ (Option.some.inj H1).symm
                      subst e_1
                      try dsimp only at H0
                      try obtain rfl:=Option.some.inj H0
                      try simp only [thenL,blockL]
                      exact fin_au _ (.inr rfl) [] (⟨140,mkS [(2,.x (.one (.ptr 102 0))),(3,.x (.one (.p (pi (7:Int)))))],mkH [(102,.var [.p (.val (.string (bs ([]:Str)))),.p (pi (0:Int)),.p (pi (0:Int)),.p (.sl 1 (List.map encL_encS ([]:List (List Str))))])]⟩) rfl rfl imp_au
                    · intro b_13
                      replace H1:=cneg H1 b_13
                      refine lok_skip ?_
                      try simp only [thenL,blockL,↓reduceIte,reduceCtorEq]
                      replace H1:=req_some H1
                      obtain ⟨q_12,H1⟩:=H1
                      refine lok_rl E0 (⟨140,mkS [(0,.x (.one (.p (.val (.string (bs s)))))),(2,.x (.one (.ptr 102 0))),(4,.x (.one (.p (.sl 1 (List.map encS y))))),(5,.x (.one (.p (pi (y.length:Int))))),(6,.x (.one (.ptr 106 0))),(9,.x (.one (.p (pi y4)))),(11,.x (.one (.p (pi y6)))),(13,.x (.one (.p (pi i))))],mkH [(102,.var [.p (.val (.string (bs ([]:Str)))),.p (pi (0:Int)),.p (pi (0:Int)),.p .nil]),(106,.var [.p (.val (.string (bs y1.Kind))),.p (pi y1.Source),.p (pi y1.Number),.vw 211]),(211,.arr 1 (List.map encL_encS (w1 ++ [y9])))]⟩) ?_
                      try simp only [thenL,blockL,↓reduceIte,reduceCtorEq]
                      refine lok_rl E0 (⟨140,mkS [(0,.x (.one (.p (.val (.string (bs s)))))),(2,.x (.one (.ptr 102 0))),(4,.x (.one (.p (.sl 1 (List.map encS y))))),(5,.x (.one (.p (pi (y.length:Int))))),(6,.x (.one (.ptr 106 0))),(9,.x (.one (.p (pi y4)))),(11,.x (.one (.p (pi y6)))),(13,.x (.one (.p (pi (IntKind.i64.wrap (i+(1:Int)))))))],mkH [(102,.var [.p (.val (.string (bs ([]:Str)))),.p (pi (0:Int)),.p (pi (0:Int)),.p .nil]),(106,.var [.p (.val (.string (bs y1.Kind))),.p (pi y1.Source),.p (pi y1.Number),.vw 211]),(211,.arr 1 (List.map encL_encS (w1 ++ [y9])))]⟩) ?_
                      try simp only [thenL,blockL,↓reduceIte,reduceCtorEq]
                      exact ⟨((IntKind.i64.wrap (i+(1:Int))),(w1 ++ [y9])),(Option.some.inj H1).symm,imp_au⟩
                  · intro b_15
                    replace H1:=cneg H1 b_15
                    refine lok_exit ?_
                    try simp only [thenL,blockL,↓reduceIte,reduceCtorEq]
                    have e_1:=k_1 _ (Option.some.inj H1).symm
                    subst e_1
                    try dsimp only at H0
                    try simp only [thenL,blockL,↓reduceIte,reduceCtorEq]
                    exact ⟨w1,H0,imp_au⟩
theorem ok_law03_ExchangeParses (s:Str) (r_:Bool) (H0:law03_ExchangeParses s=some r_):CallOK Tryd.prog 5 [.one (.p (.val (.string (bs s))))] [] [.one (.p (.val (.bool r_)))] []:=by
  refine callOK (n:=31) (rs:=[.tmp 2]) (nb:=0) (V:=[]) Tryd.func5 rfl (by kernel_rfl) rfl rfl rfl rfl (Nat.le_of_ble_eq_true rfl) (by decide) ?_
  unfold law03_ExchangeParses at H0
  refine lok_rt E0 (⟨31,mkS [(0,.x (.one (.p (.val (.string (bs s))))))],mkH []⟩) ?_
  refine lok_seq ?_
  refine lok_rt E0 (⟨31,mkS [(0,.x (.one (.p (.val (.string (bs s)))))),(9,.x (.one (.p (.val (.bool (decide ((300:Int)<(s.length:Int))))))))],mkH []⟩) ?_
  refine lok_c (decide ((300:Int)<(s.length:Int))) ?_ ?_
  · intro b_4
    replace H0:=cpos H0 b_4
    refine lok_rt E0 (⟨31,mkS [(2,.x (.one (.p (.val (.bool true)))))],mkH []⟩) ?_
    refine lok_ret ?_
    try obtain rfl:=Option.some.inj H0
    try simp only [thenL,blockL]
    exact fin_au _ (.inr rfl) [] (⟨31,mkS [(2,.x (.one (.p (.val (.bool true)))))],mkH []⟩) rfl rfl imp_au
  · intro b_4
    replace H0:=cneg H0 b_4
    refine lok_skip ?_
    try simp only [thenL,blockL,↓reduceIte,reduceCtorEq]
    replace H0:=bind_some H0
    obtain ⟨⟨y,y1⟩,h_0,H0⟩:=H0
    try dsimp only at H0
    refine lok_rt (Env.of E0 [⟨some 12,21,[.one (.p (.val (.string (bs s))))],[],[.agg [.p (.val (.string (bs y.Kind))),.p (pi y.Source),.p (pi y.Number),.p (.sl 1 (List.map encL_encS y.Rows))],.one (.p (pi y1))],[],True,fun _ => ok_exchange_Parse s (y,y1) h_0,[]⟩]) (⟨31,mkS [(0,.x (.one (.p (.val (.string (bs s)))))),(3,.x (.one (.ptr 103 0))),(4,.x (.one (.p (pi y1))))],mkH [(103,.var [.p (.val (.string (bs y.Kind))),.p (pi y.Source),.p (pi y.Number),.p (.sl 1 (List.map encL_encS y.Rows))])]⟩) ?_
    replace H0:=bind_some H0
    obtain ⟨⟨y2,y3⟩,h_1,H0⟩:=H0
    try dsimp only at H0
    refine lok_rt (Env.of E0 [⟨some 17,23,[.one (.p (.val (.string (bs s))))],[],[.agg [.p (.val (.string (bs y2.Kind))),.p (pi y2.Source),.p (pi y2.Number),.p (.sl 1 (List.map encL_encS y2.Rows))],.one (.p (pi y3))],[],True,fun _ => ok_ref03_Parse s (y2,y3) h_1,[]⟩]) (⟨31,mkS [(3,.x (.one (.ptr 103 0))),(4,.x (.one (.p (pi y1)))),(5,.x (.one (.ptr 105 0))),(6,.x (.one (.p (pi y3))))],mkH [(103,.var [.p (.val (.string (bs y.Kind))),.p (pi y.Source),.p (pi y.Number),.p (.sl 1 (List.map encL_encS y.Rows))]),(105,.var [.p (.val (.string (bs y2.Kind))),.p (pi y2.Source),.p (pi y2.Number),.p (.sl 1 (List.map encL_encS y2.Rows))])]⟩) ?_
    replace H0:=bind_some H0
    obtain ⟨y4,h_2,H0⟩:=H0
    replace H0:=req_some H0
    obtain ⟨q_3,H0⟩:=H0
    refine lok_rt (Env.of E0 [⟨some 22,22,[.agg [.p (.val (.string (bs y.Kind))),.p (pi y.Source),.p (pi y.Number),.p (.sl 1 (List.map encL_encS y.Rows))],.agg [.p (.val (.string (bs y2.Kind))),.p (pi y2.Source),.p (pi y2.Number),.p (.sl 1 (List.map encL_encS y2.Rows))]],[],[.one (.p (.val (.bool y4)))],[],True,fun _ => ok_law03_same y y2 y4 h_2,[]⟩,
      ⟨some 29,19,[],[],[.one (.p (.val (.bool ((law03_awake).getD default))))],[],(law03_awake).isSome=true,fun h => ok_law03_awake _ (isSome_get h),[]⟩]) (⟨31,mkS [(2,.x (.one (.p (.val (.bool ((y4&&(y1==y3))&&((law03_awake).getD default)))))))],mkH []⟩) ?_
    refine lok_ret ?_
    try obtain rfl:=Option.some.inj H0
    try simp only [thenL,blockL]
    exact fin_au _ (.inr rfl) [] (⟨31,mkS [(2,.x (.one (.p (.val (.bool ((y4&&(y1==y3))&&((law03_awake).getD default)))))))],mkH []⟩) rfl rfl imp_au
theorem ok_law03_mended (s:Str) (r_:Str) (H0:law03_mended s=some r_):CallOK Tryd.prog 26 [.one (.p (.val (.string (bs s))))] [] [.one (.p (.val (.string (bs r_))))] []:=by
  refine callOK (n:=47) (rs:=[.tmp 2]) (nb:=0) (V:=[]) Tryd.func26 rfl (by kernel_rfl) rfl rfl rfl rfl (Nat.le_of_ble_eq_true rfl) (by decide) ?_
  unfold law03_mended at H0
  refine lok_rt E0 (⟨47,mkS [(0,.x (.one (.p (.val (.string (bs s))))))],mkH []⟩) ?_
  refine lok_rt E0 (⟨47,mkS [(0,.x (.one (.p (.val (.string (bs s)))))),(3,.x (.one (.p (pi (IntKind.i64.wrap ((s.length:Int)-(1:Int)))))))],mkH []⟩) ?_
  refine lok_join (fun x_:Int => law03_mended_j1 s x_=some r_) (fun x_ => ⟨47,mkS [(0,.x (.one (.p (.val (.string (bs s)))))),(3,.x (.one (.p (pi x_))))],mkH []⟩) ?hylaw03_mended_j1 ?hxlaw03_mended_j1
  case hylaw03_mended_j1 =>
    rintro at_ H0
    try dsimp only at H0 ⊢
    unfold law03_mended_j1 at H0
    replace H0:=req_some H0
    obtain ⟨q_14,H0⟩:=H0
    replace H0:=bind_some H0
    obtain ⟨y,h_0,H0⟩:=H0
    refine lok_rt (Env.of E0 [⟨some 22,52,[.one (.p (.val (.string (bs (List.drop at_.toNat s))))),.one (.p (.val (.int .u8 (124:Int))))],[],[.one (.p (.sl 1 (List.map encS y)))],[],True,fun _ => ok_ref03_Cut (List.drop at_.toNat s) (124:Int) y h_0,[]⟩]) (⟨47,mkS [(0,.x (.one (.p (.val (.string (bs s)))))),(3,.x (.one (.p (pi at_)))),(4,.x (.one (.p (.sl 1 (List.map encS y)))))],mkH []⟩) ?_
    refine lok_seq ?_
    refine lok_rt E0 (⟨47,mkS [(0,.x (.one (.p (.val (.string (bs s)))))),(3,.x (.one (.p (pi at_)))),(4,.x (.one (.p (.sl 1 (List.map encS y))))),(25,.x (.one (.p (.val (.bool ((y.length:Int) != (3:Int)))))))],mkH []⟩) ?_
    refine lok_c ((y.length:Int) != (3:Int)) ?_ ?_
    · intro b_13
      replace H0:=cpos H0 b_13
      refine lok_rt E0 (⟨47,mkS [(2,.x (.one (.p (.val (.string (bs s))))))],mkH []⟩) ?_
      refine lok_ret ?_
      try obtain rfl:=Option.some.inj H0
      try simp only [thenL,blockL]
      exact fin_au _ (.inr rfl) [] (⟨47,mkS [(2,.x (.one (.p (.val (.string (bs s))))))],mkH []⟩) rfl rfl imp_au
    · intro b_13
      replace H0:=cneg H0 b_13
      refine lok_skip ?_
      try simp only [thenL,blockL,↓reduceIte,reduceCtorEq]
      replace H0:=req_some H0
      obtain ⟨⟨q_4,q_5,q_6,q_7,q_8,q_9,q_10⟩,H0⟩:=H0
      replace H0:=bind_some H0
      obtain ⟨y1,h_1,H0⟩:=H0
      replace H0:=bind_some H0
      obtain ⟨y2,h_2,H0⟩:=H0
      replace H0:=req_some H0
      obtain ⟨⟨q_11,q_12⟩,H0⟩:=H0
      replace H0:=bindV_some H0
      obtain ⟨v,a_3,H0⟩:=H0
      refine lok_dtg (Env.of E0 [⟨some 43,28,[.one (.p (.val (.string (bs (List.take at_.toNat s)))))],[],[.one (.p (pi y1))],[],True,fun _ => ok_ref03_Check (List.take at_.toNat s) y1 h_1,[]⟩,
      ⟨some 44,42,[.one (.p (pi y1))],[],[.one (.p (.val (.string (bs y2))))],[],True,fun _ => ok_ref03_Decimal y1 y2 h_2,[]⟩]) 18 a_3 (⟨47,mkS [(2,.x (.one (.p (.val (.string (bs v))))))],mkH []⟩) (by kernel_rfl) (by kernel_rfl) ?_
      refine lok_ret ?_
      try obtain rfl:=Option.some.inj H0
      try simp only [thenL,blockL]
      exact fin_au _ (.inr rfl) [] (⟨47,mkS [(2,.x (.one (.p (.val (.string (bs v))))))],mkH []⟩) rfl rfl imp_au
  case hxlaw03_mended_j1 =>
    refine lok_block ?_
    replace H0:=bind_some H0
    obtain ⟨v_15,hv_15,H0⟩:=H0
    refine lok_iter (fun x_ => ⟨47,mkS [(0,.x (.one (.p (.val (.string (bs s)))))),(3,.x (.one (.p (pi x_))))],mkH []⟩) hv_15 imp_au ?_
    · rintro at_1 o_1 H1 k_1
      unfold law03_mended_l2 at H1
      try dsimp only at H1 ⊢
      refine lok_seq ?_
      replace H1:=req_some H1
      obtain ⟨q_17,H1⟩:=H1
      refine lok_rt E0 (⟨47,mkS [(0,.x (.one (.p (.val (.string (bs s)))))),(3,.x (.one (.p (pi at_1)))),(16,.x (.one (.p (.val (.bool ((decide ((0:Int)<at_1))&&((sx s (IntKind.i64.wrap (at_1-(1:Int)))) != (10:Int))))))))],mkH []⟩) ?_
      refine lok_c ((decide ((0:Int)<at_1))&&((sx s (IntKind.i64.wrap (at_1-(1:Int)))) != (10:Int))) ?_ ?_
      · intro b_16
        replace H1:=cpos H1 b_16
        refine lok_skip ?_
        try simp only [thenL,blockL,↓reduceIte,reduceCtorEq]
        refine lok_block ?_
        refine lok_rl E0 (⟨47,mkS [(0,.x (.one (.p (.val (.string (bs s)))))),(3,.x (.one (.p (pi (IntKind.i64.wrap (at_1-(1:Int)))))))],mkH []⟩) ?_
        try simp only [thenL,blockL,↓reduceIte,reduceCtorEq]
        exact ⟨(IntKind.i64.wrap (at_1-(1:Int))),(Option.some.inj H1).symm,imp_au⟩
      · intro b_16
        replace H1:=cneg H1 b_16
        refine lok_exit ?_
        try simp only [thenL,blockL,↓reduceIte,reduceCtorEq]
        have e_1:=k_1 _ (Option.some.inj H1).symm
        subst e_1
        try dsimp only at H0
        try simp only [thenL,blockL,↓reduceIte,reduceCtorEq]
        exact ⟨at_1,H0,imp_au⟩
set_option maxHeartbeats 4000000 in
theorem ok_law03_ExchangeReads (t:List Int) (r_:Bool) (H0:law03_ExchangeReads t=some r_):CallOK Tryd.prog 6 [.one (.p (.sl 1 (List.map encI t)))] [] [.one (.p (.val (.bool r_)))] []:=by
  refine callOK (n:=98) (rs:=[.tmp 2]) (nb:=0) (V:=[]) Tryd.func6 rfl (by kernel_rfl) rfl rfl rfl rfl (Nat.le_of_ble_eq_true rfl) (by decide) ?_
  unfold law03_ExchangeReads at H0
  refine lok_rt E0 (⟨98,mkS [(0,.x (.one (.p (.sl 1 (List.map encI t)))))],mkH []⟩) ?_
  replace H0:=bind_some H0
  obtain ⟨y,h_0,H0⟩:=H0
  refine lok_rt (Env.of E0 [⟨some 14,13,[.one (.p (.sl 1 (List.map encI t)))],[],[.one (.ptr 0 0)],[some (.var [.p (.sl 1 (List.map encI y.L)),.p (pi y.At)])],True,fun _ => ok_make_New t y h_0,[]⟩]) (⟨98,mkS [(3,.x (.one (.ptr 1014 0)))],mkH [(1014,.var [.p (.sl 1 (List.map encI y.L)),.p (pi y.At)])]⟩) ?_
  replace H0:=bind_some H0
  obtain ⟨⟨y1,y2⟩,h_1,H0⟩:=H0
  try dsimp only at H0
  replace H0:=bind_some H0
  obtain ⟨⟨y3,y4⟩,h_2,H0⟩:=H0
  try dsimp only at H0
  refine lok_rt (Env.of E0 [⟨some 17,14,[.one (.ptr 0 0),.one (.p (pi (0:Int)))],[.var [.p (.sl 1 (List.map encI y.L)),.p (pi y.At)]],[.agg [.p (.val (.string (bs y1.Kind))),.p (pi y1.Source),.p (pi y1.Number),.p (.sl 1 (List.map encL_encS y1.Rows))]],[some (.var [.p (.sl 1 (List.map encI y2.L)),.p (pi y2.At)])],True,fun _ => ok_make_Tape_File y (0:Int) (y1,y2) h_1,[]⟩,
      ⟨some 18,16,[.agg [.p (.val (.string (bs y1.Kind))),.p (pi y1.Source),.p (pi y1.Number),.p (.sl 1 (List.map encL_encS y1.Rows))]],[],[.one (.p (.val (.string (bs y3)))),.one (.p (pi y4))],[],True,fun _ => ok_ref03_Format y1 (y3,y4) h_2,[]⟩]) (⟨98,mkS [(3,.x (.one (.ptr 1014 0))),(4,.x (.one (.p (.val (.string (bs y3))))))],mkH [(1014,.var [.p (.sl 1 (List.map encI y2.L)),.p (pi y2.At)])]⟩) ?_
  refine lok_join (fun x_:Str × (List Int) × Int => law03_ExchangeReads_j2 x_.1 x_.2.1 x_.2.2=some r_) (fun x_ => ⟨98,mkS [(3,.x (.one (.ptr 1014 0))),(4,.x (.one (.p (.val (.string (bs x_.1))))))],mkH [(1014,.var [.p (.sl 1 (List.map encI x_.2.1)),.p (pi x_.2.2)])]⟩) ?hylaw03_ExchangeReads_j2 ?hxlaw03_ExchangeReads_j2
  case hylaw03_ExchangeReads_j2 =>
    rintro ⟨s,w,w1⟩ H0
    try dsimp only at H0 ⊢
    unfold law03_ExchangeReads_j2 at H0
    refine lok_join (fun x_:Str => law03_ExchangeReads_j1 x_=some r_) (fun x_ => ⟨98,mkS [(4,.x (.one (.p (.val (.string (bs x_))))))],mkH []⟩) ?hylaw03_ExchangeReads_j1 ?hxlaw03_ExchangeReads_j1
    case hylaw03_ExchangeReads_j1 =>
      rintro s1 H0
      try dsimp only at H0 ⊢
      unfold law03_ExchangeReads_j1 at H0
      replace H0:=bind_some H0
      obtain ⟨⟨y5,y6⟩,h_3,H0⟩:=H0
      try dsimp only at H0
      refine lok_rt (Env.of E0 [⟨some 79,21,[.one (.p (.val (.string (bs s1))))],[],[.agg [.p (.val (.string (bs y5.Kind))),.p (pi y5.Source),.p (pi y5.Number),.p (.sl 1 (List.map encL_encS y5.Rows))],.one (.p (pi y6))],[],True,fun _ => ok_exchange_Parse s1 (y5,y6) h_3,[]⟩]) (⟨98,mkS [(4,.x (.one (.p (.val (.string (bs s1)))))),(9,.x (.one (.ptr 109 0))),(10,.x (.one (.p (pi y6))))],mkH [(109,.var [.p (.val (.string (bs y5.Kind))),.p (pi y5.Source),.p (pi y5.Number),.p (.sl 1 (List.map encL_encS y5.Rows))])]⟩) ?_
      replace H0:=bind_some H0
      obtain ⟨⟨y7,y8⟩,h_4,H0⟩:=H0
      try dsimp only at H0
      refine lok_rt (Env.of E0 [⟨some 84,23,[.one (.p (.val (.string (bs s1))))],[],[.agg [.p (.val (.string (bs y7.Kind))),.p (pi y7.Source),.p (pi y7.Number),.p (.sl 1 (List.map encL_encS y7.Rows))],.one (.p (pi y8))],[],True,fun _ => ok_ref03_Parse s1 (y7,y8) h_4,[]⟩]) (⟨98,mkS [(9,.x (.one (.ptr 109 0))),(10,.x (.one (.p (pi y6)))),(11,.x (.one (.ptr 111 0))),(12,.x (.one (.p (pi y8))))],mkH [(109,.var [.p (.val (.string (bs y5.Kind))),.p (pi y5.Source),.p (pi y5.Number),.p (.sl 1 (List.map encL_encS y5.Rows))]),(111,.var [.p (.val (.string (bs y7.Kind))),.p (pi y7.Source),.p (pi y7.Number),.p (.sl 1 (List.map encL_encS y7.Rows))])]⟩) ?_
      replace H0:=bind_some H0
      obtain ⟨y9,h_5,H0⟩:=H0
      replace H0:=req_some H0
      obtain ⟨q_6,H0⟩:=H0
      refine lok_rt (Env.of E0 [⟨some 89,22,[.agg [.p (.val (.string (bs y5.Kind))),.p (pi y5.Source),.p (pi y5.Number),.p (.sl 1 (List.map encL_encS y5.Rows))],.agg [.p (.val (.string (bs y7.Kind))),.p (pi y7.Source),.p (pi y7.Number),.p (.sl 1 (List.map encL_encS y7.Rows))]],[],[.one (.p (.val (.bool y9)))],[],True,fun _ => ok_law03_same y5 y7 y9 h_5,[]⟩,
      ⟨some 96,19,[],[],[.one (.p (.val (.bool ((law03_awake).getD default))))],[],(law03_awake).isSome=true,fun h => ok_law03_awake _ (isSome_get h),[]⟩]) (⟨98,mkS [(2,.x (.one (.p (.val (.bool ((y9&&(y6==y8))&&((law03_awake).getD default)))))))],mkH []⟩) ?_
      refine lok_ret ?_
      try obtain rfl:=Option.some.inj H0
      try simp only [thenL,blockL]
      exact fin_au _ (.inr rfl) [] (⟨98,mkS [(2,.x (.one (.p (.val (.bool ((y9&&(y6==y8))&&((law03_awake).getD default)))))))],mkH []⟩) rfl rfl imp_au
    case hxlaw03_ExchangeReads_j1 =>
      replace H0:=bind_some H0
      obtain ⟨⟨y10,y11⟩,h_7,H0⟩:=H0
      try dsimp only at H0
      refine lok_rt (Env.of E0 [⟨some 73,25,[.one (.ptr 0 0),.one (.p (pi (2:Int)))],[.var [.p (.sl 1 (List.map encI w)),.p (pi w1)]],[.one (.p (pi y10))],[some (.var [.p (.sl 1 (List.map encI y11.L)),.p (pi y11.At)])],True,fun _ => ok_make_Tape_Next (make_Tape.mk w w1) (2:Int) (y10,y11) h_7,[]⟩]) (⟨98,mkS [(4,.x (.one (.p (.val (.string (bs s)))))),(74,.x (.one (.p (.val (.bool (y10==(1:Int)))))))],mkH []⟩) ?_
      refine lok_c (y10==(1:Int)) ?_ ?_
      · intro b_9
        replace H0:=cpos H0 b_9
        replace H0:=bind_some H0
        obtain ⟨y12,h_8,H0⟩:=H0
        refine lok_rl (Env.of E0 [⟨some 76,26,[.one (.p (.val (.string (bs s))))],[],[.one (.p (.val (.string (bs y12))))],[],True,fun _ => ok_law03_mended s y12 h_8,[]⟩]) (⟨98,mkS [(4,.x (.one (.p (.val (.string (bs y12))))))],mkH []⟩) ?_
        try simp only [thenL,blockL,↓reduceIte,reduceCtorEq]
        exact ⟨y12,H0,imp_au⟩
      · intro b_9
        replace H0:=cneg H0 b_9
        refine lok_skip ?_
        try simp only [thenL,blockL,↓reduceIte,reduceCtorEq]
        exact ⟨s,H0,imp_au⟩
  case hxlaw03_ExchangeReads_j2 =>
    replace H0:=bind_some H0
    obtain ⟨⟨y13,y14⟩,h_10,H0⟩:=H0
    try dsimp only at H0
    refine lok_rt (Env.of E0 [⟨some 22,24,[.one (.ptr 0 0),.one (.p (pi (0:Int))),.one (.p (pi (2:Int)))],[.var [.p (.sl 1 (List.map encI y2.L)),.p (pi y2.At)]],[.one (.p (pi y13))],[some (.var [.p (.sl 1 (List.map encI y14.L)),.p (pi y14.At)])],True,fun _ => ok_make_Tape_Range y2 (0:Int) (2:Int) (y13,y14) h_10,[]⟩]) (⟨98,mkS [(3,.x (.one (.ptr 1014 0))),(4,.x (.one (.p (.val (.string (bs y3)))))),(6,.x (.one (.p (pi y13))))],mkH [(1014,.var [.p (.sl 1 (List.map encI y14.L)),.p (pi y14.At)])]⟩) ?_
    refine lok_block ?_
    replace H0:=bind_some H0
    obtain ⟨v_11,hv_11,H0⟩:=H0
    refine lok_iter (fun x_ => ⟨98,mkS [(3,.x (.one (.ptr 1014 0))),(4,.x (.one (.p (.val (.string (bs x_.1)))))),(6,.x (.one (.p (pi x_.2.1))))],mkH [(1014,.var [.p (.sl 1 (List.map encI x_.2.2.1)),.p (pi x_.2.2.2)])]⟩) hv_11 imp_au ?_
    · rintro ⟨s2,i,w2,w3⟩ o_1 H1 k_1
      unfold law03_ExchangeReads_l4 at H1
      try dsimp only at H1 ⊢
      refine lok_seq ?_
      refine lok_rt E0 (⟨98,mkS [(3,.x (.one (.ptr 1014 0))),(4,.x (.one (.p (.val (.string (bs s2)))))),(6,.x (.one (.p (pi i)))),(24,.x (.one (.p (.val (.bool (decide ((0:Int)<i)))))))],mkH [(1014,.var [.p (.sl 1 (List.map encI w2)),.p (pi w3)])]⟩) ?_
      refine lok_c (decide ((0:Int)<i)) ?_ ?_
      · intro b_32
        replace H1:=cpos H1 b_32
        refine lok_skip ?_
        try simp only [thenL,blockL,↓reduceIte,reduceCtorEq]
        refine lok_join (fun x_:Str × (List Int) × Int => law03_ExchangeReads_j3 i x_.1 x_.2.1 x_.2.2=some o_1) (fun x_ => ⟨98,mkS [(3,.x (.one (.ptr 1014 0))),(4,.x (.one (.p (.val (.string (bs x_.1)))))),(6,.x (.one (.p (pi i))))],mkH [(1014,.var [.p (.sl 1 (List.map encI x_.2.1)),.p (pi x_.2.2)])]⟩) ?hylaw03_ExchangeReads_j3 ?hxlaw03_ExchangeReads_j3
        case hylaw03_ExchangeReads_j3 =>
          rintro ⟨s4,w6,w7⟩ H1
          try dsimp only at H1 ⊢
          unfold law03_ExchangeReads_j3 at H1
          refine lok_rl E0 (⟨98,mkS [(3,.x (.one (.ptr 1014 0))),(4,.x (.one (.p (.val (.string (bs s4)))))),(6,.x (.one (.p (pi (IntKind.i64.wrap (i-(1:Int)))))))],mkH [(1014,.var [.p (.sl 1 (List.map encI w6)),.p (pi w7)])]⟩) ?_
          try simp only [thenL,blockL,↓reduceIte,reduceCtorEq]
          exact ⟨(s4,(IntKind.i64.wrap (i-(1:Int))),w6,w7),(Option.some.inj H1).symm,imp_au⟩
        case hxlaw03_ExchangeReads_j3 =>
          refine lok_block ?_
          replace H1:=bind_some H1
          obtain ⟨⟨y15,y16⟩,h_12,H1⟩:=H1
          try dsimp only at H1
          replace H1:=bind_some H1
          obtain ⟨⟨y17,y18⟩,h_13,H1⟩:=H1
          try dsimp only at H1
          refine lok_rt (Env.of E0 [⟨some 30,25,[.one (.ptr 0 0),.one (.p (pi (s2.length:Int)))],[.var [.p (.sl 1 (List.map encI w2)),.p (pi w3)]],[.one (.p (pi y15))],[some (.var [.p (.sl 1 (List.map encI y16.L)),.p (pi y16.At)])],True,fun _ => ok_make_Tape_Next (make_Tape.mk w2 w3) (s2.length:Int) (y15,y16) h_12,[]⟩,
      ⟨some 32,25,[.one (.ptr 0 0),.one (.p (pi (12:Int)))],[.var [.p (.sl 1 (List.map encI y16.L)),.p (pi y16.At)]],[.one (.p (pi y17))],[some (.var [.p (.sl 1 (List.map encI y18.L)),.p (pi y18.At)])],True,fun _ => ok_make_Tape_Next y16 (12:Int) (y17,y18) h_13,[]⟩]) (⟨98,mkS [(3,.x (.one (.ptr 1014 0))),(4,.x (.one (.p (.val (.string (bs s2)))))),(6,.x (.one (.p (pi i)))),(7,.x (.one (.p (pi y15)))),(8,.x (.one (.p (pi y17))))],mkH [(1014,.var [.p (.sl 1 (List.map encI y18.L)),.p (pi y18.At)])]⟩) ?_
          replace H1:=bind_some H1
          obtain ⟨⟨y19,y20⟩,h_14,H1⟩:=H1
          try dsimp only at H1
          refine lok_rt (Env.of E0 [⟨some 34,25,[.one (.ptr 0 0),.one (.p (pi (3:Int)))],[.var [.p (.sl 1 (List.map encI y18.L)),.p (pi y18.At)]],[.one (.p (pi y19))],[some (.var [.p (.sl 1 (List.map encI y20.L)),.p (pi y20.At)])],True,fun _ => ok_make_Tape_Next y18 (3:Int) (y19,y20) h_14,[]⟩]) (⟨98,mkS [(3,.x (.one (.ptr 1014 0))),(4,.x (.one (.p (.val (.string (bs s2)))))),(6,.x (.one (.p (pi i)))),(7,.x (.one (.p (pi y15)))),(8,.x (.one (.p (pi y17)))),(34,.x (.one (.p (pi y19))))],mkH [(1014,.var [.p (.sl 1 (List.map encI y20.L)),.p (pi y20.At)])]⟩) ?_
          refine lok_block ?_
          refine lok_rt E0 (⟨98,mkS [(3,.x (.one (.ptr 1014 0))),(4,.x (.one (.p (.val (.string (bs s2)))))),(6,.x (.one (.p (pi i)))),(7,.x (.one (.p (pi y15)))),(8,.x (.one (.p (pi y17)))),(34,.x (.one (.p (pi y19)))),(43,.x (.one (.p (.val (.bool (y19==(0:Int)))))))],mkH [(1014,.var [.p (.sl 1 (List.map encI y20.L)),.p (pi y20.At)])]⟩) ?_
          refine lok_c (y19==(0:Int)) ?_ ?_
          · intro b_31
            replace H1:=cpos H1 b_31
            replace H1:=req_some H1
            obtain ⟨⟨q_16,q_17,q_18,q_19,q_20⟩,H1⟩:=H1
            replace H1:=bindV_some H1
            obtain ⟨s5,a_15,H1⟩:=H1
            refine lok_dlg E0 12 a_15 (⟨98,mkS [(3,.x (.one (.ptr 1014 0))),(4,.x (.one (.p (.val (.string (bs s5)))))),(6,.x (.one (.p (pi i))))],mkH [(1014,.var [.p (.sl 1 (List.map encI y20.L)),.p (pi y20.At)])]⟩) (by kernel_rfl) (by kernel_rfl) ?_
            try simp only [thenL,blockL,↓reduceIte,reduceCtorEq]
            exact ⟨(s5,y20.L,y20.At),H1,imp_au⟩
          · intro b_31
            replace H1:=cneg H1 b_31
            refine lok_rt E0 (⟨98,mkS [(3,.x (.one (.ptr 1014 0))),(4,.x (.one (.p (.val (.string (bs s2)))))),(6,.x (.one (.p (pi i)))),(7,.x (.one (.p (pi y15)))),(8,.x (.one (.p (pi y17)))),(58,.x (.one (.p (.val (.bool (y19==(1:Int)))))))],mkH [(1014,.var [.p (.sl 1 (List.map encI y20.L)),.p (pi y20.At)])]⟩) ?_
            refine lok_c (y19==(1:Int)) ?_ ?_
            · intro b_30
              replace H1:=cpos H1 b_30
              replace H1:=req_some H1
              obtain ⟨⟨q_22,q_23,q_24,q_25⟩,H1⟩:=H1
              replace H1:=bindV_some H1
              obtain ⟨s6,a_21,H1⟩:=H1
              refine lok_dlg E0 11 a_21 (⟨98,mkS [(3,.x (.one (.ptr 1014 0))),(4,.x (.one (.p (.val (.string (bs s6)))))),(6,.x (.one (.p (pi i))))],mkH [(1014,.var [.p (.sl 1 (List.map encI y20.L)),.p (pi y20.At)])]⟩) (by kernel_rfl) (by kernel_rfl) ?_
              try simp only [thenL,blockL,↓reduceIte,reduceCtorEq]
              exact ⟨(s6,y20.L,y20.At),H1,imp_au⟩
            · intro b_30
              replace H1:=cneg H1 b_30
              replace H1:=req_some H1
              obtain ⟨⟨q_27,q_28,q_29⟩,H1⟩:=H1
              replace H1:=bindV_some H1
              obtain ⟨s7,a_26,H1⟩:=H1
              refine lok_dlg E0 7 a_26 (⟨98,mkS [(3,.x (.one (.ptr 1014 0))),(4,.x (.one (.p (.val (.string (bs s7)))))),(6,.x (.one (.p (pi i))))],mkH [(1014,.var [.p (.sl 1 (List.map encI y20.L)),.p (pi y20.At)])]⟩) (by kernel_rfl) (by kernel_rfl) ?_
              try simp only [thenL,blockL,↓reduceIte,reduceCtorEq]
              exact ⟨(s7,y20.L,y20.At),H1,imp_au⟩
      · intro b_32
        replace H1:=cneg H1 b_32
        refine lok_exit ?_
        try simp only [thenL,blockL,↓reduceIte,reduceCtorEq]
        have e_1:=k_1 _ (Option.some.inj H1).symm
        subst e_1
        try dsimp only at H0
        try simp only [thenL,blockL,↓reduceIte,reduceCtorEq]
        exact ⟨(s2,w2,w3),H0,imp_au⟩
theorem ok_law03_ExchangeChecks (s:Str) (n:Int) (r_:Bool) (H0:law03_ExchangeChecks s n=some r_):CallOK Tryd.prog 7 [.one (.p (.val (.string (bs s)))),.one (.p (pi n))] [] [.one (.p (.val (.bool r_)))] []:=by
  refine callOK (n:=25) (rs:=[.tmp 4]) (nb:=0) (V:=[]) Tryd.func7 rfl (by kernel_rfl) rfl rfl rfl rfl (Nat.le_of_ble_eq_true rfl) (by decide) ?_
  unfold law03_ExchangeChecks at H0
  refine lok_rt E0 (⟨25,mkS [(0,.x (.one (.p (.val (.string (bs s)))))),(1,.x (.one (.p (pi n))))],mkH []⟩) ?_
  refine lok_seq ?_
  refine lok_rt E0 (⟨25,mkS [(0,.x (.one (.p (.val (.string (bs s)))))),(1,.x (.one (.p (pi n)))),(8,.x (.one (.p (.val (.bool (decide ((2000:Int)<(s.length:Int))))))))],mkH []⟩) ?_
  refine lok_c (decide ((2000:Int)<(s.length:Int))) ?_ ?_
  · intro b_7
    replace H0:=cpos H0 b_7
    refine lok_rt E0 (⟨25,mkS [(4,.x (.one (.p (.val (.bool true)))))],mkH []⟩) ?_
    refine lok_ret ?_
    try obtain rfl:=Option.some.inj H0
    try simp only [thenL,blockL]
    exact fin_au _ (.inr rfl) [] (⟨25,mkS [(4,.x (.one (.p (.val (.bool true)))))],mkH []⟩) rfl rfl imp_au
  · intro b_7
    replace H0:=cneg H0 b_7
    refine lok_skip ?_
    try simp only [thenL,blockL,↓reduceIte,reduceCtorEq]
    refine lok_join (fun x_:Str => law03_ExchangeChecks_j1 x_=some r_) (fun x_ => ⟨25,mkS [(0,.x (.one (.p (.val (.string (bs x_))))))],mkH []⟩) ?hylaw03_ExchangeChecks_j1 ?hxlaw03_ExchangeChecks_j1
    case hylaw03_ExchangeChecks_j1 =>
      rintro s1 H0
      try dsimp only at H0 ⊢
      unfold law03_ExchangeChecks_j1 at H0
      replace H0:=bind_some H0
      obtain ⟨y,h_0,H0⟩:=H0
      replace H0:=bind_some H0
      obtain ⟨y1,h_1,H0⟩:=H0
      replace H0:=req_some H0
      obtain ⟨q_2,H0⟩:=H0
      refine lok_rt (Env.of E0 [⟨some 18,27,[.one (.p (.val (.string (bs s1))))],[],[.one (.p (pi y))],[],True,fun _ => ok_exchange_Check s1 y h_0,[]⟩,
      ⟨some 20,28,[.one (.p (.val (.string (bs s1))))],[],[.one (.p (pi y1))],[],True,fun _ => ok_ref03_Check s1 y1 h_1,[]⟩,
      ⟨some 23,19,[],[],[.one (.p (.val (.bool ((law03_awake).getD default))))],[],(law03_awake).isSome=true,fun h => ok_law03_awake _ (isSome_get h),[]⟩]) (⟨25,mkS [(4,.x (.one (.p (.val (.bool ((y==y1)&&((law03_awake).getD default)))))))],mkH []⟩) ?_
      refine lok_ret ?_
      try obtain rfl:=Option.some.inj H0
      try simp only [thenL,blockL]
      exact fin_au _ (.inr rfl) [] (⟨25,mkS [(4,.x (.one (.p (.val (.bool ((y==y1)&&((law03_awake).getD default)))))))],mkH []⟩) rfl rfl imp_au
    case hxlaw03_ExchangeChecks_j1 =>
      replace H0:=bind_some H0
      obtain ⟨y2,h_3,H0⟩:=H0
      refine lok_rt (Env.of E0 [⟨some 10,20,[.one (.p (pi n)),.one (.p (pi (300:Int)))],[],[.one (.p (pi y2))],[],True,fun _ => ok_make_Cut n (300:Int) y2 h_3,[]⟩]) (⟨25,mkS [(0,.x (.one (.p (.val (.string (bs s)))))),(5,.x (.one (.p (pi y2))))],mkH []⟩) ?_
      refine lok_block ?_
      replace H0:=bind_some H0
      obtain ⟨v_4,hv_4,H0⟩:=H0
      refine lok_iter (fun x_ => ⟨25,mkS [(0,.x (.one (.p (.val (.string (bs x_.1)))))),(5,.x (.one (.p (pi x_.2))))],mkH []⟩) hv_4 imp_au ?_
      · rintro ⟨s2,i⟩ o_1 H1 k_1
        unfold law03_ExchangeChecks_l2 at H1
        try dsimp only at H1 ⊢
        refine lok_seq ?_
        refine lok_rt E0 (⟨25,mkS [(0,.x (.one (.p (.val (.string (bs s2)))))),(5,.x (.one (.p (pi i)))),(12,.x (.one (.p (.val (.bool (decide ((0:Int)<i)))))))],mkH []⟩) ?_
        refine lok_c (decide ((0:Int)<i)) ?_ ?_
        · intro b_6
          replace H1:=cpos H1 b_6
          refine lok_skip ?_
          try simp only [thenL,blockL,↓reduceIte,reduceCtorEq]
          refine lok_seq ?_
          refine lok_block ?_
          replace H1:=req_some H1
          obtain ⟨q_5,H1⟩:=H1
          refine lok_rl E0 (⟨25,mkS [(0,.x (.one (.p (.val (.string (bs (s2 ++ ([122]:Str)))))))),(5,.x (.one (.p (pi i))))],mkH []⟩) ?_
          try simp only [thenL,blockL,↓reduceIte,reduceCtorEq]
          refine lok_rl E0 (⟨25,mkS [(0,.x (.one (.p (.val (.string (bs (s2 ++ ([122]:Str)))))))),(5,.x (.one (.p (pi (IntKind.i64.wrap (i-(1:Int)))))))],mkH []⟩) ?_
          try simp only [thenL,blockL,↓reduceIte,reduceCtorEq]
          exact ⟨((s2 ++ ([122]:Str)),(IntKind.i64.wrap (i-(1:Int)))),(Option.some.inj H1).symm,imp_au⟩
        · intro b_6
          replace H1:=cneg H1 b_6
          refine lok_exit ?_
          try simp only [thenL,blockL,↓reduceIte,reduceCtorEq]
          have e_1:=k_1 _ (Option.some.inj H1).symm
          subst e_1
          try dsimp only at H0
          try simp only [thenL,blockL,↓reduceIte,reduceCtorEq]
          exact ⟨s2,H0,imp_au⟩
theorem ok_law03_ExchangeBack (t:List Int) (u:Str) (r_:Bool) (H0:law03_ExchangeBack t u=some r_):CallOK Tryd.prog 8 [.one (.p (.sl 1 (List.map encI t))),.one (.p (.val (.string (bs u))))] [] [.one (.p (.val (.bool r_)))] []:=by
  refine callOK (n:=66) (rs:=[.tmp 4]) (nb:=0) (V:=[]) Tryd.func8 rfl (by kernel_rfl) rfl rfl rfl rfl (Nat.le_of_ble_eq_true rfl) (by decide) ?_
  unfold law03_ExchangeBack at H0
  refine lok_rt E0 (⟨66,mkS [(0,.x (.one (.p (.sl 1 (List.map encI t))))),(1,.x (.one (.p (.val (.string (bs u))))))],mkH []⟩) ?_
  replace H0:=bind_some H0
  obtain ⟨y,h_0,H0⟩:=H0
  replace H0:=bind_some H0
  obtain ⟨⟨y1,y2⟩,h_1,H0⟩:=H0
  try dsimp only at H0
  refine lok_rt (Env.of E0 [⟨some 15,13,[.one (.p (.sl 1 (List.map encI t)))],[],[.one (.ptr 0 0)],[some (.var [.p (.sl 1 (List.map encI y.L)),.p (pi y.At)])],True,fun _ => ok_make_New t y h_0,[]⟩,
      ⟨some 16,14,[.one (.ptr 0 0),.one (.p (pi (0:Int)))],[.var [.p (.sl 1 (List.map encI y.L)),.p (pi y.At)]],[.agg [.p (.val (.string (bs y1.Kind))),.p (pi y1.Source),.p (pi y1.Number),.p (.sl 1 (List.map encL_encS y1.Rows))]],[some (.var [.p (.sl 1 (List.map encI y2.L)),.p (pi y2.At)])],True,fun _ => ok_make_Tape_File y (0:Int) (y1,y2) h_1,[]⟩]) (⟨66,mkS [(1,.x (.one (.p (.val (.string (bs u)))))),(5,.x (.one (.ptr 105 0)))],mkH [(105,.var [.p (.val (.string (bs y1.Kind))),.p (pi y1.Source),.p (pi y1.Number),.p (.sl 1 (List.map encL_encS y1.Rows))])]⟩) ?_
  replace H0:=bind_some H0
  obtain ⟨⟨y3,y4⟩,h_2,H0⟩:=H0
  try dsimp only at H0
  refine lok_rt (Env.of E0 [⟨some 19,15,[.agg [.p (.val (.string (bs y1.Kind))),.p (pi y1.Source),.p (pi y1.Number),.p (.sl 1 (List.map encL_encS y1.Rows))]],[],[.one (.p (.val (.string (bs y3)))),.one (.p (pi y4))],[],True,fun _ => ok_exchange_Format y1 (y3,y4) h_2,[]⟩]) (⟨66,mkS [(1,.x (.one (.p (.val (.string (bs u)))))),(5,.x (.one (.ptr 105 0))),(6,.x (.one (.p (.val (.string (bs y3)))))),(7,.x (.one (.p (pi y4))))],mkH [(105,.var [.p (.val (.string (bs y1.Kind))),.p (pi y1.Source),.p (pi y1.Number),.p (.sl 1 (List.map encL_encS y1.Rows))])]⟩) ?_
  replace H0:=bind_some H0
  obtain ⟨⟨y5,y6⟩,h_3,H0⟩:=H0
  try dsimp only at H0
  refine lok_rt (Env.of E0 [⟨some 24,21,[.one (.p (.val (.string (bs y3))))],[],[.agg [.p (.val (.string (bs y5.Kind))),.p (pi y5.Source),.p (pi y5.Number),.p (.sl 1 (List.map encL_encS y5.Rows))],.one (.p (pi y6))],[],True,fun _ => ok_exchange_Parse y3 (y5,y6) h_3,[]⟩]) (⟨66,mkS [(1,.x (.one (.p (.val (.string (bs u)))))),(5,.x (.one (.ptr 105 0))),(7,.x (.one (.p (pi y4)))),(8,.x (.one (.ptr 108 0))),(9,.x (.one (.p (pi y6))))],mkH [(105,.var [.p (.val (.string (bs y1.Kind))),.p (pi y1.Source),.p (pi y1.Number),.p (.sl 1 (List.map encL_encS y1.Rows))]),(108,.var [.p (.val (.string (bs y5.Kind))),.p (pi y5.Source),.p (pi y5.Number),.p (.sl 1 (List.map encL_encS y5.Rows))])]⟩) ?_
  refine lok_seq ?_
  replace H0:=req_some H0
  obtain ⟨q_12,H0⟩:=H0
  refine lok_rt (Env.of E0 [⟨some 36,22,[.agg [.p (.val (.string (bs y1.Kind))),.p (pi y1.Source),.p (pi y1.Number),.p (.sl 1 (List.map encL_encS y1.Rows))],.agg [.p (.val (.string (bs y5.Kind))),.p (pi y5.Source),.p (pi y5.Number),.p (.sl 1 (List.map encL_encS y5.Rows))]],[],[.one (.p (.val (.bool ((law03_same y1 y5).getD default))))],[],(law03_same y1 y5).isSome=true,fun h => ok_law03_same y1 y5 _ (isSome_get h),[]⟩]) (⟨66,mkS [(1,.x (.one (.p (.val (.string (bs u)))))),(38,.x (.one (.p (.val (.bool (((y4 != (0:Int))||(y6 != (0:Int)))||(!((law03_same y1 y5).getD default))))))))],mkH []⟩) ?_
  refine lok_c (((y4 != (0:Int))||(y6 != (0:Int)))||(!((law03_same y1 y5).getD default))) ?_ ?_
  · intro b_11
    replace H0:=cpos H0 b_11
    refine lok_rt E0 (⟨66,mkS [(4,.x (.one (.p (.val (.bool false)))))],mkH []⟩) ?_
    refine lok_ret ?_
    try obtain rfl:=Option.some.inj H0
    try simp only [thenL,blockL]
    exact fin_au _ (.inr rfl) [] (⟨66,mkS [(4,.x (.one (.p (.val (.bool false)))))],mkH []⟩) rfl rfl imp_au
  · intro b_11
    replace H0:=cneg H0 b_11
    refine lok_skip ?_
    try simp only [thenL,blockL,↓reduceIte,reduceCtorEq]
    refine lok_seq ?_
    refine lok_rt E0 (⟨66,mkS [(1,.x (.one (.p (.val (.string (bs u)))))),(41,.x (.one (.p (.val (.bool (decide ((300:Int)<(u.length:Int))))))))],mkH []⟩) ?_
    refine lok_c (decide ((300:Int)<(u.length:Int))) ?_ ?_
    · intro b_10
      replace H0:=cpos H0 b_10
      replace H0:=bind_some H0
      obtain ⟨y7,h_4,H0⟩:=H0
      refine lok_rt (Env.of E0 [⟨some 42,19,[],[],[.one (.p (.val (.bool y7)))],[],True,fun _ => ok_law03_awake y7 h_4,[]⟩]) (⟨66,mkS [(4,.x (.one (.p (.val (.bool y7)))))],mkH []⟩) ?_
      refine lok_ret ?_
      try obtain rfl:=Option.some.inj H0
      try simp only [thenL,blockL]
      exact fin_au _ (.inr rfl) [] (⟨66,mkS [(4,.x (.one (.p (.val (.bool y7)))))],mkH []⟩) rfl rfl imp_au
    · intro b_10
      replace H0:=cneg H0 b_10
      refine lok_skip ?_
      try simp only [thenL,blockL,↓reduceIte,reduceCtorEq]
      replace H0:=bind_some H0
      obtain ⟨⟨y8,y9⟩,h_5,H0⟩:=H0
      try dsimp only at H0
      refine lok_rt (Env.of E0 [⟨some 45,21,[.one (.p (.val (.string (bs u))))],[],[.agg [.p (.val (.string (bs y8.Kind))),.p (pi y8.Source),.p (pi y8.Number),.p (.sl 1 (List.map encL_encS y8.Rows))],.one (.p (pi y9))],[],True,fun _ => ok_exchange_Parse u (y8,y9) h_5,[]⟩]) (⟨66,mkS [(1,.x (.one (.p (.val (.string (bs u)))))),(10,.x (.one (.ptr 110 0))),(11,.x (.one (.p (pi y9))))],mkH [(110,.var [.p (.val (.string (bs y8.Kind))),.p (pi y8.Source),.p (pi y8.Number),.p (.sl 1 (List.map encL_encS y8.Rows))])]⟩) ?_
      refine lok_seq ?_
      refine lok_rt E0 (⟨66,mkS [(1,.x (.one (.p (.val (.string (bs u)))))),(10,.x (.one (.ptr 110 0))),(49,.x (.one (.p (.val (.bool (y9 != (0:Int)))))))],mkH [(110,.var [.p (.val (.string (bs y8.Kind))),.p (pi y8.Source),.p (pi y8.Number),.p (.sl 1 (List.map encL_encS y8.Rows))])]⟩) ?_
      refine lok_c (y9 != (0:Int)) ?_ ?_
      · intro b_9
        replace H0:=cpos H0 b_9
        replace H0:=bind_some H0
        obtain ⟨y10,h_6,H0⟩:=H0
        refine lok_rt (Env.of E0 [⟨some 50,19,[],[],[.one (.p (.val (.bool y10)))],[],True,fun _ => ok_law03_awake y10 h_6,[]⟩]) (⟨66,mkS [(4,.x (.one (.p (.val (.bool y10)))))],mkH []⟩) ?_
        refine lok_ret ?_
        try obtain rfl:=Option.some.inj H0
        try simp only [thenL,blockL]
        exact fin_au _ (.inr rfl) [] (⟨66,mkS [(4,.x (.one (.p (.val (.bool y10)))))],mkH []⟩) rfl rfl imp_au
      · intro b_9
        replace H0:=cneg H0 b_9
        refine lok_skip ?_
        try simp only [thenL,blockL,↓reduceIte,reduceCtorEq]
        replace H0:=bind_some H0
        obtain ⟨⟨y11,y12⟩,h_7,H0⟩:=H0
        try dsimp only at H0
        refine lok_rt (Env.of E0 [⟨some 53,15,[.agg [.p (.val (.string (bs y8.Kind))),.p (pi y8.Source),.p (pi y8.Number),.p (.sl 1 (List.map encL_encS y8.Rows))]],[],[.one (.p (.val (.string (bs y11)))),.one (.p (pi y12))],[],True,fun _ => ok_exchange_Format y8 (y11,y12) h_7,[]⟩]) (⟨66,mkS [(1,.x (.one (.p (.val (.string (bs u)))))),(12,.x (.one (.p (.val (.string (bs y11)))))),(13,.x (.one (.p (pi y12))))],mkH []⟩) ?_
        replace H0:=req_some H0
        obtain ⟨q_8,H0⟩:=H0
        refine lok_rt (Env.of E0 [⟨some 64,19,[],[],[.one (.p (.val (.bool ((law03_awake).getD default))))],[],(law03_awake).isSome=true,fun h => ok_law03_awake _ (isSome_get h),[]⟩]) (⟨66,mkS [(4,.x (.one (.p (.val (.bool (((y12==(0:Int))&&(y11==u))&&((law03_awake).getD default)))))))],mkH []⟩) ?_
        refine lok_ret ?_
        try obtain rfl:=Option.some.inj H0
        try simp only [thenL,blockL]
        exact fin_au _ (.inr rfl) [] (⟨66,mkS [(4,.x (.one (.p (.val (.bool (((y12==(0:Int))&&(y11==u))&&((law03_awake).getD default)))))))],mkH []⟩) rfl rfl imp_au
set_option maxHeartbeats 4000000 in
theorem ok_law03_ExchangeDetects (t:List Int) (at_:Int) (by_:Int) (r_:Bool) (H0:law03_ExchangeDetects t at_ by_=some r_):CallOK Tryd.prog 9 [.one (.p (.sl 1 (List.map encI t))),.one (.p (pi at_)),.one (.p (.val (.int .u8 by_)))] [] [.one (.p (.val (.bool r_)))] []:=by
  refine callOK (n:=56) (rs:=[.tmp 6]) (nb:=0) (V:=[]) Tryd.func9 rfl (by kernel_rfl) rfl rfl rfl rfl (Nat.le_of_ble_eq_true rfl) (by decide) ?_
  unfold law03_ExchangeDetects at H0
  refine lok_rt E0 (⟨56,mkS [(0,.x (.one (.p (.sl 1 (List.map encI t))))),(1,.x (.one (.p (pi at_)))),(2,.x (.one (.p (.val (.int .u8 by_)))))],mkH []⟩) ?_
  replace H0:=bind_some H0
  obtain ⟨y,h_0,H0⟩:=H0
  replace H0:=bind_some H0
  obtain ⟨⟨y1,y2⟩,h_1,H0⟩:=H0
  try dsimp only at H0
  replace H0:=bind_some H0
  obtain ⟨⟨y3,y4⟩,h_2,H0⟩:=H0
  try dsimp only at H0
  refine lok_rt (Env.of E0 [⟨some 13,13,[.one (.p (.sl 1 (List.map encI t)))],[],[.one (.ptr 0 0)],[some (.var [.p (.sl 1 (List.map encI y.L)),.p (pi y.At)])],True,fun _ => ok_make_New t y h_0,[]⟩,
      ⟨some 14,14,[.one (.ptr 0 0),.one (.p (pi (0:Int)))],[.var [.p (.sl 1 (List.map encI y.L)),.p (pi y.At)]],[.agg [.p (.val (.string (bs y1.Kind))),.p (pi y1.Source),.p (pi y1.Number),.p (.sl 1 (List.map encL_encS y1.Rows))]],[some (.var [.p (.sl 1 (List.map encI y2.L)),.p (pi y2.At)])],True,fun _ => ok_make_Tape_File y (0:Int) (y1,y2) h_1,[]⟩,
      ⟨some 15,15,[.agg [.p (.val (.string (bs y1.Kind))),.p (pi y1.Source),.p (pi y1.Number),.p (.sl 1 (List.map encL_encS y1.Rows))]],[],[.one (.p (.val (.string (bs y3)))),.one (.p (pi y4))],[],True,fun _ => ok_exchange_Format y1 (y3,y4) h_2,[]⟩]) (⟨56,mkS [(1,.x (.one (.p (pi at_)))),(2,.x (.one (.p (.val (.int .u8 by_))))),(7,.x (.one (.p (.val (.string (bs y3)))))),(8,.x (.one (.p (pi y4))))],mkH []⟩) ?_
  refine lok_seq ?_
  refine lok_rt E0 (⟨56,mkS [(1,.x (.one (.p (pi at_)))),(2,.x (.one (.p (.val (.int .u8 by_))))),(7,.x (.one (.p (.val (.string (bs y3)))))),(24,.x (.one (.p (.val (.bool ((y4 != (0:Int))||((y3.length:Int)==(0:Int))))))))],mkH []⟩) ?_
  refine lok_c ((y4 != (0:Int))||((y3.length:Int)==(0:Int))) ?_ ?_
  · intro b_13
    replace H0:=cpos H0 b_13
    refine lok_rt E0 (⟨56,mkS [(6,.x (.one (.p (.val (.bool false)))))],mkH []⟩) ?_
    refine lok_ret ?_
    try obtain rfl:=Option.some.inj H0
    try simp only [thenL,blockL]
    exact fin_au _ (.inr rfl) [] (⟨56,mkS [(6,.x (.one (.p (.val (.bool false)))))],mkH []⟩) rfl rfl imp_au
  · intro b_13
    replace H0:=cneg H0 b_13
    refine lok_skip ?_
    try simp only [thenL,blockL,↓reduceIte,reduceCtorEq]
    replace H0:=bind_some H0
    obtain ⟨y5,h_3,H0⟩:=H0
    refine lok_rt (Env.of E0 [⟨some 28,20,[.one (.p (pi at_)),.one (.p (pi (y3.length:Int)))],[],[.one (.p (pi y5))],[],True,fun _ => ok_make_Cut at_ (y3.length:Int) y5 h_3,[]⟩]) (⟨56,mkS [(1,.x (.one (.p (pi y5)))),(2,.x (.one (.p (.val (.int .u8 by_))))),(7,.x (.one (.p (.val (.string (bs y3))))))],mkH []⟩) ?_
    refine lok_seq ?_
    replace H0:=req_some H0
    obtain ⟨q_12,H0⟩:=H0
    refine lok_rt E0 (⟨56,mkS [(1,.x (.one (.p (pi y5)))),(2,.x (.one (.p (.val (.int .u8 by_))))),(7,.x (.one (.p (.val (.string (bs y3)))))),(33,.x (.one (.p (.val (.bool ((sx y3 y5)==by_))))))],mkH []⟩) ?_
    refine lok_c ((sx y3 y5)==by_) ?_ ?_
    · intro b_11
      replace H0:=cpos H0 b_11
      replace H0:=bind_some H0
      obtain ⟨y6,h_4,H0⟩:=H0
      refine lok_rt (Env.of E0 [⟨some 34,19,[],[],[.one (.p (.val (.bool y6)))],[],True,fun _ => ok_law03_awake y6 h_4,[]⟩]) (⟨56,mkS [(6,.x (.one (.p (.val (.bool y6)))))],mkH []⟩) ?_
      refine lok_ret ?_
      try obtain rfl:=Option.some.inj H0
      try simp only [thenL,blockL]
      exact fin_au _ (.inr rfl) [] (⟨56,mkS [(6,.x (.one (.p (.val (.bool y6)))))],mkH []⟩) rfl rfl imp_au
    · intro b_11
      replace H0:=cneg H0 b_11
      refine lok_skip ?_
      try simp only [thenL,blockL,↓reduceIte,reduceCtorEq]
      replace H0:=req_some H0
      obtain ⟨⟨q_7,q_8,q_9,q_10⟩,H0⟩:=H0
      replace H0:=bind_some H0
      obtain ⟨⟨y7,y8⟩,h_5,H0⟩:=H0
      try dsimp only at H0
      refine lok_et (Env.of E0 [⟨some 48,21,[.one (.p (.val (.string (bs (((List.take y5.toNat y3) ++ (strOf ([by_]))) ++ (List.drop (IntKind.i64.wrap (y5+(1:Int))).toNat y3))))))],[],[.agg [.p (.val (.string (bs y7.Kind))),.p (pi y7.Source),.p (pi y7.Number),.p (.sl 1 (List.map encL_encS y7.Rows))],.one (.p (pi y8))],[],True,fun _ => ok_exchange_Parse (((List.take y5.toNat y3) ++ (strOf ([by_]))) ++ (List.drop (IntKind.i64.wrap (y5+(1:Int))).toNat y3)) (y7,y8) h_5,[]⟩]) 56 [⟨[(7,.x (.one (.p (.val (.string (bs y3))))))],[],[(36,.x (.one (.p (.val (.string (bs y3))))))],[],none⟩,
      ⟨[(1,.x (.one (.p (pi y5))))],[],[(37,.x (.one (.p (pi y5))))],[],none⟩,
      ⟨[(36,.x (.one (.p (.val (.string (bs y3)))))),(37,.x (.one (.p (pi y5))))],[],[(38,.x (.one (.p (.val (.string (bs (List.take y5.toNat y3)))))))],[],none⟩,
      ⟨[(2,.x (.one (.p (.val (.int .u8 by_)))))],[],[(39,.x (.one (.p (.val (.int .u8 by_)))))],[],none⟩,
      ⟨[(39,.x (.one (.p (.val (.int .u8 by_)))))],[],[(40,.x (.one (.fl 1 (List.map encK_u8 ([by_])))))],[],none⟩,
      ⟨[(40,.x (.one (.fl 1 (List.map encK_u8 ([by_])))))],[],[(41,.x (.one (.p (.val (.string (bs (strOf ([by_]))))))))],[],none⟩,
      ⟨[(38,.x (.one (.p (.val (.string (bs (List.take y5.toNat y3))))))),(41,.x (.one (.p (.val (.string (bs (strOf ([by_]))))))))],[],[(42,.x (.one (.p (.val (.string (bs ((List.take y5.toNat y3) ++ (strOf ([by_])))))))))],[],none⟩,
      ⟨[(7,.x (.one (.p (.val (.string (bs y3))))))],[],[(43,.x (.one (.p (.val (.string (bs y3))))))],[],none⟩,
      ⟨[(1,.x (.one (.p (pi y5))))],[],[(44,.x (.one (.p (pi y5))))],[],none⟩,
      ⟨[(44,.x (.one (.p (pi y5))))],[],[(45,.x (.one (.p (pi (IntKind.i64.wrap (y5+(1:Int)))))))],[],none⟩,
      ⟨[(43,.x (.one (.p (.val (.string (bs y3)))))),(45,.x (.one (.p (pi (IntKind.i64.wrap (y5+(1:Int)))))))],[],[(46,.x (.one (.p (.val (.string (bs (List.drop (IntKind.i64.wrap (y5+(1:Int))).toNat y3)))))))],[],none⟩,
      ⟨[(42,.x (.one (.p (.val (.string (bs ((List.take y5.toNat y3) ++ (strOf ([by_]))))))))),(46,.x (.one (.p (.val (.string (bs (List.drop (IntKind.i64.wrap (y5+(1:Int))).toNat y3)))))))],[],[(47,.x (.one (.p (.val (.string (bs (((List.take y5.toNat y3) ++ (strOf ([by_]))) ++ (List.drop (IntKind.i64.wrap (y5+(1:Int))).toNat y3))))))))],[],none⟩,
      ⟨[(47,.x (.one (.p (.val (.string (bs (((List.take y5.toNat y3) ++ (strOf ([by_]))) ++ (List.drop (IntKind.i64.wrap (y5+(1:Int))).toNat y3))))))))],[],[(48,.tup [.agg [.p (.val (.string (bs y7.Kind))),.p (pi y7.Source),.p (pi y7.Number),.p (.sl 1 (List.map encL_encS y7.Rows))],.one (.p (pi y8))])],[],none⟩,
      ⟨[(48,.tup [.agg [.p (.val (.string (bs y7.Kind))),.p (pi y7.Source),.p (pi y7.Number),.p (.sl 1 (List.map encL_encS y7.Rows))],.one (.p (pi y8))])],[],[(35,.tup [.agg [.p (.val (.string (bs y7.Kind))),.p (pi y7.Source),.p (pi y7.Number),.p (.sl 1 (List.map encL_encS y7.Rows))],.one (.p (pi y8))])],[],none⟩,
      ⟨[(35,.tup [.agg [.p (.val (.string (bs y7.Kind))),.p (pi y7.Source),.p (pi y7.Number),.p (.sl 1 (List.map encL_encS y7.Rows))],.one (.p (pi y8))])],[],[(49,.x (.agg [.p (.val (.string (bs y7.Kind))),.p (pi y7.Source),.p (pi y7.Number),.p (.sl 1 (List.map encL_encS y7.Rows))]))],[],none⟩,
      ⟨[(35,.tup [.agg [.p (.val (.string (bs y7.Kind))),.p (pi y7.Source),.p (pi y7.Number),.p (.sl 1 (List.map encL_encS y7.Rows))],.one (.p (pi y8))])],[],[(50,.x (.one (.p (pi y8))))],[],none⟩,
      ⟨[],[(109,none)],[(9,.x (.one (.ptr 109 0)))],[(109,some (.var [.p (.val (.string (bs ([]:Str)))),.p (pi (0:Int)),.p (pi (0:Int)),.p .nil]))],some 109⟩,
      ⟨[(9,.x (.one (.ptr 109 0))),(49,.x (.agg [.p (.val (.string (bs y7.Kind))),.p (pi y7.Source),.p (pi y7.Number),.p (.sl 1 (List.map encL_encS y7.Rows))]))],[(109,some (.var [.p (.val (.string (bs ([]:Str)))),.p (pi (0:Int)),.p (pi (0:Int)),.p .nil]))],[],[(109,some (.var [.p (.val (.string (bs y7.Kind))),.p (pi y7.Source),.p (pi y7.Number),.p (.sl 1 (List.map encL_encS y7.Rows))]))],none⟩] (⟨56,mkS [(10,.x (.one (.p (pi y8))))],mkH []⟩) (by kernel_rfl) (by kernel_rfl) (by kernel_rfl) rfl rfl rfl ?_
      replace H0:=req_some H0
      obtain ⟨q_6,H0⟩:=H0
      refine lok_rt (Env.of E0 [⟨some 54,19,[],[],[.one (.p (.val (.bool ((law03_awake).getD default))))],[],(law03_awake).isSome=true,fun h => ok_law03_awake _ (isSome_get h),[]⟩]) (⟨56,mkS [(6,.x (.one (.p (.val (.bool ((y8 != (0:Int))&&((law03_awake).getD default)))))))],mkH []⟩) ?_
      refine lok_ret ?_
      try obtain rfl:=Option.some.inj H0
      try simp only [thenL,blockL]
      exact fin_au _ (.inr rfl) [] (⟨56,mkS [(6,.x (.one (.p (.val (.bool ((y8 != (0:Int))&&((law03_awake).getD default)))))))],mkH []⟩) rfl rfl imp_au
set_option maxHeartbeats 4000000 in
theorem ok_law03_ExchangeSwaps (t:List Int) (at_:Int) (r_:Bool) (H0:law03_ExchangeSwaps t at_=some r_):CallOK Tryd.prog 10 [.one (.p (.sl 1 (List.map encI t))),.one (.p (pi at_))] [] [.one (.p (.val (.bool r_)))] []:=by
  refine callOK (n:=67) (rs:=[.tmp 4]) (nb:=0) (V:=[]) Tryd.func10 rfl (by kernel_rfl) rfl rfl rfl rfl (Nat.le_of_ble_eq_true rfl) (by decide) ?_
  unfold law03_ExchangeSwaps at H0
  refine lok_rt E0 (⟨67,mkS [(0,.x (.one (.p (.sl 1 (List.map encI t))))),(1,.x (.one (.p (pi at_))))],mkH []⟩) ?_
  replace H0:=bind_some H0
  obtain ⟨y,h_0,H0⟩:=H0
  replace H0:=bind_some H0
  obtain ⟨⟨y1,y2⟩,h_1,H0⟩:=H0
  try dsimp only at H0
  replace H0:=bind_some H0
  obtain ⟨⟨y3,y4⟩,h_2,H0⟩:=H0
  try dsimp only at H0
  refine lok_rt (Env.of E0 [⟨some 11,13,[.one (.p (.sl 1 (List.map encI t)))],[],[.one (.ptr 0 0)],[some (.var [.p (.sl 1 (List.map encI y.L)),.p (pi y.At)])],True,fun _ => ok_make_New t y h_0,[]⟩,
      ⟨some 12,14,[.one (.ptr 0 0),.one (.p (pi (0:Int)))],[.var [.p (.sl 1 (List.map encI y.L)),.p (pi y.At)]],[.agg [.p (.val (.string (bs y1.Kind))),.p (pi y1.Source),.p (pi y1.Number),.p (.sl 1 (List.map encL_encS y1.Rows))]],[some (.var [.p (.sl 1 (List.map encI y2.L)),.p (pi y2.At)])],True,fun _ => ok_make_Tape_File y (0:Int) (y1,y2) h_1,[]⟩,
      ⟨some 13,15,[.agg [.p (.val (.string (bs y1.Kind))),.p (pi y1.Source),.p (pi y1.Number),.p (.sl 1 (List.map encL_encS y1.Rows))]],[],[.one (.p (.val (.string (bs y3)))),.one (.p (pi y4))],[],True,fun _ => ok_exchange_Format y1 (y3,y4) h_2,[]⟩]) (⟨67,mkS [(1,.x (.one (.p (pi at_)))),(5,.x (.one (.p (.val (.string (bs y3)))))),(6,.x (.one (.p (pi y4))))],mkH []⟩) ?_
  refine lok_seq ?_
  refine lok_rt E0 (⟨67,mkS [(1,.x (.one (.p (pi at_)))),(5,.x (.one (.p (.val (.string (bs y3)))))),(22,.x (.one (.p (.val (.bool ((y4 != (0:Int))||(decide ((y3.length:Int)<(2:Int)))))))))],mkH []⟩) ?_
  refine lok_c ((y4 != (0:Int))||(decide ((y3.length:Int)<(2:Int)))) ?_ ?_
  · intro b_17
    replace H0:=cpos H0 b_17
    refine lok_rt E0 (⟨67,mkS [(4,.x (.one (.p (.val (.bool false)))))],mkH []⟩) ?_
    refine lok_ret ?_
    try obtain rfl:=Option.some.inj H0
    try simp only [thenL,blockL]
    exact fin_au _ (.inr rfl) [] (⟨67,mkS [(4,.x (.one (.p (.val (.bool false)))))],mkH []⟩) rfl rfl imp_au
  · intro b_17
    replace H0:=cneg H0 b_17
    refine lok_skip ?_
    try simp only [thenL,blockL,↓reduceIte,reduceCtorEq]
    replace H0:=bind_some H0
    obtain ⟨y5,h_3,H0⟩:=H0
    refine lok_rt (Env.of E0 [⟨some 27,20,[.one (.p (pi at_)),.one (.p (pi (IntKind.i64.wrap ((y3.length:Int)-(1:Int)))))],[],[.one (.p (pi y5))],[],True,fun _ => ok_make_Cut at_ (IntKind.i64.wrap ((y3.length:Int)-(1:Int))) y5 h_3,[]⟩]) (⟨67,mkS [(1,.x (.one (.p (pi y5)))),(5,.x (.one (.p (.val (.string (bs y3))))))],mkH []⟩) ?_
    refine lok_seq ?_
    replace H0:=req_some H0
    obtain ⟨⟨q_15,q_16⟩,H0⟩:=H0
    refine lok_dt E0 7 (⟨67,mkS [(1,.x (.one (.p (pi y5)))),(5,.x (.one (.p (.val (.string (bs y3)))))),(35,.x (.one (.p (.val (.bool ((sx y3 y5)==(sx y3 (IntKind.i64.wrap (y5+(1:Int))))))))))],mkH []⟩) (by kernel_rfl) (by kernel_rfl) ?_
    refine lok_c ((sx y3 y5)==(sx y3 (IntKind.i64.wrap (y5+(1:Int))))) ?_ ?_
    · intro b_14
      replace H0:=cpos H0 b_14
      replace H0:=bind_some H0
      obtain ⟨y6,h_4,H0⟩:=H0
      refine lok_rt (Env.of E0 [⟨some 36,19,[],[],[.one (.p (.val (.bool y6)))],[],True,fun _ => ok_law03_awake y6 h_4,[]⟩]) (⟨67,mkS [(4,.x (.one (.p (.val (.bool y6)))))],mkH []⟩) ?_
      refine lok_ret ?_
      try obtain rfl:=Option.some.inj H0
      try simp only [thenL,blockL]
      exact fin_au _ (.inr rfl) [] (⟨67,mkS [(4,.x (.one (.p (.val (.bool y6)))))],mkH []⟩) rfl rfl imp_au
    · intro b_14
      replace H0:=cneg H0 b_14
      refine lok_skip ?_
      try simp only [thenL,blockL,↓reduceIte,reduceCtorEq]
      replace H0:=req_some H0
      obtain ⟨⟨q_7,q_8,q_9,q_10,q_11,q_12,q_13⟩,H0⟩:=H0
      replace H0:=bind_some H0
      obtain ⟨⟨y7,y8⟩,h_5,H0⟩:=H0
      try dsimp only at H0
      refine lok_et (Env.of E0 [⟨some 59,21,[.one (.p (.val (.string (bs ((((List.take y5.toNat y3) ++ (List.drop (IntKind.i64.wrap (y5+(1:Int))).toNat (List.take (IntKind.i64.wrap (y5+(2:Int))).toNat y3))) ++ (List.drop y5.toNat (List.take (IntKind.i64.wrap (y5+(1:Int))).toNat y3))) ++ (List.drop (IntKind.i64.wrap (y5+(2:Int))).toNat y3))))))],[],[.agg [.p (.val (.string (bs y7.Kind))),.p (pi y7.Source),.p (pi y7.Number),.p (.sl 1 (List.map encL_encS y7.Rows))],.one (.p (pi y8))],[],True,fun _ => ok_exchange_Parse ((((List.take y5.toNat y3) ++ (List.drop (IntKind.i64.wrap (y5+(1:Int))).toNat (List.take (IntKind.i64.wrap (y5+(2:Int))).toNat y3))) ++ (List.drop y5.toNat (List.take (IntKind.i64.wrap (y5+(1:Int))).toNat y3))) ++ (List.drop (IntKind.i64.wrap (y5+(2:Int))).toNat y3)) (y7,y8) h_5,[]⟩]) 67 [⟨[(5,.x (.one (.p (.val (.string (bs y3))))))],[],[(38,.x (.one (.p (.val (.string (bs y3))))))],[],none⟩,
      ⟨[(1,.x (.one (.p (pi y5))))],[],[(39,.x (.one (.p (pi y5))))],[],none⟩,
      ⟨[(38,.x (.one (.p (.val (.string (bs y3)))))),(39,.x (.one (.p (pi y5))))],[],[(40,.x (.one (.p (.val (.string (bs (List.take y5.toNat y3)))))))],[],none⟩,
      ⟨[(5,.x (.one (.p (.val (.string (bs y3))))))],[],[(41,.x (.one (.p (.val (.string (bs y3))))))],[],none⟩,
      ⟨[(1,.x (.one (.p (pi y5))))],[],[(42,.x (.one (.p (pi y5))))],[],none⟩,
      ⟨[(42,.x (.one (.p (pi y5))))],[],[(43,.x (.one (.p (pi (IntKind.i64.wrap (y5+(1:Int)))))))],[],none⟩,
      ⟨[(1,.x (.one (.p (pi y5))))],[],[(44,.x (.one (.p (pi y5))))],[],none⟩,
      ⟨[(44,.x (.one (.p (pi y5))))],[],[(45,.x (.one (.p (pi (IntKind.i64.wrap (y5+(2:Int)))))))],[],none⟩,
      ⟨[(41,.x (.one (.p (.val (.string (bs y3)))))),(43,.x (.one (.p (pi (IntKind.i64.wrap (y5+(1:Int))))))),(45,.x (.one (.p (pi (IntKind.i64.wrap (y5+(2:Int)))))))],[],[(46,.x (.one (.p (.val (.string (bs (List.drop (IntKind.i64.wrap (y5+(1:Int))).toNat (List.take (IntKind.i64.wrap (y5+(2:Int))).toNat y3))))))))],[],none⟩,
      ⟨[(40,.x (.one (.p (.val (.string (bs (List.take y5.toNat y3))))))),(46,.x (.one (.p (.val (.string (bs (List.drop (IntKind.i64.wrap (y5+(1:Int))).toNat (List.take (IntKind.i64.wrap (y5+(2:Int))).toNat y3))))))))],[],[(47,.x (.one (.p (.val (.string (bs ((List.take y5.toNat y3) ++ (List.drop (IntKind.i64.wrap (y5+(1:Int))).toNat (List.take (IntKind.i64.wrap (y5+(2:Int))).toNat y3)))))))))],[],none⟩,
      ⟨[(5,.x (.one (.p (.val (.string (bs y3))))))],[],[(48,.x (.one (.p (.val (.string (bs y3))))))],[],none⟩,
      ⟨[(1,.x (.one (.p (pi y5))))],[],[(49,.x (.one (.p (pi y5))))],[],none⟩,
      ⟨[(1,.x (.one (.p (pi y5))))],[],[(50,.x (.one (.p (pi y5))))],[],none⟩,
      ⟨[(50,.x (.one (.p (pi y5))))],[],[(51,.x (.one (.p (pi (IntKind.i64.wrap (y5+(1:Int)))))))],[],none⟩,
      ⟨[(48,.x (.one (.p (.val (.string (bs y3)))))),(49,.x (.one (.p (pi y5)))),(51,.x (.one (.p (pi (IntKind.i64.wrap (y5+(1:Int)))))))],[],[(52,.x (.one (.p (.val (.string (bs (List.drop y5.toNat (List.take (IntKind.i64.wrap (y5+(1:Int))).toNat y3))))))))],[],none⟩,
      ⟨[(47,.x (.one (.p (.val (.string (bs ((List.take y5.toNat y3) ++ (List.drop (IntKind.i64.wrap (y5+(1:Int))).toNat (List.take (IntKind.i64.wrap (y5+(2:Int))).toNat y3))))))))),(52,.x (.one (.p (.val (.string (bs (List.drop y5.toNat (List.take (IntKind.i64.wrap (y5+(1:Int))).toNat y3))))))))],[],[(53,.x (.one (.p (.val (.string (bs (((List.take y5.toNat y3) ++ (List.drop (IntKind.i64.wrap (y5+(1:Int))).toNat (List.take (IntKind.i64.wrap (y5+(2:Int))).toNat y3))) ++ (List.drop y5.toNat (List.take (IntKind.i64.wrap (y5+(1:Int))).toNat y3)))))))))],[],none⟩,
      ⟨[(5,.x (.one (.p (.val (.string (bs y3))))))],[],[(54,.x (.one (.p (.val (.string (bs y3))))))],[],none⟩,
      ⟨[(1,.x (.one (.p (pi y5))))],[],[(55,.x (.one (.p (pi y5))))],[],none⟩,
      ⟨[(55,.x (.one (.p (pi y5))))],[],[(56,.x (.one (.p (pi (IntKind.i64.wrap (y5+(2:Int)))))))],[],none⟩,
      ⟨[(54,.x (.one (.p (.val (.string (bs y3)))))),(56,.x (.one (.p (pi (IntKind.i64.wrap (y5+(2:Int)))))))],[],[(57,.x (.one (.p (.val (.string (bs (List.drop (IntKind.i64.wrap (y5+(2:Int))).toNat y3)))))))],[],none⟩,
      ⟨[(53,.x (.one (.p (.val (.string (bs (((List.take y5.toNat y3) ++ (List.drop (IntKind.i64.wrap (y5+(1:Int))).toNat (List.take (IntKind.i64.wrap (y5+(2:Int))).toNat y3))) ++ (List.drop y5.toNat (List.take (IntKind.i64.wrap (y5+(1:Int))).toNat y3))))))))),(57,.x (.one (.p (.val (.string (bs (List.drop (IntKind.i64.wrap (y5+(2:Int))).toNat y3)))))))],[],[(58,.x (.one (.p (.val (.string (bs ((((List.take y5.toNat y3) ++ (List.drop (IntKind.i64.wrap (y5+(1:Int))).toNat (List.take (IntKind.i64.wrap (y5+(2:Int))).toNat y3))) ++ (List.drop y5.toNat (List.take (IntKind.i64.wrap (y5+(1:Int))).toNat y3))) ++ (List.drop (IntKind.i64.wrap (y5+(2:Int))).toNat y3))))))))],[],none⟩,
      ⟨[(58,.x (.one (.p (.val (.string (bs ((((List.take y5.toNat y3) ++ (List.drop (IntKind.i64.wrap (y5+(1:Int))).toNat (List.take (IntKind.i64.wrap (y5+(2:Int))).toNat y3))) ++ (List.drop y5.toNat (List.take (IntKind.i64.wrap (y5+(1:Int))).toNat y3))) ++ (List.drop (IntKind.i64.wrap (y5+(2:Int))).toNat y3))))))))],[],[(59,.tup [.agg [.p (.val (.string (bs y7.Kind))),.p (pi y7.Source),.p (pi y7.Number),.p (.sl 1 (List.map encL_encS y7.Rows))],.one (.p (pi y8))])],[],none⟩,
      ⟨[(59,.tup [.agg [.p (.val (.string (bs y7.Kind))),.p (pi y7.Source),.p (pi y7.Number),.p (.sl 1 (List.map encL_encS y7.Rows))],.one (.p (pi y8))])],[],[(37,.tup [.agg [.p (.val (.string (bs y7.Kind))),.p (pi y7.Source),.p (pi y7.Number),.p (.sl 1 (List.map encL_encS y7.Rows))],.one (.p (pi y8))])],[],none⟩,
      ⟨[(37,.tup [.agg [.p (.val (.string (bs y7.Kind))),.p (pi y7.Source),.p (pi y7.Number),.p (.sl 1 (List.map encL_encS y7.Rows))],.one (.p (pi y8))])],[],[(60,.x (.agg [.p (.val (.string (bs y7.Kind))),.p (pi y7.Source),.p (pi y7.Number),.p (.sl 1 (List.map encL_encS y7.Rows))]))],[],none⟩,
      ⟨[(37,.tup [.agg [.p (.val (.string (bs y7.Kind))),.p (pi y7.Source),.p (pi y7.Number),.p (.sl 1 (List.map encL_encS y7.Rows))],.one (.p (pi y8))])],[],[(61,.x (.one (.p (pi y8))))],[],none⟩,
      ⟨[],[(107,none)],[(7,.x (.one (.ptr 107 0)))],[(107,some (.var [.p (.val (.string (bs ([]:Str)))),.p (pi (0:Int)),.p (pi (0:Int)),.p .nil]))],some 107⟩,
      ⟨[(7,.x (.one (.ptr 107 0))),(60,.x (.agg [.p (.val (.string (bs y7.Kind))),.p (pi y7.Source),.p (pi y7.Number),.p (.sl 1 (List.map encL_encS y7.Rows))]))],[(107,some (.var [.p (.val (.string (bs ([]:Str)))),.p (pi (0:Int)),.p (pi (0:Int)),.p .nil]))],[],[(107,some (.var [.p (.val (.string (bs y7.Kind))),.p (pi y7.Source),.p (pi y7.Number),.p (.sl 1 (List.map encL_encS y7.Rows))]))],none⟩] (⟨67,mkS [(8,.x (.one (.p (pi y8))))],mkH []⟩) (by kernel_rfl) (by kernel_rfl) (by kernel_rfl) rfl rfl rfl ?_
      replace H0:=req_some H0
      obtain ⟨q_6,H0⟩:=H0
      refine lok_rt (Env.of E0 [⟨some 65,19,[],[],[.one (.p (.val (.bool ((law03_awake).getD default))))],[],(law03_awake).isSome=true,fun h => ok_law03_awake _ (isSome_get h),[]⟩]) (⟨67,mkS [(4,.x (.one (.p (.val (.bool ((y8 != (0:Int))&&((law03_awake).getD default)))))))],mkH []⟩) ?_
      refine lok_ret ?_
      try obtain rfl:=Option.some.inj H0
      try simp only [thenL,blockL]
      exact fin_au _ (.inr rfl) [] (⟨67,mkS [(4,.x (.one (.p (.val (.bool ((y8 != (0:Int))&&((law03_awake).getD default)))))))],mkH []⟩) rfl rfl imp_au
theorem ok_law03_files (s:make_Tape) (r_:(List api_File) × make_Tape) (H0:law03_files s=some r_):CallOK Tryd.prog 29 [.one (.ptr 0 0)] [.var [.p (.sl 1 (List.map encI s.L)),.p (pi s.At)]] [.one (.p (.sl 4 (List.map enc_api_File r_.1)))] [some (.var [.p (.sl 1 (List.map encI r_.2.L)),.p (pi r_.2.At)])]:=by
  refine callOK (n:=17) (rs:=[.tmp 2]) (nb:=1) (V:=[0]) Tryd.func29 rfl (by kernel_rfl) rfl rfl rfl rfl (Nat.le_of_ble_eq_true rfl) (by decide) ?_
  unfold law03_files at H0
  refine lok_rt E0 (⟨17,mkS [(0,.x (.one (.ptr 0 0)))],mkH [(0,.var [.p (.sl 1 (List.map encI s.L)),.p (pi s.At)])]⟩) ?_
  refine lok_rt E0 (⟨17,mkS [(0,.x (.one (.ptr 0 0))),(3,.x (.one (.vw 103)))],mkH [(0,.var [.p (.sl 1 (List.map encI s.L)),.p (pi s.At)]),(103,.arr 4 (List.map enc_api_File ([]:List api_File)))]⟩) ?_
  refine lok_join (fun x_:(List Int) × Int × (List api_File) => law03_files_j1 x_.1 x_.2.1 x_.2.2=some r_) (fun x_ => ⟨17,mkS [(3,.x (.one (.vw 103)))],mkH [(0,.var [.p (.sl 1 (List.map encI x_.1)),.p (pi x_.2.1)]),(103,.arr 4 (List.map enc_api_File x_.2.2))]⟩) ?hylaw03_files_j1 ?hxlaw03_files_j1
  case hylaw03_files_j1 =>
    rintro ⟨s1,s2,out⟩ H0
    try dsimp only at H0 ⊢
    unfold law03_files_j1 at H0
    refine lok_rt E0 (⟨17,mkS [(2,.x (.one (.vw 103)))],mkH [(0,.var [.p (.sl 1 (List.map encI s1)),.p (pi s2)]),(103,.arr 4 (List.map enc_api_File out))]⟩) ?_
    refine lok_ret ?_
    try obtain rfl:=Option.some.inj H0
    try simp only [thenL,blockL]
    exact fin_au _ (.inr rfl) [0] (⟨17,mkS [(2,.x (.one (.p (.sl 4 (List.map enc_api_File out)))))],mkH [(0,.var [.p (.sl 1 (List.map encI s1)),.p (pi s2)])]⟩) rfl rfl (Imp.trans (imp_frz 103 4 (List.map enc_api_File out)) imp_au)
  case hxlaw03_files_j1 =>
    replace H0:=bind_some H0
    obtain ⟨⟨y,y1⟩,h_0,H0⟩:=H0
    try dsimp only at H0
    refine lok_rt (Env.of E0 [⟨some 6,24,[.one (.ptr 0 0),.one (.p (pi (0:Int))),.one (.p (pi (8:Int)))],[.var [.p (.sl 1 (List.map encI s.L)),.p (pi s.At)]],[.one (.p (pi y))],[some (.var [.p (.sl 1 (List.map encI y1.L)),.p (pi y1.At)])],True,fun _ => ok_make_Tape_Range s (0:Int) (8:Int) (y,y1) h_0,[]⟩]) (⟨17,mkS [(0,.x (.one (.ptr 0 0))),(3,.x (.one (.vw 103))),(4,.x (.one (.p (pi y))))],mkH [(0,.var [.p (.sl 1 (List.map encI y1.L)),.p (pi y1.At)]),(103,.arr 4 (List.map enc_api_File ([]:List api_File)))]⟩) ?_
    refine lok_block ?_
    replace H0:=bind_some H0
    obtain ⟨v_1,hv_1,H0⟩:=H0
    refine lok_iter (fun x_ => ⟨17,mkS [(0,.x (.one (.ptr 0 0))),(3,.x (.one (.vw 103))),(4,.x (.one (.p (pi x_.1))))],mkH [(0,.var [.p (.sl 1 (List.map encI x_.2.1)),.p (pi x_.2.2.1)]),(103,.arr 4 (List.map enc_api_File x_.2.2.2))]⟩) hv_1 imp_au ?_
    · rintro ⟨i,s3,s4,out1⟩ o_1 H1 k_1
      unfold law03_files_l2 at H1
      try dsimp only at H1 ⊢
      refine lok_seq ?_
      refine lok_rt E0 (⟨17,mkS [(0,.x (.one (.ptr 0 0))),(3,.x (.one (.vw 103))),(4,.x (.one (.p (pi i)))),(8,.x (.one (.p (.val (.bool (decide ((0:Int)<i)))))))],mkH [(0,.var [.p (.sl 1 (List.map encI s3)),.p (pi s4)]),(103,.arr 4 (List.map enc_api_File out1))]⟩) ?_
      refine lok_c (decide ((0:Int)<i)) ?_ ?_
      · intro b_4
        replace H1:=cpos H1 b_4
        refine lok_skip ?_
        try simp only [thenL,blockL,↓reduceIte,reduceCtorEq]
        refine lok_seq ?_
        refine lok_block ?_
        replace H1:=bind_some H1
        obtain ⟨⟨y2,y3⟩,h_2,H1⟩:=H1
        try dsimp only at H1
        replace H1:=req_some H1
        obtain ⟨q_3,H1⟩:=H1
        refine lok_rl (Env.of E0 [⟨some 13,14,[.one (.ptr 0 0),.one (.p (pi (8:Int)))],[.var [.p (.sl 1 (List.map encI s3)),.p (pi s4)]],[.agg [.p (.val (.string (bs y2.Kind))),.p (pi y2.Source),.p (pi y2.Number),.p (.sl 1 (List.map encL_encS y2.Rows))]],[some (.var [.p (.sl 1 (List.map encI y3.L)),.p (pi y3.At)])],True,fun _ => ok_make_Tape_File (make_Tape.mk s3 s4) (8:Int) (y2,y3) h_2,[]⟩]) (⟨17,mkS [(0,.x (.one (.ptr 0 0))),(3,.x (.one (.vw 103))),(4,.x (.one (.p (pi i))))],mkH [(0,.var [.p (.sl 1 (List.map encI y3.L)),.p (pi y3.At)]),(103,.arr 4 (List.map enc_api_File (out1 ++ [y2])))]⟩) ?_
        try simp only [thenL,blockL,↓reduceIte,reduceCtorEq]
        refine lok_rl E0 (⟨17,mkS [(0,.x (.one (.ptr 0 0))),(3,.x (.one (.vw 103))),(4,.x (.one (.p (pi (IntKind.i64.wrap (i-(1:Int)))))))],mkH [(0,.var [.p (.sl 1 (List.map encI y3.L)),.p (pi y3.At)]),(103,.arr 4 (List.map enc_api_File (out1 ++ [y2])))]⟩) ?_
        try simp only [thenL,blockL,↓reduceIte,reduceCtorEq]
        exact ⟨((IntKind.i64.wrap (i-(1:Int))),y3.L,y3.At,(out1 ++ [y2])),(Option.some.inj H1).symm,imp_au⟩
      · intro b_4
        replace H1:=cneg H1 b_4
        refine lok_exit ?_
        try simp only [thenL,blockL,↓reduceIte,reduceCtorEq]
        have e_1:=k_1 _ (Option.some.inj H1).symm
        subst e_1
        try dsimp only at H0
        try simp only [thenL,blockL,↓reduceIte,reduceCtorEq]
        exact ⟨(s3,s4,out1),H0,imp_au⟩
theorem ok_law03_ints (a:List Int) (b:List Int) (r_:Bool) (H0:law03_ints a b=some r_):CallOK Tryd.prog 30 [.one (.p (.sl 1 (List.map encI a))),.one (.p (.sl 1 (List.map encI b)))] [] [.one (.p (.val (.bool r_)))] []:=by
  refine callOK (n:=26) (rs:=[.tmp 4]) (nb:=0) (V:=[]) Tryd.func30 rfl (by kernel_rfl) rfl rfl rfl rfl (Nat.le_of_ble_eq_true rfl) (by decide) ?_
  unfold law03_ints at H0
  refine lok_rt E0 (⟨26,mkS [(0,.x (.one (.p (.sl 1 (List.map encI a))))),(1,.x (.one (.p (.sl 1 (List.map encI b)))))],mkH []⟩) ?_
  refine lok_seq ?_
  refine lok_rt E0 (⟨26,mkS [(0,.x (.one (.p (.sl 1 (List.map encI a))))),(1,.x (.one (.p (.sl 1 (List.map encI b))))),(10,.x (.one (.p (.val (.bool ((a.length:Int) != (b.length:Int)))))))],mkH []⟩) ?_
  refine lok_c ((a.length:Int) != (b.length:Int)) ?_ ?_
  · intro b_5
    replace H0:=cpos H0 b_5
    refine lok_rt E0 (⟨26,mkS [(4,.x (.one (.p (.val (.bool false)))))],mkH []⟩) ?_
    refine lok_ret ?_
    try obtain rfl:=Option.some.inj H0
    try simp only [thenL,blockL]
    exact fin_au _ (.inr rfl) [] (⟨26,mkS [(4,.x (.one (.p (.val (.bool false)))))],mkH []⟩) rfl rfl imp_au
  · intro b_5
    replace H0:=cneg H0 b_5
    refine lok_skip ?_
    try simp only [thenL,blockL,↓reduceIte,reduceCtorEq]
    refine lok_join (fun x_:Unit => law03_ints_j1=some r_) (fun x_ => ⟨26,mkS [],mkH []⟩) ?hylaw03_ints_j1 ?hxlaw03_ints_j1
    case hylaw03_ints_j1 =>
      rintro _ H0
      try dsimp only at H0 ⊢
      unfold law03_ints_j1 at H0
      refine lok_rt E0 (⟨26,mkS [(4,.x (.one (.p (.val (.bool true)))))],mkH []⟩) ?_
      refine lok_ret ?_
      try obtain rfl:=Option.some.inj H0
      try simp only [thenL,blockL]
      exact fin_au _ (.inr rfl) [] (⟨26,mkS [(4,.x (.one (.p (.val (.bool true)))))],mkH []⟩) rfl rfl imp_au
    case hxlaw03_ints_j1 =>
      refine lok_rt E0 (⟨26,mkS [(0,.x (.one (.p (.sl 1 (List.map encI a))))),(1,.x (.one (.p (.sl 1 (List.map encI b))))),(5,.x (.one (.p (pi (0:Int)))))],mkH []⟩) ?_
      refine lok_block ?_
      replace H0:=bind_some H0
      obtain ⟨v_0,hv_0,H0⟩:=H0
      refine lok_iter (fun x_ => ⟨26,mkS [(0,.x (.one (.p (.sl 1 (List.map encI a))))),(1,.x (.one (.p (.sl 1 (List.map encI b))))),(5,.x (.one (.p (pi x_))))],mkH []⟩) hv_0 imp_au ?_
      · rintro i o_1 H1 k_1
        unfold law03_ints_l2 at H1
        try dsimp only at H1 ⊢
        refine lok_seq ?_
        refine lok_rt E0 (⟨26,mkS [(0,.x (.one (.p (.sl 1 (List.map encI a))))),(1,.x (.one (.p (.sl 1 (List.map encI b))))),(5,.x (.one (.p (pi i)))),(14,.x (.one (.p (.val (.bool (decide (i<(a.length:Int))))))))],mkH []⟩) ?_
        refine lok_c (decide (i<(a.length:Int))) ?_ ?_
        · intro b_4
          replace H1:=cpos H1 b_4
          refine lok_skip ?_
          try simp only [thenL,blockL,↓reduceIte,reduceCtorEq]
          refine lok_seq ?_
          refine lok_block ?_
          replace H1:=req_some H1
          obtain ⟨⟨q_2,q_3⟩,H1⟩:=H1
          refine lok_dt E0 8 (⟨26,mkS [(0,.x (.one (.p (.sl 1 (List.map encI a))))),(1,.x (.one (.p (.sl 1 (List.map encI b))))),(5,.x (.one (.p (pi i)))),(25,.x (.one (.p (.val (.bool ((ix a i) != (ix b i)))))))],mkH []⟩) (by kernel_rfl) (by kernel_rfl) ?_
          refine lok_c ((ix a i) != (ix b i)) ?_ ?_
          · intro b_1
            replace H1:=cpos H1 b_1
            refine lok_rt E0 (⟨26,mkS [(4,.x (.one (.p (.val (.bool false)))))],mkH []⟩) ?_
            refine lok_ret ?_
            try simp only [thenL,blockL,↓reduceIte,reduceCtorEq]
            have e_1:=k_1 _ (Option.some.inj H1).symm
            subst e_1
            try dsimp only at H0
            try obtain rfl:=Option.some.inj H0
            try simp only [thenL,blockL]
            exact fin_au _ (.inr rfl) [] (⟨26,mkS [(4,.x (.one (.p (.val (.bool false)))))],mkH []⟩) rfl rfl imp_au
          · intro b_1
            replace H1:=cneg H1 b_1
            refine lok_skip ?_
            try simp only [thenL,blockL,↓reduceIte,reduceCtorEq]
            refine lok_rl E0 (⟨26,mkS [(0,.x (.one (.p (.sl 1 (List.map encI a))))),(1,.x (.one (.p (.sl 1 (List.map encI b))))),(5,.x (.one (.p (pi (IntKind.i64.wrap (i+(1:Int)))))))],mkH []⟩) ?_
            try simp only [thenL,blockL,↓reduceIte,reduceCtorEq]
            exact ⟨(IntKind.i64.wrap (i+(1:Int))),(Option.some.inj H1).symm,imp_au⟩
        · intro b_4
          replace H1:=cneg H1 b_4
          refine lok_exit ?_
          try simp only [thenL,blockL,↓reduceIte,reduceCtorEq]
          have e_1:=k_1 _ (Option.some.inj H1).symm
          subst e_1
          try dsimp only at H0
          try simp only [thenL,blockL,↓reduceIte,reduceCtorEq]
          exact ⟨(),H0,imp_au⟩
set_option maxHeartbeats 4000000 in
theorem ok_exchange_Gaps (l:List api_File) (source:Int) (r_:(List Int)) (H0:exchange_Gaps l source=some r_):CallOK Tryd.prog 31 [.one (.p (.sl 4 (List.map enc_api_File l))),.one (.p (pi source))] [] [.one (.p (.sl 1 (List.map encI r_)))] []:=by
  refine callOK (n:=50) (rs:=[.tmp 4]) (nb:=0) (V:=[]) Tryd.func31 rfl (by kernel_rfl) rfl rfl rfl rfl (Nat.le_of_ble_eq_true rfl) (by decide) ?_
  unfold exchange_Gaps at H0
  refine lok_rt E0 (⟨50,mkS [(0,.x (.one (.p (.sl 4 (List.map enc_api_File l))))),(1,.x (.one (.p (pi source))))],mkH []⟩) ?_
  replace H0:=req_some H0
  obtain ⟨q_11,H0⟩:=H0
  refine lok_rt E0 (⟨50,mkS [(0,.x (.one (.p (.sl 4 (List.map enc_api_File l))))),(1,.x (.one (.p (pi source)))),(5,.x (.one (.vw 111)))],mkH [(111,.arr 1 (List.map encB (rep (10000:Int) false)))]⟩) ?_
  refine lok_rt E0 (⟨50,mkS [(0,.x (.one (.p (.sl 4 (List.map enc_api_File l))))),(1,.x (.one (.p (pi source)))),(5,.x (.one (.vw 111))),(6,.x (.one (.p (pi (-1:Int)))))],mkH [(111,.arr 1 (List.map encB (rep (10000:Int) false)))]⟩) ?_
  refine lok_join (fun x_:Int × (List Bool) => exchange_Gaps_j4 x_.1 x_.2=some r_) (fun x_ => ⟨50,mkS [(5,.x (.one (.vw 111))),(6,.x (.one (.p (pi x_.1))))],mkH [(111,.arr 1 (List.map encB x_.2))]⟩) ?hyexchange_Gaps_j4 ?hxexchange_Gaps_j4
  case hyexchange_Gaps_j4 =>
    rintro ⟨greatest,w⟩ H0
    try dsimp only at H0 ⊢
    unfold exchange_Gaps_j4 at H0
    refine lok_rt E0 (⟨50,mkS [(5,.x (.one (.vw 111))),(6,.x (.one (.p (pi greatest)))),(9,.x (.one (.vw 109)))],mkH [(109,.arr 1 (List.map encI ([]:List Int))),(111,.arr 1 (List.map encB w))]⟩) ?_
    refine lok_join (fun x_:(List Int) => exchange_Gaps_j1 x_=some r_) (fun x_ => ⟨50,mkS [(9,.x (.one (.vw 109)))],mkH [(109,.arr 1 (List.map encI x_))]⟩) ?hyexchange_Gaps_j1 ?hxexchange_Gaps_j1
    case hyexchange_Gaps_j1 =>
      rintro gaps H0
      try dsimp only at H0 ⊢
      unfold exchange_Gaps_j1 at H0
      refine lok_rt E0 (⟨50,mkS [(4,.x (.one (.vw 109)))],mkH [(109,.arr 1 (List.map encI gaps))]⟩) ?_
      refine lok_ret ?_
      try obtain rfl:=Option.some.inj H0
      try simp only [thenL,blockL]
      exact fin_au _ (.inr rfl) [] (⟨50,mkS [(4,.x (.one (.p (.sl 1 (List.map encI gaps)))))],mkH []⟩) rfl rfl (Imp.trans (imp_frz 109 1 (List.map encI gaps)) imp_au)
    case hxexchange_Gaps_j1 =>
      refine lok_rt E0 (⟨50,mkS [(5,.x (.one (.vw 111))),(6,.x (.one (.p (pi greatest)))),(9,.x (.one (.vw 109))),(10,.x (.one (.p (pi (0:Int)))))],mkH [(109,.arr 1 (List.map encI ([]:List Int))),(111,.arr 1 (List.map encB w))]⟩) ?_
      refine lok_block ?_
      replace H0:=bind_some H0
      obtain ⟨v_0,hv_0,H0⟩:=H0
      refine lok_iter (fun x_ => ⟨50,mkS [(5,.x (.one (.vw 111))),(6,.x (.one (.p (pi greatest)))),(9,.x (.one (.vw 109))),(10,.x (.one (.p (pi x_.1))))],mkH [(109,.arr 1 (List.map encI x_.2)),(111,.arr 1 (List.map encB w))]⟩) hv_0 imp_au ?_
      · rintro ⟨n,gaps1⟩ o_1 H1 k_1
        unfold exchange_Gaps_l3 at H1
        try dsimp only at H1 ⊢
        refine lok_seq ?_
        refine lok_rt E0 (⟨50,mkS [(5,.x (.one (.vw 111))),(6,.x (.one (.p (pi greatest)))),(9,.x (.one (.vw 109))),(10,.x (.one (.p (pi n)))),(37,.x (.one (.p (.val (.bool (decide (n≤greatest)))))))],mkH [(109,.arr 1 (List.map encI gaps1)),(111,.arr 1 (List.map encB w))]⟩) ?_
        refine lok_c (decide (n≤greatest)) ?_ ?_
        · intro b_4
          replace H1:=cpos H1 b_4
          refine lok_skip ?_
          try simp only [thenL,blockL,↓reduceIte,reduceCtorEq]
          refine lok_join (fun x_:(List Int) => exchange_Gaps_j2 n x_=some o_1) (fun x_ => ⟨50,mkS [(5,.x (.one (.vw 111))),(6,.x (.one (.p (pi greatest)))),(9,.x (.one (.vw 109))),(10,.x (.one (.p (pi n))))],mkH [(109,.arr 1 (List.map encI x_)),(111,.arr 1 (List.map encB w))]⟩) ?hyexchange_Gaps_j2 ?hxexchange_Gaps_j2
          case hyexchange_Gaps_j2 =>
            rintro gaps3 H1
            try dsimp only at H1 ⊢
            unfold exchange_Gaps_j2 at H1
            refine lok_rl E0 (⟨50,mkS [(5,.x (.one (.vw 111))),(6,.x (.one (.p (pi greatest)))),(9,.x (.one (.vw 109))),(10,.x (.one (.p (pi (IntKind.i64.wrap (n+(1:Int)))))))],mkH [(109,.arr 1 (List.map encI gaps3)),(111,.arr 1 (List.map encB w))]⟩) ?_
            try simp only [thenL,blockL,↓reduceIte,reduceCtorEq]
            exact ⟨((IntKind.i64.wrap (n+(1:Int))),gaps3),(Option.some.inj H1).symm,imp_au⟩
          case hxexchange_Gaps_j2 =>
            refine lok_block ?_
            replace H1:=req_some H1
            obtain ⟨q_3,H1⟩:=H1
            refine lok_rt E0 (⟨50,mkS [(5,.x (.one (.vw 111))),(6,.x (.one (.p (pi greatest)))),(9,.x (.one (.vw 109))),(10,.x (.one (.p (pi n)))),(44,.x (.one (.p (.val (.bool (!(ix w n)))))))],mkH [(109,.arr 1 (List.map encI gaps1)),(111,.arr 1 (List.map encB w))]⟩) ?_
            refine lok_c (!(ix w n)) ?_ ?_
            · intro b_2
              replace H1:=cpos H1 b_2
              replace H1:=req_some H1
              obtain ⟨q_1,H1⟩:=H1
              refine lok_rl E0 (⟨50,mkS [(5,.x (.one (.vw 111))),(6,.x (.one (.p (pi greatest)))),(9,.x (.one (.vw 109))),(10,.x (.one (.p (pi n))))],mkH [(109,.arr 1 (List.map encI (gaps1 ++ [n]))),(111,.arr 1 (List.map encB w))]⟩) ?_
              try simp only [thenL,blockL,↓reduceIte,reduceCtorEq]
              exact ⟨(gaps1 ++ [n]),H1,imp_au⟩
            · intro b_2
              replace H1:=cneg H1 b_2
              refine lok_skip ?_
              try simp only [thenL,blockL,↓reduceIte,reduceCtorEq]
              exact ⟨gaps1,H1,imp_au⟩
        · intro b_4
          replace H1:=cneg H1 b_4
          refine lok_exit ?_
          try simp only [thenL,blockL,↓reduceIte,reduceCtorEq]
          have e_1:=k_1 _ (Option.some.inj H1).symm
          subst e_1
          try dsimp only at H0
          try simp only [thenL,blockL,↓reduceIte,reduceCtorEq]
          exact ⟨gaps1,H0,imp_au⟩
  case hxexchange_Gaps_j4 =>
    refine lok_rt E0 (⟨50,mkS [(1,.x (.one (.p (pi source)))),(5,.x (.one (.vw 111))),(6,.x (.one (.p (pi (-1:Int))))),(12,.x (.one (.p (.sl 4 (List.map enc_api_File l))))),(13,.x (.one (.p (pi (l.length:Int))))),(14,.x (.one (.p (pi (0:Int)))))],mkH [(111,.arr 1 (List.map encB (rep (10000:Int) false)))]⟩) ?_
    refine lok_block ?_
    replace H0:=bind_some H0
    obtain ⟨v_5,hv_5,H0⟩:=H0
    refine lok_iter (fun x_ => ⟨50,mkS [(1,.x (.one (.p (pi source)))),(5,.x (.one (.vw 111))),(6,.x (.one (.p (pi x_.1)))),(12,.x (.one (.p (.sl 4 (List.map enc_api_File l))))),(13,.x (.one (.p (pi (l.length:Int))))),(14,.x (.one (.p (pi x_.2.1))))],mkH [(111,.arr 1 (List.map encB x_.2.2))]⟩) hv_5 imp_au ?_
    · rintro ⟨greatest1,v,w1⟩ o_1 H1 k_1
      unfold exchange_Gaps_l6 at H1
      try dsimp only at H1 ⊢
      refine lok_rt E0 (⟨50,mkS [(1,.x (.one (.p (pi source)))),(5,.x (.one (.vw 111))),(6,.x (.one (.p (pi greatest1)))),(12,.x (.one (.p (.sl 4 (List.map enc_api_File l))))),(13,.x (.one (.p (pi (l.length:Int))))),(14,.x (.one (.p (pi v)))),(15,.x (.one (.p (.val (.bool (decide (v<(l.length:Int))))))))],mkH [(111,.arr 1 (List.map encB w1))]⟩) ?_
      refine lok_seq ?_
      refine lok_c (decide (v<(l.length:Int))) ?_ ?_
      · intro b_10
        replace H1:=cpos H1 b_10
        refine lok_skip ?_
        try simp only [thenL,blockL,↓reduceIte,reduceCtorEq]
        refine lok_join (fun x_:Int × (List Bool) => exchange_Gaps_j5 v x_.1 x_.2=some o_1) (fun x_ => ⟨50,mkS [(1,.x (.one (.p (pi source)))),(5,.x (.one (.vw 111))),(6,.x (.one (.p (pi x_.1)))),(12,.x (.one (.p (.sl 4 (List.map enc_api_File l))))),(13,.x (.one (.p (pi (l.length:Int))))),(14,.x (.one (.p (pi v))))],mkH [(111,.arr 1 (List.map encB x_.2))]⟩) ?hyexchange_Gaps_j5 ?hxexchange_Gaps_j5
        case hyexchange_Gaps_j5 =>
          rintro ⟨greatest3,w3⟩ H1
          try dsimp only at H1 ⊢
          unfold exchange_Gaps_j5 at H1
          refine lok_rl E0 (⟨50,mkS [(1,.x (.one (.p (pi source)))),(5,.x (.one (.vw 111))),(6,.x (.one (.p (pi greatest3)))),(12,.x (.one (.p (.sl 4 (List.map enc_api_File l))))),(13,.x (.one (.p (pi (l.length:Int))))),(14,.x (.one (.p (pi (IntKind.i64.wrap (v+(1:Int)))))))],mkH [(111,.arr 1 (List.map encB w3))]⟩) ?_
          try simp only [thenL,blockL,↓reduceIte,reduceCtorEq]
          exact ⟨(greatest3,(IntKind.i64.wrap (v+(1:Int))),w3),(Option.some.inj H1).symm,imp_au⟩
        case hxexchange_Gaps_j5 =>
          refine lok_block ?_
          replace H1:=req_some H1
          obtain ⟨q_9,H1⟩:=H1
          refine lok_rt E0 (⟨50,mkS [(1,.x (.one (.p (pi source)))),(5,.x (.one (.vw 111))),(6,.x (.one (.p (pi greatest1)))),(8,.x (.one (.ptr 108 0))),(12,.x (.one (.p (.sl 4 (List.map enc_api_File l))))),(13,.x (.one (.p (pi (l.length:Int))))),(14,.x (.one (.p (pi v))))],mkH [(108,.var [.p (.val (.string (bs ((ix l v).Kind)))),.p (pi ((ix l v).Source)),.p (pi ((ix l v).Number)),.p (.sl 1 (List.map encL_encS ((ix l v).Rows)))]),(111,.arr 1 (List.map encB w1))]⟩) ?_
          replace H1:=req_some H1
          obtain ⟨q_8,H1⟩:=H1
          refine lok_rt (Env.of E0 [⟨some 24,17,[.agg [.p (.val (.string (bs ((ix l v).Kind)))),.p (pi ((ix l v).Source)),.p (pi ((ix l v).Number)),.p (.sl 1 (List.map encL_encS ((ix l v).Rows)))]],[],[.one (.p (.val (.bool ((exchange_Valid (ix l v)).getD default))))],[],(exchange_Valid (ix l v)).isSome=true,fun h => ok_exchange_Valid (ix l v) _ (isSome_get h),[]⟩]) (⟨50,mkS [(1,.x (.one (.p (pi source)))),(5,.x (.one (.vw 111))),(6,.x (.one (.p (pi greatest1)))),(8,.x (.one (.ptr 108 0))),(12,.x (.one (.p (.sl 4 (List.map enc_api_File l))))),(13,.x (.one (.p (pi (l.length:Int))))),(14,.x (.one (.p (pi v)))),(25,.x (.one (.p (.val (.bool (((ix l v).Source==source)&&((exchange_Valid (ix l v)).getD default)))))))],mkH [(108,.var [.p (.val (.string (bs ((ix l v).Kind)))),.p (pi ((ix l v).Source)),.p (pi ((ix l v).Number)),.p (.sl 1 (List.map encL_encS ((ix l v).Rows)))]),(111,.arr 1 (List.map encB w1))]⟩) ?_
          refine lok_c (((ix l v).Source==source)&&((exchange_Valid (ix l v)).getD default)) ?_ ?_
          · intro b_7
            replace H1:=cpos H1 b_7
            replace H1:=req_some H1
            obtain ⟨q_6,H1⟩:=H1
            refine lok_rt E0 (⟨50,mkS [(1,.x (.one (.p (pi source)))),(5,.x (.one (.vw 111))),(6,.x (.one (.p (pi greatest1)))),(8,.x (.one (.ptr 108 0))),(12,.x (.one (.p (.sl 4 (List.map enc_api_File l))))),(13,.x (.one (.p (pi (l.length:Int))))),(14,.x (.one (.p (pi v))))],mkH [(108,.var [.p (.val (.string (bs ((ix l v).Kind)))),.p (pi ((ix l v).Source)),.p (pi ((ix l v).Number)),.p (.sl 1 (List.map encL_encS ((ix l v).Rows)))]),(111,.arr 1 (List.map encB (setI w1 ((ix l v).Number) true)))]⟩) ?_
            refine lok_rl E0 (⟨50,mkS [(1,.x (.one (.p (pi source)))),(5,.x (.one (.vw 111))),(6,.x (.one (.p (pi (imax greatest1 ((ix l v).Number)))))),(12,.x (.one (.p (.sl 4 (List.map enc_api_File l))))),(13,.x (.one (.p (pi (l.length:Int))))),(14,.x (.one (.p (pi v))))],mkH [(111,.arr 1 (List.map encB (setI w1 ((ix l v).Number) true)))]⟩) ?_
            try simp only [thenL,blockL,↓reduceIte,reduceCtorEq]
            exact ⟨((imax greatest1 ((ix l v).Number)),(setI w1 ((ix l v).Number) true)),H1,imp_au⟩
          · intro b_7
            replace H1:=cneg H1 b_7
            refine lok_skip ?_
            try simp only [thenL,blockL,↓reduceIte,reduceCtorEq]
            exact ⟨(greatest1,w1),H1,imp_au⟩
      · intro b_10
        replace H1:=cneg H1 b_10
        refine lok_exit ?_
        try simp only [thenL,blockL,↓reduceIte,reduceCtorEq]
        have e_1:=k_1 _ (Option.some.inj H1).symm
        subst e_1
        try dsimp only at H0
        try simp only [thenL,blockL,↓reduceIte,reduceCtorEq]
        exact ⟨(greatest1,w1),H0,imp_au⟩
set_option maxHeartbeats 4000000 in
theorem ok_ref03_Gaps (l:List api_File) (source:Int) (r_:(List Int)) (H0:ref03_Gaps l source=some r_):CallOK Tryd.prog 32 [.one (.p (.sl 4 (List.map enc_api_File l))),.one (.p (pi source))] [] [.one (.p (.sl 1 (List.map encI r_)))] []:=by
  refine callOK (n:=84) (rs:=[.tmp 4]) (nb:=0) (V:=[]) Tryd.func32 rfl (by kernel_rfl) rfl rfl rfl rfl (Nat.le_of_ble_eq_true rfl) (by decide) ?_
  unfold ref03_Gaps at H0
  refine lok_rt E0 (⟨84,mkS [(0,.x (.one (.p (.sl 4 (List.map enc_api_File l))))),(1,.x (.one (.p (pi source))))],mkH []⟩) ?_
  refine lok_rt E0 (⟨84,mkS [(0,.x (.one (.p (.sl 4 (List.map enc_api_File l))))),(1,.x (.one (.p (pi source)))),(5,.x (.one (.p (pi (-1:Int)))))],mkH []⟩) ?_
  refine lok_join (fun x_:Int => ref03_Gaps_j7 l source x_=some r_) (fun x_ => ⟨84,mkS [(0,.x (.one (.p (.sl 4 (List.map enc_api_File l))))),(1,.x (.one (.p (pi source)))),(5,.x (.one (.p (pi x_))))],mkH []⟩) ?hyref03_Gaps_j7 ?hxref03_Gaps_j7
  case hyref03_Gaps_j7 =>
    rintro greatest H0
    try dsimp only at H0 ⊢
    unfold ref03_Gaps_j7 at H0
    replace H0:=req_some H0
    obtain ⟨q_13,H0⟩:=H0
    refine lok_rt E0 (⟨84,mkS [(0,.x (.one (.p (.sl 4 (List.map enc_api_File l))))),(1,.x (.one (.p (pi source)))),(7,.x (.one (.vw 140)))],mkH [(140,.arr 1 (List.map encB (rep (IntKind.i64.wrap (greatest+(1:Int))) false)))]⟩) ?_
    refine lok_join (fun x_:(List Bool) => ref03_Gaps_j4 x_=some r_) (fun x_ => ⟨84,mkS [(7,.x (.one (.vw 140)))],mkH [(140,.arr 1 (List.map encB x_))]⟩) ?hyref03_Gaps_j4 ?hxref03_Gaps_j4
    case hyref03_Gaps_j4 =>
      rintro w H0
      try dsimp only at H0 ⊢
      unfold ref03_Gaps_j4 at H0
      refine lok_rt E0 (⟨84,mkS [(7,.x (.one (.vw 140))),(9,.x (.one (.vw 109)))],mkH [(109,.arr 1 (List.map encI ([]:List Int))),(140,.arr 1 (List.map encB w))]⟩) ?_
      refine lok_join (fun x_:(List Int) => ref03_Gaps_j1 x_=some r_) (fun x_ => ⟨84,mkS [(9,.x (.one (.vw 109)))],mkH [(109,.arr 1 (List.map encI x_))]⟩) ?hyref03_Gaps_j1 ?hxref03_Gaps_j1
      case hyref03_Gaps_j1 =>
        rintro out H0
        try dsimp only at H0 ⊢
        unfold ref03_Gaps_j1 at H0
        refine lok_rt E0 (⟨84,mkS [(4,.x (.one (.vw 109)))],mkH [(109,.arr 1 (List.map encI out))]⟩) ?_
        refine lok_ret ?_
        try obtain rfl:=Option.some.inj H0
        try simp only [thenL,blockL]
        exact fin_au _ (.inr rfl) [] (⟨84,mkS [(4,.x (.one (.p (.sl 1 (List.map encI out)))))],mkH []⟩) rfl rfl (Imp.trans (imp_frz 109 1 (List.map encI out)) imp_au)
      case hxref03_Gaps_j1 =>
        refine lok_rt E0 (⟨84,mkS [(7,.x (.one (.vw 140))),(9,.x (.one (.vw 109))),(10,.x (.one (.p (pi (0:Int)))))],mkH [(109,.arr 1 (List.map encI ([]:List Int))),(140,.arr 1 (List.map encB w))]⟩) ?_
        refine lok_block ?_
        replace H0:=bind_some H0
        obtain ⟨v_0,hv_0,H0⟩:=H0
        refine lok_iter (fun x_ => ⟨84,mkS [(7,.x (.one (.vw 140))),(9,.x (.one (.vw 109))),(10,.x (.one (.p (pi x_.1))))],mkH [(109,.arr 1 (List.map encI x_.2)),(140,.arr 1 (List.map encB w))]⟩) hv_0 imp_au ?_
        · rintro ⟨i,out1⟩ o_1 H1 k_1
          unfold ref03_Gaps_l3 at H1
          try dsimp only at H1 ⊢
          refine lok_seq ?_
          refine lok_rt E0 (⟨84,mkS [(7,.x (.one (.vw 140))),(9,.x (.one (.vw 109))),(10,.x (.one (.p (pi i)))),(71,.x (.one (.p (.val (.bool (decide (i<(w.length:Int))))))))],mkH [(109,.arr 1 (List.map encI out1)),(140,.arr 1 (List.map encB w))]⟩) ?_
          refine lok_c (decide (i<(w.length:Int))) ?_ ?_
          · intro b_4
            replace H1:=cpos H1 b_4
            refine lok_skip ?_
            try simp only [thenL,blockL,↓reduceIte,reduceCtorEq]
            refine lok_join (fun x_:(List Int) => ref03_Gaps_j2 i x_=some o_1) (fun x_ => ⟨84,mkS [(7,.x (.one (.vw 140))),(9,.x (.one (.vw 109))),(10,.x (.one (.p (pi i))))],mkH [(109,.arr 1 (List.map encI x_)),(140,.arr 1 (List.map encB w))]⟩) ?hyref03_Gaps_j2 ?hxref03_Gaps_j2
            case hyref03_Gaps_j2 =>
              rintro out3 H1
              try dsimp only at H1 ⊢
              unfold ref03_Gaps_j2 at H1
              refine lok_rl E0 (⟨84,mkS [(7,.x (.one (.vw 140))),(9,.x (.one (.vw 109))),(10,.x (.one (.p (pi (IntKind.i64.wrap (i+(1:Int)))))))],mkH [(109,.arr 1 (List.map encI out3)),(140,.arr 1 (List.map encB w))]⟩) ?_
              try simp only [thenL,blockL,↓reduceIte,reduceCtorEq]
              exact ⟨((IntKind.i64.wrap (i+(1:Int))),out3),(Option.some.inj H1).symm,imp_au⟩
            case hxref03_Gaps_j2 =>
              refine lok_block ?_
              replace H1:=req_some H1
              obtain ⟨q_3,H1⟩:=H1
              refine lok_rt E0 (⟨84,mkS [(7,.x (.one (.vw 140))),(9,.x (.one (.vw 109))),(10,.x (.one (.p (pi i)))),(78,.x (.one (.p (.val (.bool (!(ix w i)))))))],mkH [(109,.arr 1 (List.map encI out1)),(140,.arr 1 (List.map encB w))]⟩) ?_
              refine lok_c (!(ix w i)) ?_ ?_
              · intro b_2
                replace H1:=cpos H1 b_2
                replace H1:=req_some H1
                obtain ⟨q_1,H1⟩:=H1
                refine lok_rl E0 (⟨84,mkS [(7,.x (.one (.vw 140))),(9,.x (.one (.vw 109))),(10,.x (.one (.p (pi i))))],mkH [(109,.arr 1 (List.map encI (out1 ++ [i]))),(140,.arr 1 (List.map encB w))]⟩) ?_
                try simp only [thenL,blockL,↓reduceIte,reduceCtorEq]
                exact ⟨(out1 ++ [i]),H1,imp_au⟩
              · intro b_2
                replace H1:=cneg H1 b_2
                refine lok_skip ?_
                try simp only [thenL,blockL,↓reduceIte,reduceCtorEq]
                exact ⟨out1,H1,imp_au⟩
          · intro b_4
            replace H1:=cneg H1 b_4
            refine lok_exit ?_
            try simp only [thenL,blockL,↓reduceIte,reduceCtorEq]
            have e_1:=k_1 _ (Option.some.inj H1).symm
            subst e_1
            try dsimp only at H0
            try simp only [thenL,blockL,↓reduceIte,reduceCtorEq]
            exact ⟨out1,H0,imp_au⟩
    case hxref03_Gaps_j4 =>
      refine lok_rt E0 (⟨84,mkS [(0,.x (.one (.p (.sl 4 (List.map enc_api_File l))))),(1,.x (.one (.p (pi source)))),(7,.x (.one (.vw 140))),(8,.x (.one (.p (pi (0:Int)))))],mkH [(140,.arr 1 (List.map encB (rep (IntKind.i64.wrap (greatest+(1:Int))) false)))]⟩) ?_
      refine lok_block ?_
      replace H0:=bind_some H0
      obtain ⟨v_5,hv_5,H0⟩:=H0
      refine lok_iter (fun x_ => ⟨84,mkS [(0,.x (.one (.p (.sl 4 (List.map enc_api_File l))))),(1,.x (.one (.p (pi source)))),(7,.x (.one (.vw 140))),(8,.x (.one (.p (pi x_.1))))],mkH [(140,.arr 1 (List.map encB x_.2))]⟩) hv_5 imp_au ?_
      · rintro ⟨i1,w1⟩ o_1 H1 k_1
        unfold ref03_Gaps_l6 at H1
        try dsimp only at H1 ⊢
        refine lok_seq ?_
        refine lok_rt E0 (⟨84,mkS [(0,.x (.one (.p (.sl 4 (List.map enc_api_File l))))),(1,.x (.one (.p (pi source)))),(7,.x (.one (.vw 140))),(8,.x (.one (.p (pi i1)))),(44,.x (.one (.p (.val (.bool (decide (i1<(l.length:Int))))))))],mkH [(140,.arr 1 (List.map encB w1))]⟩) ?_
        refine lok_c (decide (i1<(l.length:Int))) ?_ ?_
        · intro b_12
          replace H1:=cpos H1 b_12
          refine lok_skip ?_
          try simp only [thenL,blockL,↓reduceIte,reduceCtorEq]
          refine lok_join (fun x_:(List Bool) => ref03_Gaps_j5 i1 x_=some o_1) (fun x_ => ⟨84,mkS [(0,.x (.one (.p (.sl 4 (List.map enc_api_File l))))),(1,.x (.one (.p (pi source)))),(7,.x (.one (.vw 140))),(8,.x (.one (.p (pi i1))))],mkH [(140,.arr 1 (List.map encB x_))]⟩) ?hyref03_Gaps_j5 ?hxref03_Gaps_j5
          case hyref03_Gaps_j5 =>
            rintro w3 H1
            try dsimp only at H1 ⊢
            unfold ref03_Gaps_j5 at H1
            refine lok_rl E0 (⟨84,mkS [(0,.x (.one (.p (.sl 4 (List.map enc_api_File l))))),(1,.x (.one (.p (pi source)))),(7,.x (.one (.vw 140))),(8,.x (.one (.p (pi (IntKind.i64.wrap (i1+(1:Int)))))))],mkH [(140,.arr 1 (List.map encB w3))]⟩) ?_
            try simp only [thenL,blockL,↓reduceIte,reduceCtorEq]
            exact ⟨((IntKind.i64.wrap (i1+(1:Int))),w3),(Option.some.inj H1).symm,imp_au⟩
          case hxref03_Gaps_j5 =>
            refine lok_block ?_
            replace H1:=req_some H1
            obtain ⟨q_10,H1⟩:=H1
            replace H1:=bind_some H1
            obtain ⟨y,h_6,H1⟩:=H1
            replace H1:=req_some H1
            obtain ⟨q_11,H1⟩:=H1
            refine lok_rt (Env.of E0 [⟨some 51,18,[.agg [.p (.val (.string (bs ((ix l i1).Kind)))),.p (pi ((ix l i1).Source)),.p (pi ((ix l i1).Number)),.p (.sl 1 (List.map encL_encS ((ix l i1).Rows)))]],[],[.one (.p (.val (.bool y)))],[],True,fun _ => ok_ref03_Valid (ix l i1) y h_6,[]⟩]) (⟨84,mkS [(0,.x (.one (.p (.sl 4 (List.map enc_api_File l))))),(1,.x (.one (.p (pi source)))),(7,.x (.one (.vw 140))),(8,.x (.one (.p (pi i1)))),(60,.x (.one (.p (.val (.bool (y&&((ix l i1).Source==source)))))))],mkH [(140,.arr 1 (List.map encB w1))]⟩) ?_
            refine lok_c (y&&((ix l i1).Source==source)) ?_ ?_
            · intro b_9
              replace H1:=cpos H1 b_9
              replace H1:=req_some H1
              obtain ⟨⟨q_7,q_8⟩,H1⟩:=H1
              refine lok_rl E0 (⟨84,mkS [(0,.x (.one (.p (.sl 4 (List.map enc_api_File l))))),(1,.x (.one (.p (pi source)))),(7,.x (.one (.vw 140))),(8,.x (.one (.p (pi i1))))],mkH [(140,.arr 1 (List.map encB (setI w1 ((ix l i1).Number) true)))]⟩) ?_
              try simp only [thenL,blockL,↓reduceIte,reduceCtorEq]
              exact ⟨(setI w1 ((ix l i1).Number) true),H1,imp_au⟩
            · intro b_9
              replace H1:=cneg H1 b_9
              refine lok_skip ?_
              try simp only [thenL,blockL,↓reduceIte,reduceCtorEq]
              exact ⟨w1,H1,imp_au⟩
        · intro b_12
          replace H1:=cneg H1 b_12
          refine lok_exit ?_
          try simp only [thenL,blockL,↓reduceIte,reduceCtorEq]
          have e_1:=k_1 _ (Option.some.inj H1).symm
          subst e_1
          try dsimp only at H0
          try simp only [thenL,blockL,↓reduceIte,reduceCtorEq]
          exact ⟨w1,H0,imp_au⟩
  case hxref03_Gaps_j7 =>
    refine lok_rt E0 (⟨84,mkS [(0,.x (.one (.p (.sl 4 (List.map enc_api_File l))))),(1,.x (.one (.p (pi source)))),(5,.x (.one (.p (pi (-1:Int))))),(6,.x (.one (.p (pi (0:Int)))))],mkH []⟩) ?_
    refine lok_block ?_
    replace H0:=bind_some H0
    obtain ⟨v_14,hv_14,H0⟩:=H0
    refine lok_iter (fun x_ => ⟨84,mkS [(0,.x (.one (.p (.sl 4 (List.map enc_api_File l))))),(1,.x (.one (.p (pi source)))),(5,.x (.one (.p (pi x_.1)))),(6,.x (.one (.p (pi x_.2))))],mkH []⟩) hv_14 imp_au ?_
    · rintro ⟨greatest1,i2⟩ o_1 H1 k_1
      unfold ref03_Gaps_l9 at H1
      try dsimp only at H1 ⊢
      refine lok_seq ?_
      refine lok_rt E0 (⟨84,mkS [(0,.x (.one (.p (.sl 4 (List.map enc_api_File l))))),(1,.x (.one (.p (pi source)))),(5,.x (.one (.p (pi greatest1)))),(6,.x (.one (.p (pi i2)))),(14,.x (.one (.p (.val (.bool (decide (i2<(l.length:Int))))))))],mkH []⟩) ?_
      refine lok_c (decide (i2<(l.length:Int))) ?_ ?_
      · intro b_20
        replace H1:=cpos H1 b_20
        refine lok_skip ?_
        try simp only [thenL,blockL,↓reduceIte,reduceCtorEq]
        refine lok_join (fun x_:Int => ref03_Gaps_j8 i2 x_=some o_1) (fun x_ => ⟨84,mkS [(0,.x (.one (.p (.sl 4 (List.map enc_api_File l))))),(1,.x (.one (.p (pi source)))),(5,.x (.one (.p (pi x_)))),(6,.x (.one (.p (pi i2))))],mkH []⟩) ?hyref03_Gaps_j8 ?hxref03_Gaps_j8
        case hyref03_Gaps_j8 =>
          rintro greatest3 H1
          try dsimp only at H1 ⊢
          unfold ref03_Gaps_j8 at H1
          refine lok_rl E0 (⟨84,mkS [(0,.x (.one (.p (.sl 4 (List.map enc_api_File l))))),(1,.x (.one (.p (pi source)))),(5,.x (.one (.p (pi greatest3)))),(6,.x (.one (.p (pi (IntKind.i64.wrap (i2+(1:Int)))))))],mkH []⟩) ?_
          try simp only [thenL,blockL,↓reduceIte,reduceCtorEq]
          exact ⟨(greatest3,(IntKind.i64.wrap (i2+(1:Int)))),(Option.some.inj H1).symm,imp_au⟩
        case hxref03_Gaps_j8 =>
          refine lok_block ?_
          replace H1:=req_some H1
          obtain ⟨q_18,H1⟩:=H1
          replace H1:=bind_some H1
          obtain ⟨y1,h_15,H1⟩:=H1
          replace H1:=req_some H1
          obtain ⟨q_19,H1⟩:=H1
          refine lok_rt (Env.of E0 [⟨some 21,18,[.agg [.p (.val (.string (bs ((ix l i2).Kind)))),.p (pi ((ix l i2).Source)),.p (pi ((ix l i2).Number)),.p (.sl 1 (List.map encL_encS ((ix l i2).Rows)))]],[],[.one (.p (.val (.bool y1)))],[],True,fun _ => ok_ref03_Valid (ix l i2) y1 h_15,[]⟩]) (⟨84,mkS [(0,.x (.one (.p (.sl 4 (List.map enc_api_File l))))),(1,.x (.one (.p (pi source)))),(5,.x (.one (.p (pi greatest1)))),(6,.x (.one (.p (pi i2)))),(30,.x (.one (.p (.val (.bool (y1&&((ix l i2).Source==source)))))))],mkH []⟩) ?_
          refine lok_c (y1&&((ix l i2).Source==source)) ?_ ?_
          · intro b_17
            replace H1:=cpos H1 b_17
            replace H1:=req_some H1
            obtain ⟨q_16,H1⟩:=H1
            refine lok_rl E0 (⟨84,mkS [(0,.x (.one (.p (.sl 4 (List.map enc_api_File l))))),(1,.x (.one (.p (pi source)))),(5,.x (.one (.p (pi (imax greatest1 ((ix l i2).Number)))))),(6,.x (.one (.p (pi i2))))],mkH []⟩) ?_
            try simp only [thenL,blockL,↓reduceIte,reduceCtorEq]
            exact ⟨(imax greatest1 ((ix l i2).Number)),H1,imp_au⟩
          · intro b_17
            replace H1:=cneg H1 b_17
            refine lok_skip ?_
            try simp only [thenL,blockL,↓reduceIte,reduceCtorEq]
            exact ⟨greatest1,H1,imp_au⟩
      · intro b_20
        replace H1:=cneg H1 b_20
        refine lok_exit ?_
        try simp only [thenL,blockL,↓reduceIte,reduceCtorEq]
        have e_1:=k_1 _ (Option.some.inj H1).symm
        subst e_1
        try dsimp only at H0
        try simp only [thenL,blockL,↓reduceIte,reduceCtorEq]
        exact ⟨greatest1,H0,imp_au⟩
theorem ok_law03_ExchangeGaps (t:List Int) (source:Int) (r_:Bool) (H0:law03_ExchangeGaps t source=some r_):CallOK Tryd.prog 11 [.one (.p (.sl 1 (List.map encI t))),.one (.p (pi source))] [] [.one (.p (.val (.bool r_)))] []:=by
  refine callOK (n:=33) (rs:=[.tmp 4]) (nb:=0) (V:=[]) Tryd.func11 rfl (by kernel_rfl) rfl rfl rfl rfl (Nat.le_of_ble_eq_true rfl) (by decide) ?_
  unfold law03_ExchangeGaps at H0
  refine lok_rt E0 (⟨33,mkS [(0,.x (.one (.p (.sl 1 (List.map encI t))))),(1,.x (.one (.p (pi source))))],mkH []⟩) ?_
  replace H0:=bind_some H0
  obtain ⟨y,h_0,H0⟩:=H0
  refine lok_rt (Env.of E0 [⟨some 9,13,[.one (.p (.sl 1 (List.map encI t)))],[],[.one (.ptr 0 0)],[some (.var [.p (.sl 1 (List.map encI y.L)),.p (pi y.At)])],True,fun _ => ok_make_New t y h_0,[]⟩]) (⟨33,mkS [(1,.x (.one (.p (pi source)))),(5,.x (.one (.ptr 1009 0)))],mkH [(1009,.var [.p (.sl 1 (List.map encI y.L)),.p (pi y.At)])]⟩) ?_
  replace H0:=bind_some H0
  obtain ⟨⟨y1,y2⟩,h_1,H0⟩:=H0
  try dsimp only at H0
  refine lok_rt (Env.of E0 [⟨some 11,29,[.one (.ptr 0 0)],[.var [.p (.sl 1 (List.map encI y.L)),.p (pi y.At)]],[.one (.p (.sl 4 (List.map enc_api_File y1)))],[some (.var [.p (.sl 1 (List.map encI y2.L)),.p (pi y2.At)])],True,fun _ => ok_law03_files y (y1,y2) h_1,[]⟩]) (⟨33,mkS [(1,.x (.one (.p (pi source)))),(5,.x (.one (.ptr 1009 0))),(6,.x (.one (.p (.sl 4 (List.map enc_api_File y1)))))],mkH [(1009,.var [.p (.sl 1 (List.map encI y2.L)),.p (pi y2.At)])]⟩) ?_
  replace H0:=bind_some H0
  obtain ⟨⟨y3,y4⟩,h_2,H0⟩:=H0
  try dsimp only at H0
  refine lok_rt (Env.of E0 [⟨some 13,24,[.one (.ptr 0 0),.one (.p (pi (0:Int))),.one (.p (pi (3:Int)))],[.var [.p (.sl 1 (List.map encI y2.L)),.p (pi y2.At)]],[.one (.p (pi y3))],[some (.var [.p (.sl 1 (List.map encI y4.L)),.p (pi y4.At)])],True,fun _ => ok_make_Tape_Range y2 (0:Int) (3:Int) (y3,y4) h_2,[]⟩]) (⟨33,mkS [(1,.x (.one (.p (pi source)))),(6,.x (.one (.p (.sl 4 (List.map enc_api_File y1))))),(7,.x (.one (.p (pi y3))))],mkH []⟩) ?_
  replace H0:=bind_some H0
  obtain ⟨y5,h_3,H0⟩:=H0
  replace H0:=bind_some H0
  obtain ⟨y6,h_4,H0⟩:=H0
  replace H0:=bind_some H0
  obtain ⟨y7,h_5,H0⟩:=H0
  replace H0:=req_some H0
  obtain ⟨⟨q_6,q_7,q_8,q_9⟩,H0⟩:=H0
  refine lok_rt (Env.of E0 [⟨some 16,31,[.one (.p (.sl 4 (List.map enc_api_File y1))),.one (.p (pi source))],[],[.one (.p (.sl 1 (List.map encI y5)))],[],True,fun _ => ok_exchange_Gaps y1 source y5 h_3,[]⟩,
      ⟨some 19,32,[.one (.p (.sl 4 (List.map enc_api_File y1))),.one (.p (pi source))],[],[.one (.p (.sl 1 (List.map encI y6)))],[],True,fun _ => ok_ref03_Gaps y1 source y6 h_4,[]⟩,
      ⟨some 20,30,[.one (.p (.sl 1 (List.map encI y5))),.one (.p (.sl 1 (List.map encI y6)))],[],[.one (.p (.val (.bool y7)))],[],True,fun _ => ok_law03_ints y5 y6 y7 h_5,[]⟩,
      ⟨some 24,31,[.one (.p (.sl 4 (List.map enc_api_File y1))),.one (.p (pi y3))],[],[.one (.p (.sl 1 (List.map encI ((exchange_Gaps y1 y3).getD default))))],[],(exchange_Gaps y1 y3).isSome=true,fun h => ok_exchange_Gaps y1 y3 _ (isSome_get h),[]⟩,
      ⟨some 27,32,[.one (.p (.sl 4 (List.map enc_api_File y1))),.one (.p (pi y3))],[],[.one (.p (.sl 1 (List.map encI ((ref03_Gaps y1 y3).getD default))))],[],(ref03_Gaps y1 y3).isSome=true,fun h => ok_ref03_Gaps y1 y3 _ (isSome_get h),[]⟩,
      ⟨some 28,30,[.one (.p (.sl 1 (List.map encI ((exchange_Gaps y1 y3).getD default)))),.one (.p (.sl 1 (List.map encI ((ref03_Gaps y1 y3).getD default))))],[],[.one (.p (.val (.bool ((law03_ints ((exchange_Gaps y1 y3).getD default) ((ref03_Gaps y1 y3).getD default)).getD default))))],[],(law03_ints ((exchange_Gaps y1 y3).getD default) ((ref03_Gaps y1 y3).getD default)).isSome=true,fun h => ok_law03_ints ((exchange_Gaps y1 y3).getD default) ((ref03_Gaps y1 y3).getD default) _ (isSome_get h),[]⟩,
      ⟨some 31,19,[],[],[.one (.p (.val (.bool ((law03_awake).getD default))))],[],(law03_awake).isSome=true,fun h => ok_law03_awake _ (isSome_get h),[]⟩]) (⟨33,mkS [(4,.x (.one (.p (.val (.bool ((y7&&((law03_ints ((exchange_Gaps y1 y3).getD default) ((ref03_Gaps y1 y3).getD default)).getD default))&&((law03_awake).getD default)))))))],mkH []⟩) ?_
  refine lok_ret ?_
  try obtain rfl:=Option.some.inj H0
  try simp only [thenL,blockL]
  exact fin_au _ (.inr rfl) [] (⟨33,mkS [(4,.x (.one (.p (.val (.bool ((y7&&((law03_ints ((exchange_Gaps y1 y3).getD default) ((ref03_Gaps y1 y3).getD default)).getD default))&&((law03_awake).getD default)))))))],mkH []⟩) rfl rfl imp_au
end Go.LS
