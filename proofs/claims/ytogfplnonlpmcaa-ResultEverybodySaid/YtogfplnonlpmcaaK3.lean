/-
  The walks: the functions compute what the plain ones say. Condition: the plain function has a value.
-/
import Derived.Test.YtogfplnonlpmcaaK2
import Derived.Test.YtogfplnonlpmcaaD3
namespace Go.LS
open Go.Proofs
set_option linter.all false
set_option linter.unusedSimpArgs false
set_option linter.unusedVariables false
set_option maxRecDepth 20000

theorem ok_aggregate_weighted (a : api_Award) (l : List api_UnitMark) (r_ : api_Ratio × Int × Int) (H0 : aggregate_weighted a l = some r_) : CallOK Try.prog 74 [.agg [.p (.sl 3 (List.map enc_api_Unit a.Units)),.p (.sl 1 (List.map encI a.Bounds)),.p (pi a.Max)],.one (.p (.sl 3 (List.map enc_api_UnitMark l)))] [] [.agg [.p (pi r_.1.Num),.p (pi r_.1.Den)],.one (.p (pi r_.2.1)),.one (.p (pi r_.2.2))] []:=by
  refine callOK (n:=77) (rs:=[.cell 4 36,.tmp 5,.tmp 6]) (nb:=0) (V:=[]) Try.func74 rfl (by kernel_rfl) rfl rfl rfl rfl (Nat.le_of_ble_eq_true rfl) (by decide) ?_
  unfold aggregate_weighted at H0
  refine lok_rt E0 (⟨77,mkS [(1,.x (.one (.p (.sl 3 (List.map enc_api_UnitMark l))))),(2,.x (.one (.ptr 102 0))),(4,.x (.one (.ptr 104 0)))],mkH [(102,.var [.p (.sl 3 (List.map enc_api_Unit a.Units)),.p (.sl 1 (List.map encI a.Bounds)),.p (pi a.Max)]),(104,.var [.p (pi (0:Int)),.p (pi (0:Int))])]⟩) ?_
  refine lok_rt E0 (⟨77,mkS [(1,.x (.one (.p (.sl 3 (List.map enc_api_UnitMark l))))),(2,.x (.one (.ptr 102 0))),(4,.x (.one (.ptr 104 0))),(7,.x (.one (.p (pi (0:Int)))))],mkH [(102,.var [.p (.sl 3 (List.map enc_api_Unit a.Units)),.p (.sl 1 (List.map encI a.Bounds)),.p (pi a.Max)]),(104,.var [.p (pi (0:Int)),.p (pi (0:Int))])]⟩) ?_
  refine lok_rt E0 (⟨77,mkS [(1,.x (.one (.p (.sl 3 (List.map enc_api_UnitMark l))))),(2,.x (.one (.ptr 102 0))),(4,.x (.one (.ptr 104 0))),(7,.x (.one (.p (pi (0:Int))))),(8,.x (.one (.vw 108)))],mkH [(102,.var [.p (.sl 3 (List.map enc_api_Unit a.Units)),.p (.sl 1 (List.map encI a.Bounds)),.p (pi a.Max)]),(104,.var [.p (pi (0:Int)),.p (pi (0:Int))]),(108,.arr 2 (List.map enc_api_Ratio ([] : List api_Ratio)))]⟩) ?_
  refine lok_join (fun x_ : Int × (List api_Ratio) => aggregate_weighted_j1 x_.1 x_.2 = some r_) (fun x_ => ⟨77,mkS [(4,.x (.one (.ptr 104 0))),(7,.x (.one (.p (pi x_.1)))),(8,.x (.one (.vw 108)))],mkH [(104,.var [.p (pi (0:Int)),.p (pi (0:Int))]),(108,.arr 2 (List.map enc_api_Ratio x_.2))]⟩) ?hyaggregate_weighted_j1 ?hxaggregate_weighted_j1
  case hyaggregate_weighted_j1 =>
    rintro ⟨weights,terms⟩ H0
    try dsimp only at H0 ⊢
    unfold aggregate_weighted_j1 at H0
    replace H0:=bind_some H0
    obtain ⟨⟨y,y1⟩,h_0,H0⟩:=H0
    try dsimp only at H0
    refine lok_rt (Env.of E0 [⟨some 71,100,[.one (.p (.sl 2 (List.map enc_api_Ratio terms)))],[],[.agg [.p (pi y.Num),.p (pi y.Den)],.one (.p (pi y1))],[],True,fun _ => ok_ratio_Sum terms (y,y1) h_0,[]⟩]) (⟨77,mkS [(4,.x (.one (.ptr 104 0))),(7,.x (.one (.p (pi weights)))),(15,.x (.one (.ptr 115 0))),(16,.x (.one (.p (pi y1))))],mkH [(104,.var [.p (pi (0:Int)),.p (pi (0:Int))]),(115,.var [.p (pi y.Num),.p (pi y.Den)])]⟩) ?_
    refine lok_rt E0 (⟨77,mkS [(4,.x (.one (.ptr 104 0))),(5,.x (.one (.p (pi weights)))),(6,.x (.one (.p (pi y1))))],mkH [(104,.var [.p (pi y.Num),.p (pi y.Den)])]⟩) ?_
    refine lok_ret ?_
    obtain rfl:=Option.some.inj H0
    try simp only [thenL,blockL]
    exact fin_au _ (.inr rfl) [] (⟨77,mkS [(4,.x (.one (.ptr 104 0))),(5,.x (.one (.p (pi weights)))),(6,.x (.one (.p (pi y1))))],mkH [(104,.var [.p (pi y.Num),.p (pi y.Den)])]⟩) rfl rfl imp_au
  case hxaggregate_weighted_j1 =>
    refine lok_rt E0 (⟨77,mkS [(2,.x (.one (.ptr 102 0))),(4,.x (.one (.ptr 104 0))),(7,.x (.one (.p (pi (0:Int))))),(8,.x (.one (.vw 108))),(17,.x (.one (.p (.sl 3 (List.map enc_api_UnitMark l))))),(18,.x (.one (.p (pi (l.length:Int))))),(19,.x (.one (.p (pi (0:Int)))))],mkH [(102,.var [.p (.sl 3 (List.map enc_api_Unit a.Units)),.p (.sl 1 (List.map encI a.Bounds)),.p (pi a.Max)]),(104,.var [.p (pi (0:Int)),.p (pi (0:Int))]),(108,.arr 2 (List.map enc_api_Ratio ([] : List api_Ratio)))]⟩) ?_
    refine lok_block ?_
    replace H0:=bind_some H0
    obtain ⟨v_1,hv_1,H0⟩:=H0
    refine lok_iter (fun x_ => ⟨77,mkS [(2,.x (.one (.ptr 102 0))),(4,.x (.one (.ptr 104 0))),(7,.x (.one (.p (pi x_.1)))),(8,.x (.one (.vw 108))),(17,.x (.one (.p (.sl 3 (List.map enc_api_UnitMark l))))),(18,.x (.one (.p (pi (l.length:Int))))),(19,.x (.one (.p (pi x_.2.1))))],mkH [(102,.var [.p (.sl 3 (List.map enc_api_Unit a.Units)),.p (.sl 1 (List.map encI a.Bounds)),.p (pi a.Max)]),(104,.var [.p (pi (0:Int)),.p (pi (0:Int))]),(108,.arr 2 (List.map enc_api_Ratio x_.2.2))]⟩) hv_1 imp_au ?_
    · rintro ⟨weights1,v,terms1⟩ o_1 H1 k_1
      unfold aggregate_weighted_l3 at H1
      try dsimp only at H1 ⊢
      refine lok_rt E0 (⟨77,mkS [(2,.x (.one (.ptr 102 0))),(4,.x (.one (.ptr 104 0))),(7,.x (.one (.p (pi weights1)))),(8,.x (.one (.vw 108))),(17,.x (.one (.p (.sl 3 (List.map enc_api_UnitMark l))))),(18,.x (.one (.p (pi (l.length:Int))))),(19,.x (.one (.p (pi v)))),(20,.x (.one (.p (.val (.bool (decide (v < (l.length:Int))))))))],mkH [(102,.var [.p (.sl 3 (List.map enc_api_Unit a.Units)),.p (.sl 1 (List.map encI a.Bounds)),.p (pi a.Max)]),(104,.var [.p (pi (0:Int)),.p (pi (0:Int))]),(108,.arr 2 (List.map enc_api_Ratio terms1))]⟩) ?_
      refine lok_seq ?_
      refine lok_c (decide (v < (l.length:Int))) ?_ ?_
      · intro b_10
        replace H1:=cpos H1 b_10
        refine lok_skip ?_
        try simp only [thenL,blockL,↓reduceIte,reduceCtorEq]
        refine lok_join (fun x_ : Int × (List api_Ratio) => aggregate_weighted_j2 v x_.1 x_.2 = some o_1) (fun x_ => ⟨77,mkS [(2,.x (.one (.ptr 102 0))),(4,.x (.one (.ptr 104 0))),(7,.x (.one (.p (pi x_.1)))),(8,.x (.one (.vw 108))),(17,.x (.one (.p (.sl 3 (List.map enc_api_UnitMark l))))),(18,.x (.one (.p (pi (l.length:Int))))),(19,.x (.one (.p (pi v))))],mkH [(102,.var [.p (.sl 3 (List.map enc_api_Unit a.Units)),.p (.sl 1 (List.map encI a.Bounds)),.p (pi a.Max)]),(104,.var [.p (pi (0:Int)),.p (pi (0:Int))]),(108,.arr 2 (List.map enc_api_Ratio x_.2))]⟩) ?hyaggregate_weighted_j2 ?hxaggregate_weighted_j2
        case hyaggregate_weighted_j2 =>
          rintro ⟨weights3,terms3⟩ H1
          try dsimp only at H1 ⊢
          unfold aggregate_weighted_j2 at H1
          refine lok_rl E0 (⟨77,mkS [(2,.x (.one (.ptr 102 0))),(4,.x (.one (.ptr 104 0))),(7,.x (.one (.p (pi weights3)))),(8,.x (.one (.vw 108))),(17,.x (.one (.p (.sl 3 (List.map enc_api_UnitMark l))))),(18,.x (.one (.p (pi (l.length:Int))))),(19,.x (.one (.p (pi (IntKind.i64.wrap (v + (1:Int)))))))],mkH [(102,.var [.p (.sl 3 (List.map enc_api_Unit a.Units)),.p (.sl 1 (List.map encI a.Bounds)),.p (pi a.Max)]),(104,.var [.p (pi (0:Int)),.p (pi (0:Int))]),(108,.arr 2 (List.map enc_api_Ratio terms3))]⟩) ?_
          try simp only [thenL,blockL,↓reduceIte,reduceCtorEq]
          exact ⟨(weights3,(IntKind.i64.wrap (v + (1:Int))),terms3),(Option.some.inj H1).symm,imp_au⟩
        case hxaggregate_weighted_j2 =>
          refine lok_block ?_
          replace H1:=req_some H1
          obtain ⟨q_9,H1⟩:=H1
          refine lok_rt E0 (⟨77,mkS [(2,.x (.one (.ptr 102 0))),(4,.x (.one (.ptr 104 0))),(7,.x (.one (.p (pi weights1)))),(8,.x (.one (.vw 108))),(9,.x (.one (.p (pi v)))),(10,.x (.one (.ptr 110 0))),(17,.x (.one (.p (.sl 3 (List.map enc_api_UnitMark l))))),(18,.x (.one (.p (pi (l.length:Int))))),(19,.x (.one (.p (pi v))))],mkH [(102,.var [.p (.sl 3 (List.map enc_api_Unit a.Units)),.p (.sl 1 (List.map encI a.Bounds)),.p (pi a.Max)]),(104,.var [.p (pi (0:Int)),.p (pi (0:Int))]),(108,.arr 2 (List.map enc_api_Ratio terms1)),(110,.var [.p (pi ((ix l v).Kind)),.p (pi (((ix l v).Value).Num)),.p (pi (((ix l v).Value).Den))])]⟩) ?_
          refine lok_seq ?_
          refine lok_rt E0 (⟨77,mkS [(2,.x (.one (.ptr 102 0))),(4,.x (.one (.ptr 104 0))),(7,.x (.one (.p (pi weights1)))),(8,.x (.one (.vw 108))),(9,.x (.one (.p (pi v)))),(10,.x (.one (.ptr 110 0))),(17,.x (.one (.p (.sl 3 (List.map enc_api_UnitMark l))))),(18,.x (.one (.p (pi (l.length:Int))))),(19,.x (.one (.p (pi v)))),(31,.x (.one (.p (.val (.bool (((ix l v).Kind != (0:Int)) && ((ix l v).Kind != (1:Int))))))))],mkH [(102,.var [.p (.sl 3 (List.map enc_api_Unit a.Units)),.p (.sl 1 (List.map encI a.Bounds)),.p (pi a.Max)]),(104,.var [.p (pi (0:Int)),.p (pi (0:Int))]),(108,.arr 2 (List.map enc_api_Ratio terms1)),(110,.var [.p (pi ((ix l v).Kind)),.p (pi (((ix l v).Value).Num)),.p (pi (((ix l v).Value).Den))])]⟩) ?_
          refine lok_c (((ix l v).Kind != (0:Int)) && ((ix l v).Kind != (1:Int))) ?_ ?_
          · intro b_8
            replace H1:=cpos H1 b_8
            refine lok_exit ?_
            try simp only [thenL,blockL,↓reduceIte,reduceCtorEq]
            exact ⟨(weights1,terms1),H1,imp_au⟩
          · intro b_8
            replace H1:=cneg H1 b_8
            refine lok_skip ?_
            try simp only [thenL,blockL,↓reduceIte,reduceCtorEq]
            replace H1:=req_some H1
            obtain ⟨q_7,H1⟩:=H1
            refine lok_rt E0 (⟨77,mkS [(2,.x (.one (.ptr 102 0))),(4,.x (.one (.ptr 104 0))),(7,.x (.one (.p (pi weights1)))),(8,.x (.one (.vw 108))),(10,.x (.one (.ptr 110 0))),(11,.x (.one (.ptr 111 0))),(17,.x (.one (.p (.sl 3 (List.map enc_api_UnitMark l))))),(18,.x (.one (.p (pi (l.length:Int))))),(19,.x (.one (.p (pi v))))],mkH [(102,.var [.p (.sl 3 (List.map enc_api_Unit a.Units)),.p (.sl 1 (List.map encI a.Bounds)),.p (pi a.Max)]),(104,.var [.p (pi (0:Int)),.p (pi (0:Int))]),(108,.arr 2 (List.map enc_api_Ratio terms1)),(110,.var [.p (pi ((ix l v).Kind)),.p (pi (((ix l v).Value).Num)),.p (pi (((ix l v).Value).Den))]),(111,.var [.p (pi ((ix a.Units v).Paper)),.p (pi ((ix a.Units v).Weight)),.p (pi ((ix a.Units v).Max))])]⟩) ?_
            refine lok_rt E0 (⟨77,mkS [(2,.x (.one (.ptr 102 0))),(4,.x (.one (.ptr 104 0))),(7,.x (.one (.p (pi (IntKind.i64.wrap (weights1 + (ix a.Units v).Weight)))))),(8,.x (.one (.vw 108))),(10,.x (.one (.ptr 110 0))),(11,.x (.one (.ptr 111 0))),(17,.x (.one (.p (.sl 3 (List.map enc_api_UnitMark l))))),(18,.x (.one (.p (pi (l.length:Int))))),(19,.x (.one (.p (pi v))))],mkH [(102,.var [.p (.sl 3 (List.map enc_api_Unit a.Units)),.p (.sl 1 (List.map encI a.Bounds)),.p (pi a.Max)]),(104,.var [.p (pi (0:Int)),.p (pi (0:Int))]),(108,.arr 2 (List.map enc_api_Ratio terms1)),(110,.var [.p (pi ((ix l v).Kind)),.p (pi (((ix l v).Value).Num)),.p (pi (((ix l v).Value).Den))]),(111,.var [.p (pi ((ix a.Units v).Paper)),.p (pi ((ix a.Units v).Weight)),.p (pi ((ix a.Units v).Max))])]⟩) ?_
            replace H1:=bind_some H1
            obtain ⟨⟨y2,y3⟩,h_2,H1⟩:=H1
            try dsimp only at H1
            refine lok_rt (Env.of E0 [⟨some 46,47,[.one (.p (pi ((ix a.Units v).Weight))),.one (.p (pi ((ix a.Units v).Max)))],[],[.agg [.p (pi y2.Num),.p (pi y2.Den)],.one (.p (pi y3))],[],True,fun _ => ok_ratio_New ((ix a.Units v).Weight) ((ix a.Units v).Max) (y2,y3) h_2,[]⟩]) (⟨77,mkS [(2,.x (.one (.ptr 102 0))),(4,.x (.one (.ptr 104 0))),(7,.x (.one (.p (pi (IntKind.i64.wrap (weights1 + (ix a.Units v).Weight)))))),(8,.x (.one (.vw 108))),(10,.x (.one (.ptr 110 0))),(12,.x (.one (.ptr 112 0))),(13,.x (.one (.p (pi y3)))),(17,.x (.one (.p (.sl 3 (List.map enc_api_UnitMark l))))),(18,.x (.one (.p (pi (l.length:Int))))),(19,.x (.one (.p (pi v))))],mkH [(102,.var [.p (.sl 3 (List.map enc_api_Unit a.Units)),.p (.sl 1 (List.map encI a.Bounds)),.p (pi a.Max)]),(104,.var [.p (pi (0:Int)),.p (pi (0:Int))]),(108,.arr 2 (List.map enc_api_Ratio terms1)),(110,.var [.p (pi ((ix l v).Kind)),.p (pi (((ix l v).Value).Num)),.p (pi (((ix l v).Value).Den))]),(112,.var [.p (pi y2.Num),.p (pi y2.Den)])]⟩) ?_
            refine lok_seq ?_
            refine lok_rt E0 (⟨77,mkS [(2,.x (.one (.ptr 102 0))),(4,.x (.one (.ptr 104 0))),(7,.x (.one (.p (pi (IntKind.i64.wrap (weights1 + (ix a.Units v).Weight)))))),(8,.x (.one (.vw 108))),(10,.x (.one (.ptr 110 0))),(12,.x (.one (.ptr 112 0))),(13,.x (.one (.p (pi y3)))),(17,.x (.one (.p (.sl 3 (List.map enc_api_UnitMark l))))),(18,.x (.one (.p (pi (l.length:Int))))),(19,.x (.one (.p (pi v)))),(50,.x (.one (.p (.val (.bool (y3 != (0:Int)))))))],mkH [(102,.var [.p (.sl 3 (List.map enc_api_Unit a.Units)),.p (.sl 1 (List.map encI a.Bounds)),.p (pi a.Max)]),(104,.var [.p (pi (0:Int)),.p (pi (0:Int))]),(108,.arr 2 (List.map enc_api_Ratio terms1)),(110,.var [.p (pi ((ix l v).Kind)),.p (pi (((ix l v).Value).Num)),.p (pi (((ix l v).Value).Den))]),(112,.var [.p (pi y2.Num),.p (pi y2.Den)])]⟩) ?_
            refine lok_c (y3 != (0:Int)) ?_ ?_
            · intro b_6
              replace H1:=cpos H1 b_6
              refine lok_rt E0 (⟨77,mkS [(4,.x (.one (.ptr 104 0))),(5,.x (.one (.p (pi (0:Int))))),(6,.x (.one (.p (pi y3))))],mkH [(104,.var [.p (pi (0:Int)),.p (pi (0:Int))])]⟩) ?_
              refine lok_ret ?_
              try simp only [thenL,blockL,↓reduceIte,reduceCtorEq]
              have e_1:=k_1 _ (Option.some.inj H1).symm
              subst e_1
              try dsimp only at H0
              obtain rfl:=Option.some.inj H0
              try simp only [thenL,blockL]
              exact fin_au _ (.inr rfl) [] (⟨77,mkS [(4,.x (.one (.ptr 104 0))),(5,.x (.one (.p (pi (0:Int))))),(6,.x (.one (.p (pi y3))))],mkH [(104,.var [.p (pi (0:Int)),.p (pi (0:Int))])]⟩) rfl rfl imp_au
            · intro b_6
              replace H1:=cneg H1 b_6
              refine lok_skip ?_
              try simp only [thenL,blockL,↓reduceIte,reduceCtorEq]
              replace H1:=bind_some H1
              obtain ⟨⟨y4,y5⟩,h_3,H1⟩:=H1
              try dsimp only at H1
              refine lok_rt (Env.of E0 [⟨some 57,75,[.agg [.p (pi (((ix l v).Value).Num)),.p (pi (((ix l v).Value).Den))],.agg [.p (pi y2.Num),.p (pi y2.Den)]],[],[.agg [.p (pi y4.Num),.p (pi y4.Den)],.one (.p (pi y5))],[],True,fun _ => ok_ratio_Mul ((ix l v).Value) y2 (y4,y5) h_3,[]⟩]) (⟨77,mkS [(2,.x (.one (.ptr 102 0))),(4,.x (.one (.ptr 104 0))),(7,.x (.one (.p (pi (IntKind.i64.wrap (weights1 + (ix a.Units v).Weight)))))),(8,.x (.one (.vw 108))),(13,.x (.one (.p (pi y5)))),(14,.x (.one (.ptr 114 0))),(17,.x (.one (.p (.sl 3 (List.map enc_api_UnitMark l))))),(18,.x (.one (.p (pi (l.length:Int))))),(19,.x (.one (.p (pi v))))],mkH [(102,.var [.p (.sl 3 (List.map enc_api_Unit a.Units)),.p (.sl 1 (List.map encI a.Bounds)),.p (pi a.Max)]),(104,.var [.p (pi (0:Int)),.p (pi (0:Int))]),(108,.arr 2 (List.map enc_api_Ratio terms1)),(114,.var [.p (pi y4.Num),.p (pi y4.Den)])]⟩) ?_
              refine lok_seq ?_
              refine lok_rt E0 (⟨77,mkS [(2,.x (.one (.ptr 102 0))),(4,.x (.one (.ptr 104 0))),(7,.x (.one (.p (pi (IntKind.i64.wrap (weights1 + (ix a.Units v).Weight)))))),(8,.x (.one (.vw 108))),(13,.x (.one (.p (pi y5)))),(14,.x (.one (.ptr 114 0))),(17,.x (.one (.p (.sl 3 (List.map enc_api_UnitMark l))))),(18,.x (.one (.p (pi (l.length:Int))))),(19,.x (.one (.p (pi v)))),(61,.x (.one (.p (.val (.bool (y5 != (0:Int)))))))],mkH [(102,.var [.p (.sl 3 (List.map enc_api_Unit a.Units)),.p (.sl 1 (List.map encI a.Bounds)),.p (pi a.Max)]),(104,.var [.p (pi (0:Int)),.p (pi (0:Int))]),(108,.arr 2 (List.map enc_api_Ratio terms1)),(114,.var [.p (pi y4.Num),.p (pi y4.Den)])]⟩) ?_
              refine lok_c (y5 != (0:Int)) ?_ ?_
              · intro b_5
                replace H1:=cpos H1 b_5
                refine lok_rt E0 (⟨77,mkS [(4,.x (.one (.ptr 104 0))),(5,.x (.one (.p (pi (0:Int))))),(6,.x (.one (.p (pi y5))))],mkH [(104,.var [.p (pi (0:Int)),.p (pi (0:Int))])]⟩) ?_
                refine lok_ret ?_
                try simp only [thenL,blockL,↓reduceIte,reduceCtorEq]
                have e_1:=k_1 _ (Option.some.inj H1).symm
                subst e_1
                try dsimp only at H0
                obtain rfl:=Option.some.inj H0
                try simp only [thenL,blockL]
                exact fin_au _ (.inr rfl) [] (⟨77,mkS [(4,.x (.one (.ptr 104 0))),(5,.x (.one (.p (pi (0:Int))))),(6,.x (.one (.p (pi y5))))],mkH [(104,.var [.p (pi (0:Int)),.p (pi (0:Int))])]⟩) rfl rfl imp_au
              · intro b_5
                replace H1:=cneg H1 b_5
                refine lok_skip ?_
                try simp only [thenL,blockL,↓reduceIte,reduceCtorEq]
                replace H1:=req_some H1
                obtain ⟨q_4,H1⟩:=H1
                refine lok_rl E0 (⟨77,mkS [(2,.x (.one (.ptr 102 0))),(4,.x (.one (.ptr 104 0))),(7,.x (.one (.p (pi (IntKind.i64.wrap (weights1 + (ix a.Units v).Weight)))))),(8,.x (.one (.vw 108))),(17,.x (.one (.p (.sl 3 (List.map enc_api_UnitMark l))))),(18,.x (.one (.p (pi (l.length:Int))))),(19,.x (.one (.p (pi v))))],mkH [(102,.var [.p (.sl 3 (List.map enc_api_Unit a.Units)),.p (.sl 1 (List.map encI a.Bounds)),.p (pi a.Max)]),(104,.var [.p (pi (0:Int)),.p (pi (0:Int))]),(108,.arr 2 (List.map enc_api_Ratio (terms1 ++ [y4])))]⟩) ?_
                try simp only [thenL,blockL,↓reduceIte,reduceCtorEq]
                exact ⟨((IntKind.i64.wrap (weights1 + (ix a.Units v).Weight)),(terms1 ++ [y4])),H1,imp_au⟩
      · intro b_10
        replace H1:=cneg H1 b_10
        refine lok_exit ?_
        try simp only [thenL,blockL,↓reduceIte,reduceCtorEq]
        have e_1:=k_1 _ (Option.some.inj H1).symm
        subst e_1
        try dsimp only at H0
        try simp only [thenL,blockL,↓reduceIte,reduceCtorEq]
        exact ⟨(weights1,terms1),H0,imp_au⟩
theorem ok_aggregate_scaled (a : api_Award) (l : List api_UnitMark) (most:Int) (r_ : api_Ratio × Int) (H0 : aggregate_scaled a l most = some r_) : CallOK Try.prog 46 [.agg [.p (.sl 3 (List.map enc_api_Unit a.Units)),.p (.sl 1 (List.map encI a.Bounds)),.p (pi a.Max)],.one (.p (.sl 3 (List.map enc_api_UnitMark l))),.one (.p (pi most))] [] [.agg [.p (pi r_.1.Num),.p (pi r_.1.Den)],.one (.p (pi r_.2))] []:=by
  refine callOK (n:=38) (rs:=[.cell 6 36,.tmp 7]) (nb:=0) (V:=[]) Try.func46 rfl (by kernel_rfl) rfl rfl rfl rfl (Nat.le_of_ble_eq_true rfl) (by decide) ?_
  unfold aggregate_scaled at H0
  refine lok_rt E0 (⟨38,mkS [(1,.x (.one (.p (.sl 3 (List.map enc_api_UnitMark l))))),(2,.x (.one (.p (pi most)))),(3,.x (.one (.ptr 103 0))),(6,.x (.one (.ptr 106 0)))],mkH [(103,.var [.p (.sl 3 (List.map enc_api_Unit a.Units)),.p (.sl 1 (List.map encI a.Bounds)),.p (pi a.Max)]),(106,.var [.p (pi (0:Int)),.p (pi (0:Int))])]⟩) ?_
  replace H0:=bind_some H0
  obtain ⟨⟨y,y1,y2⟩,h_0,H0⟩:=H0
  try dsimp only at H0
  refine lok_rt (Env.of E0 [⟨some 15,74,[.agg [.p (.sl 3 (List.map enc_api_Unit a.Units)),.p (.sl 1 (List.map encI a.Bounds)),.p (pi a.Max)],.one (.p (.sl 3 (List.map enc_api_UnitMark l)))],[],[.agg [.p (pi y.Num),.p (pi y.Den)],.one (.p (pi y1)),.one (.p (pi y2))],[],True,fun _ => ok_aggregate_weighted a l (y,y1,y2) h_0,[]⟩]) (⟨38,mkS [(2,.x (.one (.p (pi most)))),(6,.x (.one (.ptr 106 0))),(8,.x (.one (.ptr 108 0))),(9,.x (.one (.p (pi y1)))),(10,.x (.one (.p (pi y2))))],mkH [(106,.var [.p (pi (0:Int)),.p (pi (0:Int))]),(108,.var [.p (pi y.Num),.p (pi y.Den)])]⟩) ?_
  refine lok_seq ?_
  refine lok_rt E0 (⟨38,mkS [(2,.x (.one (.p (pi most)))),(6,.x (.one (.ptr 106 0))),(8,.x (.one (.ptr 108 0))),(9,.x (.one (.p (pi y1)))),(10,.x (.one (.p (pi y2)))),(20,.x (.one (.p (.val (.bool (y2 != (0:Int)))))))],mkH [(106,.var [.p (pi (0:Int)),.p (pi (0:Int))]),(108,.var [.p (pi y.Num),.p (pi y.Den)])]⟩) ?_
  refine lok_c (y2 != (0:Int)) ?_ ?_
  · intro b_4
    replace H0:=cpos H0 b_4
    refine lok_rt E0 (⟨38,mkS [(6,.x (.one (.ptr 106 0))),(7,.x (.one (.p (pi y2))))],mkH [(106,.var [.p (pi (0:Int)),.p (pi (0:Int))])]⟩) ?_
    refine lok_ret ?_
    obtain rfl:=Option.some.inj H0
    try simp only [thenL,blockL]
    exact fin_au _ (.inr rfl) [] (⟨38,mkS [(6,.x (.one (.ptr 106 0))),(7,.x (.one (.p (pi y2))))],mkH [(106,.var [.p (pi (0:Int)),.p (pi (0:Int))])]⟩) rfl rfl imp_au
  · intro b_4
    replace H0:=cneg H0 b_4
    refine lok_skip ?_
    try simp only [thenL,blockL,↓reduceIte,reduceCtorEq]
    replace H0:=bind_some H0
    obtain ⟨⟨y3,y4⟩,h_1,H0⟩:=H0
    try dsimp only at H0
    refine lok_rt (Env.of E0 [⟨some 26,47,[.one (.p (pi most)),.one (.p (pi y1))],[],[.agg [.p (pi y3.Num),.p (pi y3.Den)],.one (.p (pi y4))],[],True,fun _ => ok_ratio_New most y1 (y3,y4) h_1,[]⟩]) (⟨38,mkS [(6,.x (.one (.ptr 106 0))),(8,.x (.one (.ptr 108 0))),(10,.x (.one (.p (pi y4)))),(11,.x (.one (.ptr 111 0)))],mkH [(106,.var [.p (pi (0:Int)),.p (pi (0:Int))]),(108,.var [.p (pi y.Num),.p (pi y.Den)]),(111,.var [.p (pi y3.Num),.p (pi y3.Den)])]⟩) ?_
    refine lok_seq ?_
    refine lok_rt E0 (⟨38,mkS [(6,.x (.one (.ptr 106 0))),(8,.x (.one (.ptr 108 0))),(10,.x (.one (.p (pi y4)))),(11,.x (.one (.ptr 111 0))),(30,.x (.one (.p (.val (.bool (y4 != (0:Int)))))))],mkH [(106,.var [.p (pi (0:Int)),.p (pi (0:Int))]),(108,.var [.p (pi y.Num),.p (pi y.Den)]),(111,.var [.p (pi y3.Num),.p (pi y3.Den)])]⟩) ?_
    refine lok_c (y4 != (0:Int)) ?_ ?_
    · intro b_3
      replace H0:=cpos H0 b_3
      refine lok_rt E0 (⟨38,mkS [(6,.x (.one (.ptr 106 0))),(7,.x (.one (.p (pi y4))))],mkH [(106,.var [.p (pi (0:Int)),.p (pi (0:Int))])]⟩) ?_
      refine lok_ret ?_
      obtain rfl:=Option.some.inj H0
      try simp only [thenL,blockL]
      exact fin_au _ (.inr rfl) [] (⟨38,mkS [(6,.x (.one (.ptr 106 0))),(7,.x (.one (.p (pi y4))))],mkH [(106,.var [.p (pi (0:Int)),.p (pi (0:Int))])]⟩) rfl rfl imp_au
    · intro b_3
      replace H0:=cneg H0 b_3
      refine lok_skip ?_
      try simp only [thenL,blockL,↓reduceIte,reduceCtorEq]
      replace H0:=bind_some H0
      obtain ⟨⟨y5,y6⟩,h_2,H0⟩:=H0
      try dsimp only at H0
      refine lok_rt (Env.of E0 [⟨some 35,75,[.agg [.p (pi y.Num),.p (pi y.Den)],.agg [.p (pi y3.Num),.p (pi y3.Den)]],[],[.agg [.p (pi y5.Num),.p (pi y5.Den)],.one (.p (pi y6))],[],True,fun _ => ok_ratio_Mul y y3 (y5,y6) h_2,[]⟩]) (⟨38,mkS [(6,.x (.one (.ptr 106 0))),(7,.x (.one (.p (pi y6))))],mkH [(106,.var [.p (pi y5.Num),.p (pi y5.Den)])]⟩) ?_
      refine lok_ret ?_
      obtain rfl:=Option.some.inj H0
      try simp only [thenL,blockL]
      exact fin_au _ (.inr rfl) [] (⟨38,mkS [(6,.x (.one (.ptr 106 0))),(7,.x (.one (.p (pi y6))))],mkH [(106,.var [.p (pi y5.Num),.p (pi y5.Den)])]⟩) rfl rfl imp_au
theorem ok_ratio_Add (a : api_Ratio) (b : api_Ratio) (r_ : api_Ratio × Int) (H0 : ratio_Add a b = some r_) : CallOK Try.prog 48 [.agg [.p (pi a.Num),.p (pi a.Den)],.agg [.p (pi b.Num),.p (pi b.Den)]] [] [.agg [.p (pi r_.1.Num),.p (pi r_.1.Den)],.one (.p (pi r_.2))] []:=by
  refine callOK (n:=64) (rs:=[.cell 4 36,.tmp 5]) (nb:=0) (V:=[]) Try.func48 rfl (by kernel_rfl) rfl rfl rfl rfl (Nat.le_of_ble_eq_true rfl) (by decide) ?_
  unfold ratio_Add at H0
  refine lok_rt E0 (⟨64,mkS [(2,.x (.one (.ptr 102 0))),(3,.x (.one (.ptr 103 0))),(4,.x (.one (.ptr 104 0)))],mkH [(102,.var [.p (pi a.Num),.p (pi a.Den)]),(103,.var [.p (pi b.Num),.p (pi b.Den)]),(104,.var [.p (pi (0:Int)),.p (pi (0:Int))])]⟩) ?_
  refine lok_seq ?_
  replace H0:=bind_some H0
  obtain ⟨y,h_0,H0⟩:=H0
  replace H0:=req_some H0
  obtain ⟨q_15,H0⟩:=H0
  refine lok_rt (Env.of E0 [⟨some 12,78,[.agg [.p (pi a.Num),.p (pi a.Den)]],[],[.one (.p (.val (.bool y)))],[],True,fun _ => ok_ratio_Valid a y h_0,[]⟩,
      ⟨some 16,78,[.agg [.p (pi b.Num),.p (pi b.Den)]],[],[.one (.p (.val (.bool ((ratio_Valid b).getD default))))],[],(ratio_Valid b).isSome = true,fun h => ok_ratio_Valid b _ (isSome_get h),[]⟩]) (⟨64,mkS [(2,.x (.one (.ptr 102 0))),(3,.x (.one (.ptr 103 0))),(4,.x (.one (.ptr 104 0))),(18,.x (.one (.p (.val (.bool ((!y) || (!((ratio_Valid b).getD default))))))))],mkH [(102,.var [.p (pi a.Num),.p (pi a.Den)]),(103,.var [.p (pi b.Num),.p (pi b.Den)]),(104,.var [.p (pi (0:Int)),.p (pi (0:Int))])]⟩) ?_
  refine lok_c ((!y) || (!((ratio_Valid b).getD default))) ?_ ?_
  · intro b_14
    replace H0:=cpos H0 b_14
    refine lok_rt E0 (⟨64,mkS [(4,.x (.one (.ptr 104 0))),(5,.x (.one (.p (pi (1:Int)))))],mkH [(104,.var [.p (pi (0:Int)),.p (pi (0:Int))])]⟩) ?_
    refine lok_ret ?_
    obtain rfl:=Option.some.inj H0
    try simp only [thenL,blockL]
    exact fin_au _ (.inr rfl) [] (⟨64,mkS [(4,.x (.one (.ptr 104 0))),(5,.x (.one (.p (pi (1:Int)))))],mkH [(104,.var [.p (pi (0:Int)),.p (pi (0:Int))])]⟩) rfl rfl imp_au
  · intro b_14
    replace H0:=cneg H0 b_14
    refine lok_skip ?_
    try simp only [thenL,blockL,↓reduceIte,reduceCtorEq]
    refine lok_dt E0 7 (⟨64,mkS [(2,.x (.one (.ptr 102 0))),(3,.x (.one (.ptr 103 0))),(4,.x (.one (.ptr 104 0))),(6,.x (.one (.p (.val (.int .u64 (IntKind.u64.wrap a.Den)))))),(7,.x (.one (.p (.val (.int .u64 (IntKind.u64.wrap b.Den))))))],mkH [(102,.var [.p (pi a.Num),.p (pi a.Den)]),(103,.var [.p (pi b.Num),.p (pi b.Den)]),(104,.var [.p (pi (0:Int)),.p (pi (0:Int))])]⟩) (by kernel_rfl) (by kernel_rfl) ?_
    replace H0:=bind_some H0
    obtain ⟨y1,h_1,H0⟩:=H0
    refine lok_rt (Env.of E0 [⟨some 28,79,[.one (.p (.val (.int .u64 (IntKind.u64.wrap a.Den)))),.one (.p (.val (.int .u64 (IntKind.u64.wrap b.Den))))],[],[.one (.p (.val (.int .u64 y1)))],[],True,fun _ => ok_ratio_gcd (IntKind.u64.wrap a.Den) (IntKind.u64.wrap b.Den) y1 h_1,[]⟩]) (⟨64,mkS [(2,.x (.one (.ptr 102 0))),(3,.x (.one (.ptr 103 0))),(4,.x (.one (.ptr 104 0))),(6,.x (.one (.p (.val (.int .u64 (IntKind.u64.wrap a.Den)))))),(7,.x (.one (.p (.val (.int .u64 (IntKind.u64.wrap b.Den)))))),(8,.x (.one (.p (.val (.int .u64 y1)))))],mkH [(102,.var [.p (pi a.Num),.p (pi a.Den)]),(103,.var [.p (pi b.Num),.p (pi b.Den)]),(104,.var [.p (pi (0:Int)),.p (pi (0:Int))])]⟩) ?_
    replace H0:=req_some H0
    obtain ⟨q_12,H0⟩:=H0
    replace H0:=bind_some H0
    obtain ⟨y2,h_2,H0⟩:=H0
    replace H0:=req_some H0
    obtain ⟨q_13,H0⟩:=H0
    replace H0:=bind_some H0
    obtain ⟨y3,h_3,H0⟩:=H0
    replace H0:=bind_some H0
    obtain ⟨y4,h_4,H0⟩:=H0
    refine lok_et (Env.of E0 [⟨some 34,80,[.one (.p (pi a.Num)),.one (.p (.val (.int .u64 (IntKind.u64.wrap (Int.tdiv (IntKind.u64.wrap b.Den) y1)))))],[],[.agg [.p (.val (.bool y2.neg)),.p (.val (.int .u64 y2.abs.hi)),.p (.val (.int .u64 y2.abs.lo))]],[],True,fun _ => ok_ratio_signedProduct a.Num (IntKind.u64.wrap (Int.tdiv (IntKind.u64.wrap b.Den) y1)) y2 h_2,[]⟩,
      ⟨some 40,80,[.one (.p (pi b.Num)),.one (.p (.val (.int .u64 (IntKind.u64.wrap (Int.tdiv (IntKind.u64.wrap a.Den) y1)))))],[],[.agg [.p (.val (.bool y3.neg)),.p (.val (.int .u64 y3.abs.hi)),.p (.val (.int .u64 y3.abs.lo))]],[],True,fun _ => ok_ratio_signedProduct b.Num (IntKind.u64.wrap (Int.tdiv (IntKind.u64.wrap a.Den) y1)) y3 h_3,[]⟩,
      ⟨some 41,81,[.agg [.p (.val (.bool y2.neg)),.p (.val (.int .u64 y2.abs.hi)),.p (.val (.int .u64 y2.abs.lo))],.agg [.p (.val (.bool y3.neg)),.p (.val (.int .u64 y3.abs.hi)),.p (.val (.int .u64 y3.abs.lo))]],[],[.agg [.p (.val (.bool y4.neg)),.p (.val (.int .u64 y4.abs.hi)),.p (.val (.int .u64 y4.abs.lo))]],[],True,fun _ => ok_ratio_signed_plus y2 y3 y4 h_4,[]⟩]) 64 [⟨[(2,.x (.one (.ptr 102 0)))],[],[(29,.x (.one (.ptr 102 0)))],[],none⟩,
      ⟨[(29,.x (.one (.ptr 102 0)))],[(102,some (.var [.p (pi a.Num),.p (pi a.Den)]))],[(30,.x (.one (.p (pi a.Num))))],[],none⟩,
      ⟨[(7,.x (.one (.p (.val (.int .u64 (IntKind.u64.wrap b.Den))))))],[],[(31,.x (.one (.p (.val (.int .u64 (IntKind.u64.wrap b.Den))))))],[],none⟩,
      ⟨[(8,.x (.one (.p (.val (.int .u64 y1)))))],[],[(32,.x (.one (.p (.val (.int .u64 y1)))))],[],none⟩,
      ⟨[(31,.x (.one (.p (.val (.int .u64 (IntKind.u64.wrap b.Den)))))),(32,.x (.one (.p (.val (.int .u64 y1)))))],[],[(33,.x (.one (.p (.val (.int .u64 (IntKind.u64.wrap (Int.tdiv (IntKind.u64.wrap b.Den) y1)))))))],[],none⟩,
      ⟨[(30,.x (.one (.p (pi a.Num)))),(33,.x (.one (.p (.val (.int .u64 (IntKind.u64.wrap (Int.tdiv (IntKind.u64.wrap b.Den) y1)))))))],[],[(34,.x (.agg [.p (.val (.bool y2.neg)),.p (.val (.int .u64 y2.abs.hi)),.p (.val (.int .u64 y2.abs.lo))]))],[],none⟩,
      ⟨[(3,.x (.one (.ptr 103 0)))],[],[(35,.x (.one (.ptr 103 0)))],[],none⟩,
      ⟨[(35,.x (.one (.ptr 103 0)))],[(103,some (.var [.p (pi b.Num),.p (pi b.Den)]))],[(36,.x (.one (.p (pi b.Num))))],[],none⟩,
      ⟨[(6,.x (.one (.p (.val (.int .u64 (IntKind.u64.wrap a.Den))))))],[],[(37,.x (.one (.p (.val (.int .u64 (IntKind.u64.wrap a.Den))))))],[],none⟩,
      ⟨[(8,.x (.one (.p (.val (.int .u64 y1)))))],[],[(38,.x (.one (.p (.val (.int .u64 y1)))))],[],none⟩,
      ⟨[(37,.x (.one (.p (.val (.int .u64 (IntKind.u64.wrap a.Den)))))),(38,.x (.one (.p (.val (.int .u64 y1)))))],[],[(39,.x (.one (.p (.val (.int .u64 (IntKind.u64.wrap (Int.tdiv (IntKind.u64.wrap a.Den) y1)))))))],[],none⟩,
      ⟨[(36,.x (.one (.p (pi b.Num)))),(39,.x (.one (.p (.val (.int .u64 (IntKind.u64.wrap (Int.tdiv (IntKind.u64.wrap a.Den) y1)))))))],[],[(40,.x (.agg [.p (.val (.bool y3.neg)),.p (.val (.int .u64 y3.abs.hi)),.p (.val (.int .u64 y3.abs.lo))]))],[],none⟩,
      ⟨[(34,.x (.agg [.p (.val (.bool y2.neg)),.p (.val (.int .u64 y2.abs.hi)),.p (.val (.int .u64 y2.abs.lo))])),(40,.x (.agg [.p (.val (.bool y3.neg)),.p (.val (.int .u64 y3.abs.hi)),.p (.val (.int .u64 y3.abs.lo))]))],[],[(41,.x (.agg [.p (.val (.bool y4.neg)),.p (.val (.int .u64 y4.abs.hi)),.p (.val (.int .u64 y4.abs.lo))]))],[],none⟩,
      ⟨[],[(109,none)],[(9,.x (.one (.ptr 109 0)))],[(109,some (.var [.p (.val (.bool false)),.p (.val (.int .u64 (0:Int))),.p (.val (.int .u64 (0:Int)))]))],some 109⟩] (⟨64,mkS [(4,.x (.one (.ptr 104 0))),(6,.x (.one (.p (.val (.int .u64 (IntKind.u64.wrap a.Den)))))),(7,.x (.one (.p (.val (.int .u64 (IntKind.u64.wrap b.Den)))))),(8,.x (.one (.p (.val (.int .u64 y1))))),(9,.x (.one (.ptr 109 0)))],mkH [(104,.var [.p (pi (0:Int)),.p (pi (0:Int))]),(109,.var [.p (.val (.bool y4.neg)),.p (.val (.int .u64 y4.abs.hi)),.p (.val (.int .u64 y4.abs.lo))])]⟩) (by kernel_rfl) (by kernel_rfl) (by kernel_rfl) rfl rfl rfl ?_
    replace H0:=bind_some H0
    obtain ⟨y5,h_5,H0⟩:=H0
    replace H0:=bind_some H0
    obtain ⟨y6,h_6,H0⟩:=H0
    refine lok_rt (Env.of E0 [⟨some 45,82,[.agg [.p (.val (.int .u64 y4.abs.hi)),.p (.val (.int .u64 y4.abs.lo))],.one (.p (.val (.int .u64 y1)))],[],[.one (.p (.val (.int .u64 y5)))],[],True,fun _ => ok_ratio_wide_mod y4.abs y1 y5 h_5,[]⟩,
      ⟨some 47,79,[.one (.p (.val (.int .u64 y5))),.one (.p (.val (.int .u64 y1)))],[],[.one (.p (.val (.int .u64 y6)))],[],True,fun _ => ok_ratio_gcd y5 y1 y6 h_6,[]⟩]) (⟨64,mkS [(4,.x (.one (.ptr 104 0))),(6,.x (.one (.p (.val (.int .u64 (IntKind.u64.wrap a.Den)))))),(7,.x (.one (.p (.val (.int .u64 (IntKind.u64.wrap b.Den)))))),(8,.x (.one (.p (.val (.int .u64 y1))))),(9,.x (.one (.ptr 109 0))),(10,.x (.one (.p (.val (.int .u64 y6)))))],mkH [(104,.var [.p (pi (0:Int)),.p (pi (0:Int))]),(109,.var [.p (.val (.bool y4.neg)),.p (.val (.int .u64 y4.abs.hi)),.p (.val (.int .u64 y4.abs.lo))])]⟩) ?_
    replace H0:=bind_some H0
    obtain ⟨y7,h_7,H0⟩:=H0
    replace H0:=req_some H0
    obtain ⟨⟨q_10,q_11⟩,H0⟩:=H0
    replace H0:=bind_some H0
    obtain ⟨y8,h_8,H0⟩:=H0
    replace H0:=bind_some H0
    obtain ⟨⟨y9,y10⟩,h_9,H0⟩:=H0
    try dsimp only at H0
    refine lok_dt (Env.of E0 [⟨some 53,84,[.agg [.p (.val (.int .u64 y4.abs.hi)),.p (.val (.int .u64 y4.abs.lo))],.one (.p (.val (.int .u64 y6)))],[],[.agg [.p (.val (.int .u64 y7.hi)),.p (.val (.int .u64 y7.lo))]],[],True,fun _ => ok_ratio_wide_over y4.abs y6 y7 h_7,[]⟩,
      ⟨some 60,85,[.one (.p (.val (.int .u64 (IntKind.u64.wrap (Int.tdiv (IntKind.u64.wrap a.Den) y1))))),.one (.p (.val (.int .u64 (IntKind.u64.wrap (Int.tdiv (IntKind.u64.wrap b.Den) y6)))))],[],[.agg [.p (.val (.int .u64 y8.hi)),.p (.val (.int .u64 y8.lo))]],[],True,fun _ => ok_ratio_product (IntKind.u64.wrap (Int.tdiv (IntKind.u64.wrap a.Den) y1)) (IntKind.u64.wrap (Int.tdiv (IntKind.u64.wrap b.Den) y6)) y8 h_8,[]⟩,
      ⟨some 61,83,[.one (.p (.val (.bool y4.neg))),.agg [.p (.val (.int .u64 y7.hi)),.p (.val (.int .u64 y7.lo))],.agg [.p (.val (.int .u64 y8.hi)),.p (.val (.int .u64 y8.lo))]],[],[.agg [.p (pi y9.Num),.p (pi y9.Den)],.one (.p (pi y10))],[],True,fun _ => ok_ratio_fitted y4.neg y7 y8 (y9,y10) h_9,[]⟩]) 16 (⟨64,mkS [(4,.x (.one (.ptr 104 0))),(5,.x (.one (.p (pi y10))))],mkH [(104,.var [.p (pi y9.Num),.p (pi y9.Den)])]⟩) (by kernel_rfl) (by kernel_rfl) ?_
    refine lok_ret ?_
    obtain rfl:=Option.some.inj H0
    try simp only [thenL,blockL]
    exact fin_au _ (.inr rfl) [] (⟨64,mkS [(4,.x (.one (.ptr 104 0))),(5,.x (.one (.p (pi y10))))],mkH [(104,.var [.p (pi y9.Num),.p (pi y9.Den)])]⟩) rfl rfl imp_au
theorem ok_ratio_Less (a : api_Ratio) (b : api_Ratio) (r_ : Bool) (H0 : ratio_Less a b = some r_) : CallOK Try.prog 49 [.agg [.p (pi a.Num),.p (pi a.Den)],.agg [.p (pi b.Num),.p (pi b.Den)]] [] [.one (.p (.val (.bool r_)))] []:=by
  refine callOK (n:=9) (rs:=[.tmp 4]) (nb:=0) (V:=[]) Try.func49 rfl (by kernel_rfl) rfl rfl rfl rfl (Nat.le_of_ble_eq_true rfl) (by decide) ?_
  unfold ratio_Less at H0
  refine lok_rt E0 (⟨9,mkS [(2,.x (.one (.ptr 102 0))),(3,.x (.one (.ptr 103 0)))],mkH [(102,.var [.p (pi a.Num),.p (pi a.Den)]),(103,.var [.p (pi b.Num),.p (pi b.Den)])]⟩) ?_
  replace H0:=bind_some H0
  obtain ⟨y,h_0,H0⟩:=H0
  refine lok_rt (Env.of E0 [⟨some 7,86,[.agg [.p (pi a.Num),.p (pi a.Den)],.agg [.p (pi b.Num),.p (pi b.Den)]],[],[.one (.p (pi y))],[],True,fun _ => ok_ratio_Compare a b y h_0,[]⟩]) (⟨9,mkS [(4,.x (.one (.p (.val (.bool (y == (-1:Int)))))))],mkH []⟩) ?_
  refine lok_ret ?_
  obtain rfl:=Option.some.inj H0
  try simp only [thenL,blockL]
  exact fin_au _ (.inr rfl) [] (⟨9,mkS [(4,.x (.one (.p (.val (.bool (y == (-1:Int)))))))],mkH []⟩) rfl rfl imp_au
theorem ok_aggregate_Exact (a : api_Award) (l : List api_UnitMark) (special:Int) (r_ : api_Ratio × Int) (H0 : aggregate_Exact a l special = some r_) : CallOK Try.prog 21 [.agg [.p (.sl 3 (List.map enc_api_Unit a.Units)),.p (.sl 1 (List.map encI a.Bounds)),.p (pi a.Max)],.one (.p (.sl 3 (List.map enc_api_UnitMark l))),.one (.p (pi special))] [] [.agg [.p (pi r_.1.Num),.p (pi r_.1.Den)],.one (.p (pi r_.2))] []:=by
  refine callOK (n:=76) (rs:=[.cell 6 36,.tmp 7]) (nb:=0) (V:=[]) Try.func21 rfl (by kernel_rfl) rfl rfl rfl rfl (Nat.le_of_ble_eq_true rfl) (by decide) ?_
  unfold aggregate_Exact at H0
  refine lok_rt E0 (⟨76,mkS [(1,.x (.one (.p (.sl 3 (List.map enc_api_UnitMark l))))),(2,.x (.one (.p (pi special)))),(3,.x (.one (.ptr 103 0))),(6,.x (.one (.ptr 106 0)))],mkH [(103,.var [.p (.sl 3 (List.map enc_api_Unit a.Units)),.p (.sl 1 (List.map encI a.Bounds)),.p (pi a.Max)]),(106,.var [.p (pi (0:Int)),.p (pi (0:Int))])]⟩) ?_
  refine lok_seq ?_
  replace H0:=bind_some H0
  obtain ⟨y,h_0,H0⟩:=H0
  refine lok_rt (Env.of E0 [⟨some 17,44,[.agg [.p (.sl 3 (List.map enc_api_Unit a.Units)),.p (.sl 1 (List.map encI a.Bounds)),.p (pi a.Max)],.one (.p (.sl 3 (List.map enc_api_UnitMark l))),.one (.p (pi special))],[],[.one (.p (pi y))],[],True,fun _ => ok_aggregate_checkMarks a l special y h_0,[]⟩]) (⟨76,mkS [(1,.x (.one (.p (.sl 3 (List.map enc_api_UnitMark l))))),(2,.x (.one (.p (pi special)))),(3,.x (.one (.ptr 103 0))),(6,.x (.one (.ptr 106 0))),(8,.x (.one (.p (pi y))))],mkH [(103,.var [.p (.sl 3 (List.map enc_api_Unit a.Units)),.p (.sl 1 (List.map encI a.Bounds)),.p (pi a.Max)]),(106,.var [.p (pi (0:Int)),.p (pi (0:Int))])]⟩) ?_
  refine lok_rt E0 (⟨76,mkS [(1,.x (.one (.p (.sl 3 (List.map enc_api_UnitMark l))))),(2,.x (.one (.p (pi special)))),(3,.x (.one (.ptr 103 0))),(6,.x (.one (.ptr 106 0))),(8,.x (.one (.p (pi y)))),(19,.x (.one (.p (.val (.bool (y != (0:Int)))))))],mkH [(103,.var [.p (.sl 3 (List.map enc_api_Unit a.Units)),.p (.sl 1 (List.map encI a.Bounds)),.p (pi a.Max)]),(106,.var [.p (pi (0:Int)),.p (pi (0:Int))])]⟩) ?_
  refine lok_c (y != (0:Int)) ?_ ?_
  · intro b_14
    replace H0:=cpos H0 b_14
    refine lok_rt E0 (⟨76,mkS [(6,.x (.one (.ptr 106 0))),(7,.x (.one (.p (pi y))))],mkH [(106,.var [.p (pi (0:Int)),.p (pi (0:Int))])]⟩) ?_
    refine lok_ret ?_
    obtain rfl:=Option.some.inj H0
    try simp only [thenL,blockL]
    exact fin_au _ (.inr rfl) [] (⟨76,mkS [(6,.x (.one (.ptr 106 0))),(7,.x (.one (.p (pi y))))],mkH [(106,.var [.p (pi (0:Int)),.p (pi (0:Int))])]⟩) rfl rfl imp_au
  · intro b_14
    replace H0:=cneg H0 b_14
    refine lok_skip ?_
    try simp only [thenL,blockL,↓reduceIte,reduceCtorEq]
    refine lok_seq ?_
    replace H0:=bind_some H0
    obtain ⟨y1,h_1,H0⟩:=H0
    refine lok_rt (Env.of E0 [⟨some 23,45,[.one (.p (.sl 3 (List.map enc_api_UnitMark l))),.one (.p (pi (3:Int)))],[],[.one (.p (.val (.bool y1)))],[],True,fun _ => ok_aggregate_has l (3:Int) y1 h_1,[]⟩]) (⟨76,mkS [(1,.x (.one (.p (.sl 3 (List.map enc_api_UnitMark l))))),(2,.x (.one (.p (pi special)))),(3,.x (.one (.ptr 103 0))),(6,.x (.one (.ptr 106 0))),(23,.x (.one (.p (.val (.bool y1)))))],mkH [(103,.var [.p (.sl 3 (List.map enc_api_Unit a.Units)),.p (.sl 1 (List.map encI a.Bounds)),.p (pi a.Max)]),(106,.var [.p (pi (0:Int)),.p (pi (0:Int))])]⟩) ?_
    refine lok_c y1 ?_ ?_
    · intro b_13
      replace H0:=cpos H0 b_13
      refine lok_rt E0 (⟨76,mkS [(6,.x (.one (.ptr 106 0))),(7,.x (.one (.p (pi (8:Int)))))],mkH [(106,.var [.p (pi (0:Int)),.p (pi (0:Int))])]⟩) ?_
      refine lok_ret ?_
      obtain rfl:=Option.some.inj H0
      try simp only [thenL,blockL]
      exact fin_au _ (.inr rfl) [] (⟨76,mkS [(6,.x (.one (.ptr 106 0))),(7,.x (.one (.p (pi (8:Int)))))],mkH [(106,.var [.p (pi (0:Int)),.p (pi (0:Int))])]⟩) rfl rfl imp_au
    · intro b_13
      replace H0:=cneg H0 b_13
      refine lok_skip ?_
      try simp only [thenL,blockL,↓reduceIte,reduceCtorEq]
      refine lok_seq ?_
      replace H0:=bind_some H0
      obtain ⟨y2,h_2,H0⟩:=H0
      replace H0:=req_some H0
      obtain ⟨q_12,H0⟩:=H0
      refine lok_rt (Env.of E0 [⟨some 26,45,[.one (.p (.sl 3 (List.map enc_api_UnitMark l))),.one (.p (pi (0:Int)))],[],[.one (.p (.val (.bool y2)))],[],True,fun _ => ok_aggregate_has l (0:Int) y2 h_2,[]⟩,
      ⟨some 30,45,[.one (.p (.sl 3 (List.map enc_api_UnitMark l))),.one (.p (pi (1:Int)))],[],[.one (.p (.val (.bool ((aggregate_has l (1:Int)).getD default))))],[],(aggregate_has l (1:Int)).isSome = true,fun h => ok_aggregate_has l (1:Int) _ (isSome_get h),[]⟩]) (⟨76,mkS [(1,.x (.one (.p (.sl 3 (List.map enc_api_UnitMark l))))),(2,.x (.one (.p (pi special)))),(3,.x (.one (.ptr 103 0))),(6,.x (.one (.ptr 106 0))),(32,.x (.one (.p (.val (.bool ((!y2) && (!((aggregate_has l (1:Int)).getD default))))))))],mkH [(103,.var [.p (.sl 3 (List.map enc_api_Unit a.Units)),.p (.sl 1 (List.map encI a.Bounds)),.p (pi a.Max)]),(106,.var [.p (pi (0:Int)),.p (pi (0:Int))])]⟩) ?_
      refine lok_c ((!y2) && (!((aggregate_has l (1:Int)).getD default))) ?_ ?_
      · intro b_11
        replace H0:=cpos H0 b_11
        refine lok_rt E0 (⟨76,mkS [(6,.x (.one (.ptr 106 0))),(7,.x (.one (.p (pi (10:Int)))))],mkH [(106,.var [.p (pi (0:Int)),.p (pi (0:Int))])]⟩) ?_
        refine lok_ret ?_
        obtain rfl:=Option.some.inj H0
        try simp only [thenL,blockL]
        exact fin_au _ (.inr rfl) [] (⟨76,mkS [(6,.x (.one (.ptr 106 0))),(7,.x (.one (.p (pi (10:Int)))))],mkH [(106,.var [.p (pi (0:Int)),.p (pi (0:Int))])]⟩) rfl rfl imp_au
      · intro b_11
        replace H0:=cneg H0 b_11
        refine lok_skip ?_
        try simp only [thenL,blockL,↓reduceIte,reduceCtorEq]
        replace H0:=bind_some H0
        obtain ⟨⟨y3,y4⟩,h_3,H0⟩:=H0
        try dsimp only at H0
        refine lok_rt (Env.of E0 [⟨some 39,46,[.agg [.p (.sl 3 (List.map enc_api_Unit a.Units)),.p (.sl 1 (List.map encI a.Bounds)),.p (pi a.Max)],.one (.p (.sl 3 (List.map enc_api_UnitMark l))),.one (.p (pi a.Max))],[],[.agg [.p (pi y3.Num),.p (pi y3.Den)],.one (.p (pi y4))],[],True,fun _ => ok_aggregate_scaled a l a.Max (y3,y4) h_3,[]⟩]) (⟨76,mkS [(2,.x (.one (.p (pi special)))),(3,.x (.one (.ptr 103 0))),(6,.x (.one (.ptr 106 0))),(9,.x (.one (.ptr 109 0))),(10,.x (.one (.p (pi y4))))],mkH [(103,.var [.p (.sl 3 (List.map enc_api_Unit a.Units)),.p (.sl 1 (List.map encI a.Bounds)),.p (pi a.Max)]),(106,.var [.p (pi (0:Int)),.p (pi (0:Int))]),(109,.var [.p (pi y3.Num),.p (pi y3.Den)])]⟩) ?_
        refine lok_seq ?_
        refine lok_rt E0 (⟨76,mkS [(2,.x (.one (.p (pi special)))),(3,.x (.one (.ptr 103 0))),(6,.x (.one (.ptr 106 0))),(9,.x (.one (.ptr 109 0))),(10,.x (.one (.p (pi y4)))),(43,.x (.one (.p (.val (.bool (y4 != (0:Int)))))))],mkH [(103,.var [.p (.sl 3 (List.map enc_api_Unit a.Units)),.p (.sl 1 (List.map encI a.Bounds)),.p (pi a.Max)]),(106,.var [.p (pi (0:Int)),.p (pi (0:Int))]),(109,.var [.p (pi y3.Num),.p (pi y3.Den)])]⟩) ?_
        refine lok_c (y4 != (0:Int)) ?_ ?_
        · intro b_10
          replace H0:=cpos H0 b_10
          refine lok_rt E0 (⟨76,mkS [(6,.x (.one (.ptr 106 0))),(7,.x (.one (.p (pi y4))))],mkH [(106,.var [.p (pi (0:Int)),.p (pi (0:Int))])]⟩) ?_
          refine lok_ret ?_
          obtain rfl:=Option.some.inj H0
          try simp only [thenL,blockL]
          exact fin_au _ (.inr rfl) [] (⟨76,mkS [(6,.x (.one (.ptr 106 0))),(7,.x (.one (.p (pi y4))))],mkH [(106,.var [.p (pi (0:Int)),.p (pi (0:Int))])]⟩) rfl rfl imp_au
        · intro b_10
          replace H0:=cneg H0 b_10
          refine lok_skip ?_
          try simp only [thenL,blockL,↓reduceIte,reduceCtorEq]
          replace H0:=bind_some H0
          obtain ⟨⟨y5,y6⟩,h_4,H0⟩:=H0
          try dsimp only at H0
          refine lok_rt (Env.of E0 [⟨some 51,47,[.one (.p (pi (IntKind.i64.wrap (special * a.Max)))),.one (.p (pi (1000:Int)))],[],[.agg [.p (pi y5.Num),.p (pi y5.Den)],.one (.p (pi y6))],[],True,fun _ => ok_ratio_New (IntKind.i64.wrap (special * a.Max)) (1000:Int) (y5,y6) h_4,[]⟩]) (⟨76,mkS [(3,.x (.one (.ptr 103 0))),(6,.x (.one (.ptr 106 0))),(9,.x (.one (.ptr 109 0))),(10,.x (.one (.p (pi y6)))),(11,.x (.one (.ptr 111 0)))],mkH [(103,.var [.p (.sl 3 (List.map enc_api_Unit a.Units)),.p (.sl 1 (List.map encI a.Bounds)),.p (pi a.Max)]),(106,.var [.p (pi (0:Int)),.p (pi (0:Int))]),(109,.var [.p (pi y3.Num),.p (pi y3.Den)]),(111,.var [.p (pi y5.Num),.p (pi y5.Den)])]⟩) ?_
          refine lok_seq ?_
          refine lok_rt E0 (⟨76,mkS [(3,.x (.one (.ptr 103 0))),(6,.x (.one (.ptr 106 0))),(9,.x (.one (.ptr 109 0))),(10,.x (.one (.p (pi y6)))),(11,.x (.one (.ptr 111 0))),(55,.x (.one (.p (.val (.bool (y6 != (0:Int)))))))],mkH [(103,.var [.p (.sl 3 (List.map enc_api_Unit a.Units)),.p (.sl 1 (List.map encI a.Bounds)),.p (pi a.Max)]),(106,.var [.p (pi (0:Int)),.p (pi (0:Int))]),(109,.var [.p (pi y3.Num),.p (pi y3.Den)]),(111,.var [.p (pi y5.Num),.p (pi y5.Den)])]⟩) ?_
          refine lok_c (y6 != (0:Int)) ?_ ?_
          · intro b_9
            replace H0:=cpos H0 b_9
            refine lok_rt E0 (⟨76,mkS [(6,.x (.one (.ptr 106 0))),(7,.x (.one (.p (pi y6))))],mkH [(106,.var [.p (pi (0:Int)),.p (pi (0:Int))])]⟩) ?_
            refine lok_ret ?_
            obtain rfl:=Option.some.inj H0
            try simp only [thenL,blockL]
            exact fin_au _ (.inr rfl) [] (⟨76,mkS [(6,.x (.one (.ptr 106 0))),(7,.x (.one (.p (pi y6))))],mkH [(106,.var [.p (pi (0:Int)),.p (pi (0:Int))])]⟩) rfl rfl imp_au
          · intro b_9
            replace H0:=cneg H0 b_9
            refine lok_skip ?_
            try simp only [thenL,blockL,↓reduceIte,reduceCtorEq]
            replace H0:=bind_some H0
            obtain ⟨⟨y7,y8⟩,h_5,H0⟩:=H0
            try dsimp only at H0
            refine lok_rt (Env.of E0 [⟨some 61,48,[.agg [.p (pi y3.Num),.p (pi y3.Den)],.agg [.p (pi y5.Num),.p (pi y5.Den)]],[],[.agg [.p (pi y7.Num),.p (pi y7.Den)],.one (.p (pi y8))],[],True,fun _ => ok_ratio_Add y3 y5 (y7,y8) h_5,[]⟩]) (⟨76,mkS [(3,.x (.one (.ptr 103 0))),(6,.x (.one (.ptr 106 0))),(10,.x (.one (.p (pi y8)))),(12,.x (.one (.ptr 112 0)))],mkH [(103,.var [.p (.sl 3 (List.map enc_api_Unit a.Units)),.p (.sl 1 (List.map encI a.Bounds)),.p (pi a.Max)]),(106,.var [.p (pi (0:Int)),.p (pi (0:Int))]),(112,.var [.p (pi y7.Num),.p (pi y7.Den)])]⟩) ?_
            refine lok_seq ?_
            refine lok_rt E0 (⟨76,mkS [(3,.x (.one (.ptr 103 0))),(6,.x (.one (.ptr 106 0))),(10,.x (.one (.p (pi y8)))),(12,.x (.one (.ptr 112 0))),(65,.x (.one (.p (.val (.bool (y8 != (0:Int)))))))],mkH [(103,.var [.p (.sl 3 (List.map enc_api_Unit a.Units)),.p (.sl 1 (List.map encI a.Bounds)),.p (pi a.Max)]),(106,.var [.p (pi (0:Int)),.p (pi (0:Int))]),(112,.var [.p (pi y7.Num),.p (pi y7.Den)])]⟩) ?_
            refine lok_c (y8 != (0:Int)) ?_ ?_
            · intro b_8
              replace H0:=cpos H0 b_8
              refine lok_rt E0 (⟨76,mkS [(6,.x (.one (.ptr 106 0))),(7,.x (.one (.p (pi y8))))],mkH [(106,.var [.p (pi (0:Int)),.p (pi (0:Int))])]⟩) ?_
              refine lok_ret ?_
              obtain rfl:=Option.some.inj H0
              try simp only [thenL,blockL]
              exact fin_au _ (.inr rfl) [] (⟨76,mkS [(6,.x (.one (.ptr 106 0))),(7,.x (.one (.p (pi y8))))],mkH [(106,.var [.p (pi (0:Int)),.p (pi (0:Int))])]⟩) rfl rfl imp_au
            · intro b_8
              replace H0:=cneg H0 b_8
              refine lok_skip ?_
              try simp only [thenL,blockL,↓reduceIte,reduceCtorEq]
              refine lok_rt E0 (⟨76,mkS [(6,.x (.one (.ptr 106 0))),(12,.x (.one (.ptr 112 0))),(13,.x (.one (.ptr 113 0)))],mkH [(106,.var [.p (pi (0:Int)),.p (pi (0:Int))]),(112,.var [.p (pi y7.Num),.p (pi y7.Den)]),(113,.var [.p (pi a.Max),.p (pi (1:Int))])]⟩) ?_
              refine lok_seq ?_
              replace H0:=bind_some H0
              obtain ⟨y9,h_6,H0⟩:=H0
              refine lok_rt (Env.of E0 [⟨some 73,49,[.agg [.p (pi a.Max),.p (pi (1:Int))],.agg [.p (pi y7.Num),.p (pi y7.Den)]],[],[.one (.p (.val (.bool y9)))],[],True,fun _ => ok_ratio_Less (api_Ratio.mk a.Max (1:Int)) y7 y9 h_6,[]⟩]) (⟨76,mkS [(6,.x (.one (.ptr 106 0))),(12,.x (.one (.ptr 112 0))),(13,.x (.one (.ptr 113 0))),(73,.x (.one (.p (.val (.bool y9)))))],mkH [(106,.var [.p (pi (0:Int)),.p (pi (0:Int))]),(112,.var [.p (pi y7.Num),.p (pi y7.Den)]),(113,.var [.p (pi a.Max),.p (pi (1:Int))])]⟩) ?_
              refine lok_c y9 ?_ ?_
              · intro b_7
                replace H0:=cpos H0 b_7
                refine lok_rt E0 (⟨76,mkS [(6,.x (.one (.ptr 106 0))),(7,.x (.one (.p (pi (0:Int)))))],mkH [(106,.var [.p (pi a.Max),.p (pi (1:Int))])]⟩) ?_
                refine lok_ret ?_
                obtain rfl:=Option.some.inj H0
                try simp only [thenL,blockL]
                exact fin_au _ (.inr rfl) [] (⟨76,mkS [(6,.x (.one (.ptr 106 0))),(7,.x (.one (.p (pi (0:Int)))))],mkH [(106,.var [.p (pi a.Max),.p (pi (1:Int))])]⟩) rfl rfl imp_au
              · intro b_7
                replace H0:=cneg H0 b_7
                refine lok_skip ?_
                try simp only [thenL,blockL,↓reduceIte,reduceCtorEq]
                refine lok_rt E0 (⟨76,mkS [(6,.x (.one (.ptr 106 0))),(7,.x (.one (.p (pi (0:Int)))))],mkH [(106,.var [.p (pi y7.Num),.p (pi y7.Den)])]⟩) ?_
                refine lok_ret ?_
                obtain rfl:=Option.some.inj H0
                try simp only [thenL,blockL]
                exact fin_au _ (.inr rfl) [] (⟨76,mkS [(6,.x (.one (.ptr 106 0))),(7,.x (.one (.p (pi (0:Int)))))],mkH [(106,.var [.p (pi y7.Num),.p (pi y7.Den)])]⟩) rfl rfl imp_au
theorem ok_ratio_toRound (floor:Int) (rest:Int) (den:Int) (r_:Int) (H0 : ratio_toRound floor rest den = some r_) : CallOK Try.prog 94 [.one (.p (pi floor)),.one (.p (pi rest)),.one (.p (pi den))] [] [.one (.p (pi r_))] []:=by
  refine callOK (n:=15) (rs:=[.tmp 6]) (nb:=0) (V:=[]) Try.func94 rfl (by kernel_rfl) rfl rfl rfl rfl (Nat.le_of_ble_eq_true rfl) (by decide) ?_
  unfold ratio_toRound at H0
  refine lok_rt E0 (⟨15,mkS [(0,.x (.one (.p (pi floor)))),(1,.x (.one (.p (pi rest)))),(2,.x (.one (.p (pi den))))],mkH []⟩) ?_
  refine lok_seq ?_
  refine lok_rt E0 (⟨15,mkS [(0,.x (.one (.p (pi floor)))),(11,.x (.one (.p (.val (.bool (decide ((IntKind.i64.wrap (den - rest)) ≤ rest)))))))],mkH []⟩) ?_
  refine lok_c (decide ((IntKind.i64.wrap (den - rest)) ≤ rest)) ?_ ?_
  · intro b_0
    replace H0:=cpos H0 b_0
    refine lok_rt E0 (⟨15,mkS [(6,.x (.one (.p (pi (IntKind.i64.wrap (floor + (1:Int)))))))],mkH []⟩) ?_
    refine lok_ret ?_
    obtain rfl:=Option.some.inj H0
    try simp only [thenL,blockL]
    exact fin_au _ (.inr rfl) [] (⟨15,mkS [(6,.x (.one (.p (pi (IntKind.i64.wrap (floor + (1:Int)))))))],mkH []⟩) rfl rfl imp_au
  · intro b_0
    replace H0:=cneg H0 b_0
    refine lok_skip ?_
    try simp only [thenL,blockL,↓reduceIte,reduceCtorEq]
    refine lok_rt E0 (⟨15,mkS [(6,.x (.one (.p (pi floor))))],mkH []⟩) ?_
    refine lok_ret ?_
    obtain rfl:=Option.some.inj H0
    try simp only [thenL,blockL]
    exact fin_au _ (.inr rfl) [] (⟨15,mkS [(6,.x (.one (.p (pi floor))))],mkH []⟩) rfl rfl imp_au
theorem ok_ratio_rounded_ratio_toRound (a : api_Ratio) (r_:Int) (H0 : ratio_rounded_ratio_toRound a = some r_) : CallOK Try.prog 93 [.agg [.p (pi a.Num),.p (pi a.Den)],.one (.fn 94 [])] [] [.one (.p (pi r_))] []:=by
  refine callOK (n:=34) (rs:=[.tmp 4]) (nb:=0) (V:=[]) Try.func93 rfl (by kernel_rfl) rfl rfl rfl rfl (Nat.le_of_ble_eq_true rfl) (by decide) ?_
  unfold ratio_rounded_ratio_toRound at H0
  refine lok_rt E0 (⟨34,mkS [(1,.x (.one (.fn 94 []))),(2,.x (.one (.ptr 102 0)))],mkH [(102,.var [.p (pi a.Num),.p (pi a.Den)])]⟩) ?_
  refine lok_seq ?_
  replace H0:=bind_some H0
  obtain ⟨y,h_0,H0⟩:=H0
  refine lok_rt (Env.of E0 [⟨some 8,78,[.agg [.p (pi a.Num),.p (pi a.Den)]],[],[.one (.p (.val (.bool y)))],[],True,fun _ => ok_ratio_Valid a y h_0,[]⟩]) (⟨34,mkS [(1,.x (.one (.fn 94 []))),(2,.x (.one (.ptr 102 0))),(9,.x (.one (.p (.val (.bool (!y))))))],mkH [(102,.var [.p (pi a.Num),.p (pi a.Den)])]⟩) ?_
  refine lok_c (!y) ?_ ?_
  · intro b_5
    replace H0:=cpos H0 b_5
    refine lok_rt E0 (⟨34,mkS [(4,.x (.one (.p (pi (0:Int)))))],mkH []⟩) ?_
    refine lok_ret ?_
    obtain rfl:=Option.some.inj H0
    try simp only [thenL,blockL]
    exact fin_au _ (.inr rfl) [] (⟨34,mkS [(4,.x (.one (.p (pi (0:Int)))))],mkH []⟩) rfl rfl imp_au
  · intro b_5
    replace H0:=cneg H0 b_5
    refine lok_skip ?_
    try simp only [thenL,blockL,↓reduceIte,reduceCtorEq]
    replace H0:=req_some H0
    obtain ⟨q_4,H0⟩:=H0
    refine lok_dt E0 11 (⟨34,mkS [(1,.x (.one (.fn 94 []))),(2,.x (.one (.ptr 102 0))),(5,.x (.one (.p (pi (IntKind.i64.wrap (Int.tdiv a.Num a.Den)))))),(6,.x (.one (.p (pi (Int.tmod a.Num a.Den)))))],mkH [(102,.var [.p (pi a.Num),.p (pi a.Den)])]⟩) (by kernel_rfl) (by kernel_rfl) ?_
    refine lok_join (fun x_ : Int × Int => ratio_rounded_ratio_toRound_j1 a x_.1 x_.2 = some r_) (fun x_ => ⟨34,mkS [(1,.x (.one (.fn 94 []))),(2,.x (.one (.ptr 102 0))),(5,.x (.one (.p (pi x_.1)))),(6,.x (.one (.p (pi x_.2))))],mkH [(102,.var [.p (pi a.Num),.p (pi a.Den)])]⟩) ?hyratio_rounded_ratio_toRound_j1 ?hxratio_rounded_ratio_toRound_j1
    case hyratio_rounded_ratio_toRound_j1 =>
      rintro ⟨floor,rest⟩ H0
      try dsimp only at H0 ⊢
      unfold ratio_rounded_ratio_toRound_j1 at H0
      replace H0:=bind_some H0
      obtain ⟨y1,h_1,H0⟩:=H0
      refine lok_rt (Env.of E0 [⟨some 33,94,[.one (.p (pi floor)),.one (.p (pi rest)),.one (.p (pi a.Den))],[],[.one (.p (pi y1))],[],True,fun _ => ok_ratio_toRound floor rest a.Den y1 h_1,[]⟩]) (⟨34,mkS [(4,.x (.one (.p (pi y1))))],mkH []⟩) ?_
      refine lok_ret ?_
      obtain rfl:=Option.some.inj H0
      try simp only [thenL,blockL]
      exact fin_au _ (.inr rfl) [] (⟨34,mkS [(4,.x (.one (.p (pi y1))))],mkH []⟩) rfl rfl imp_au
    case hxratio_rounded_ratio_toRound_j1 =>
      refine lok_rt E0 (⟨34,mkS [(1,.x (.one (.fn 94 []))),(2,.x (.one (.ptr 102 0))),(5,.x (.one (.p (pi (IntKind.i64.wrap (Int.tdiv a.Num a.Den)))))),(6,.x (.one (.p (pi (Int.tmod a.Num a.Den))))),(21,.x (.one (.p (.val (.bool (decide ((Int.tmod a.Num a.Den) < (0:Int))))))))],mkH [(102,.var [.p (pi a.Num),.p (pi a.Den)])]⟩) ?_
      refine lok_c (decide ((Int.tmod a.Num a.Den) < (0:Int))) ?_ ?_
      · intro b_3
        replace H0:=cpos H0 b_3
        replace H0:=bindV_some H0
        obtain ⟨floor1,a_2,H0⟩:=H0
        refine lok_dlg E0 7 a_2 (⟨34,mkS [(1,.x (.one (.fn 94 []))),(2,.x (.one (.ptr 102 0))),(5,.x (.one (.p (pi floor1)))),(6,.x (.one (.p (pi (IntKind.i64.wrap ((Int.tmod a.Num a.Den) + a.Den))))))],mkH [(102,.var [.p (pi a.Num),.p (pi a.Den)])]⟩) (by kernel_rfl) (by kernel_rfl) ?_
        try simp only [thenL,blockL,↓reduceIte,reduceCtorEq]
        exact ⟨(floor1,(IntKind.i64.wrap ((Int.tmod a.Num a.Den) + a.Den))),H0,imp_au⟩
      · intro b_3
        replace H0:=cneg H0 b_3
        refine lok_skip ?_
        try simp only [thenL,blockL,↓reduceIte,reduceCtorEq]
        exact ⟨((IntKind.i64.wrap (Int.tdiv a.Num a.Den)),(Int.tmod a.Num a.Den)),H0,imp_au⟩
theorem ok_ratio_Round (a : api_Ratio) (r_:Int) (H0 : ratio_Round a = some r_) : CallOK Try.prog 56 [.agg [.p (pi a.Num),.p (pi a.Den)]] [] [.one (.p (pi r_))] []:=by
  refine callOK (n:=5) (rs:=[.tmp 2]) (nb:=0) (V:=[]) Try.func56 rfl (by kernel_rfl) rfl rfl rfl rfl (Nat.le_of_ble_eq_true rfl) (by decide) ?_
  unfold ratio_Round at H0
  refine lok_rt E0 (⟨5,mkS [(1,.x (.one (.ptr 101 0)))],mkH [(101,.var [.p (pi a.Num),.p (pi a.Den)])]⟩) ?_
  replace H0:=bind_some H0
  obtain ⟨y,h_0,H0⟩:=H0
  refine lok_rt (Env.of E0 [⟨some 4,93,[.agg [.p (pi a.Num),.p (pi a.Den)],.one (.fn 94 [])],[],[.one (.p (pi y))],[],True,fun _ => ok_ratio_rounded_ratio_toRound a y h_0,[]⟩]) (⟨5,mkS [(2,.x (.one (.p (pi y))))],mkH []⟩) ?_
  refine lok_ret ?_
  obtain rfl:=Option.some.inj H0
  try simp only [thenL,blockL]
  exact fin_au _ (.inr rfl) [] (⟨5,mkS [(2,.x (.one (.p (pi y))))],mkH []⟩) rfl rfl imp_au
theorem ok_aggregate_Total (a : api_Award) (l : List api_UnitMark) (special:Int) (r_ : Int × Int) (H0 : aggregate_Total a l special = some r_) : CallOK Try.prog 23 [.agg [.p (.sl 3 (List.map enc_api_Unit a.Units)),.p (.sl 1 (List.map encI a.Bounds)),.p (pi a.Max)],.one (.p (.sl 3 (List.map enc_api_UnitMark l))),.one (.p (pi special))] [] [.one (.p (pi r_.1)),.one (.p (pi r_.2))] []:=by
  refine callOK (n:=22) (rs:=[.tmp 6,.tmp 7]) (nb:=0) (V:=[]) Try.func23 rfl (by kernel_rfl) rfl rfl rfl rfl (Nat.le_of_ble_eq_true rfl) (by decide) ?_
  unfold aggregate_Total at H0
  refine lok_rt E0 (⟨22,mkS [(1,.x (.one (.p (.sl 3 (List.map enc_api_UnitMark l))))),(2,.x (.one (.p (pi special)))),(3,.x (.one (.ptr 103 0)))],mkH [(103,.var [.p (.sl 3 (List.map enc_api_Unit a.Units)),.p (.sl 1 (List.map encI a.Bounds)),.p (pi a.Max)])]⟩) ?_
  replace H0:=bind_some H0
  obtain ⟨⟨y,y1⟩,h_0,H0⟩:=H0
  try dsimp only at H0
  refine lok_rt (Env.of E0 [⟨some 14,21,[.agg [.p (.sl 3 (List.map enc_api_Unit a.Units)),.p (.sl 1 (List.map encI a.Bounds)),.p (pi a.Max)],.one (.p (.sl 3 (List.map enc_api_UnitMark l))),.one (.p (pi special))],[],[.agg [.p (pi y.Num),.p (pi y.Den)],.one (.p (pi y1))],[],True,fun _ => ok_aggregate_Exact a l special (y,y1) h_0,[]⟩]) (⟨22,mkS [(8,.x (.one (.ptr 108 0))),(9,.x (.one (.p (pi y1))))],mkH [(108,.var [.p (pi y.Num),.p (pi y.Den)])]⟩) ?_
  refine lok_seq ?_
  refine lok_rt E0 (⟨22,mkS [(8,.x (.one (.ptr 108 0))),(9,.x (.one (.p (pi y1)))),(18,.x (.one (.p (.val (.bool (y1 != (0:Int)))))))],mkH [(108,.var [.p (pi y.Num),.p (pi y.Den)])]⟩) ?_
  refine lok_c (y1 != (0:Int)) ?_ ?_
  · intro b_2
    replace H0:=cpos H0 b_2
    refine lok_rt E0 (⟨22,mkS [(6,.x (.one (.p (pi (0:Int))))),(7,.x (.one (.p (pi y1))))],mkH []⟩) ?_
    refine lok_ret ?_
    obtain rfl:=Option.some.inj H0
    try simp only [thenL,blockL]
    exact fin_au _ (.inr rfl) [] (⟨22,mkS [(6,.x (.one (.p (pi (0:Int))))),(7,.x (.one (.p (pi y1))))],mkH []⟩) rfl rfl imp_au
  · intro b_2
    replace H0:=cneg H0 b_2
    refine lok_skip ?_
    try simp only [thenL,blockL,↓reduceIte,reduceCtorEq]
    replace H0:=bind_some H0
    obtain ⟨y2,h_1,H0⟩:=H0
    refine lok_rt (Env.of E0 [⟨some 21,56,[.agg [.p (pi y.Num),.p (pi y.Den)]],[],[.one (.p (pi y2))],[],True,fun _ => ok_ratio_Round y y2 h_1,[]⟩]) (⟨22,mkS [(6,.x (.one (.p (pi y2)))),(7,.x (.one (.p (pi (0:Int)))))],mkH []⟩) ?_
    refine lok_ret ?_
    obtain rfl:=Option.some.inj H0
    try simp only [thenL,blockL]
    exact fin_au _ (.inr rfl) [] (⟨22,mkS [(6,.x (.one (.p (pi y2)))),(7,.x (.one (.p (pi (0:Int)))))],mkH []⟩) rfl rfl imp_au
theorem ok_boundary_Grade (b : List Int) (mark:Int) (r_:Int) (H0 : boundary_Grade b mark = some r_) : CallOK Try.prog 58 [.one (.p (.sl 1 (List.map encI b))),.one (.p (pi mark))] [] [.one (.p (pi r_))] []:=by
  refine callOK (n:=21) (rs:=[.tmp 4]) (nb:=0) (V:=[]) Try.func58 rfl (by kernel_rfl) rfl rfl rfl rfl (Nat.le_of_ble_eq_true rfl) (by decide) ?_
  unfold boundary_Grade at H0
  refine lok_rt E0 (⟨21,mkS [(0,.x (.one (.p (.sl 1 (List.map encI b))))),(1,.x (.one (.p (pi mark))))],mkH []⟩) ?_
  refine lok_join (fun x_ : Unit => boundary_Grade_j1 b = some r_) (fun x_ => ⟨21,mkS [(0,.x (.one (.p (.sl 1 (List.map encI b)))))],mkH []⟩) ?hyboundary_Grade_j1 ?hxboundary_Grade_j1
  case hyboundary_Grade_j1 =>
    rintro _ H0
    try dsimp only at H0 ⊢
    unfold boundary_Grade_j1 at H0
    refine lok_rt E0 (⟨21,mkS [(4,.x (.one (.p (pi (b.length:Int)))))],mkH []⟩) ?_
    refine lok_ret ?_
    obtain rfl:=Option.some.inj H0
    try simp only [thenL,blockL]
    exact fin_au _ (.inr rfl) [] (⟨21,mkS [(4,.x (.one (.p (pi (b.length:Int)))))],mkH []⟩) rfl rfl imp_au
  case hxboundary_Grade_j1 =>
    refine lok_rt E0 (⟨21,mkS [(0,.x (.one (.p (.sl 1 (List.map encI b))))),(1,.x (.one (.p (pi mark)))),(7,.x (.one (.p (.sl 1 (List.map encI b))))),(8,.x (.one (.p (pi (b.length:Int))))),(9,.x (.one (.p (pi (0:Int)))))],mkH []⟩) ?_
    refine lok_block ?_
    replace H0:=bind_some H0
    obtain ⟨v_0,hv_0,H0⟩:=H0
    refine lok_iter (fun x_ => ⟨21,mkS [(0,.x (.one (.p (.sl 1 (List.map encI b))))),(1,.x (.one (.p (pi mark)))),(7,.x (.one (.p (.sl 1 (List.map encI b))))),(8,.x (.one (.p (pi (b.length:Int))))),(9,.x (.one (.p (pi x_))))],mkH []⟩) hv_0 imp_au ?_
    · rintro v o_1 H1 k_1
      unfold boundary_Grade_l2 at H1
      try dsimp only at H1 ⊢
      refine lok_rt E0 (⟨21,mkS [(0,.x (.one (.p (.sl 1 (List.map encI b))))),(1,.x (.one (.p (pi mark)))),(7,.x (.one (.p (.sl 1 (List.map encI b))))),(8,.x (.one (.p (pi (b.length:Int))))),(9,.x (.one (.p (pi v)))),(10,.x (.one (.p (.val (.bool (decide (v < (b.length:Int))))))))],mkH []⟩) ?_
      refine lok_seq ?_
      refine lok_c (decide (v < (b.length:Int))) ?_ ?_
      · intro b_3
        replace H1:=cpos H1 b_3
        refine lok_skip ?_
        try simp only [thenL,blockL,↓reduceIte,reduceCtorEq]
        refine lok_seq ?_
        refine lok_block ?_
        replace H1:=req_some H1
        obtain ⟨q_2,H1⟩:=H1
        refine lok_rt E0 (⟨21,mkS [(0,.x (.one (.p (.sl 1 (List.map encI b))))),(1,.x (.one (.p (pi mark)))),(5,.x (.one (.p (pi v)))),(6,.x (.one (.p (pi (ix b v))))),(7,.x (.one (.p (.sl 1 (List.map encI b))))),(8,.x (.one (.p (pi (b.length:Int))))),(9,.x (.one (.p (pi v))))],mkH []⟩) ?_
        refine lok_rt E0 (⟨21,mkS [(0,.x (.one (.p (.sl 1 (List.map encI b))))),(1,.x (.one (.p (pi mark)))),(5,.x (.one (.p (pi v)))),(7,.x (.one (.p (.sl 1 (List.map encI b))))),(8,.x (.one (.p (pi (b.length:Int))))),(9,.x (.one (.p (pi v)))),(16,.x (.one (.p (.val (.bool (decide ((ix b v) ≤ mark)))))))],mkH []⟩) ?_
        refine lok_c (decide ((ix b v) ≤ mark)) ?_ ?_
        · intro b_1
          replace H1:=cpos H1 b_1
          refine lok_rt E0 (⟨21,mkS [(4,.x (.one (.p (pi v))))],mkH []⟩) ?_
          refine lok_ret ?_
          try simp only [thenL,blockL,↓reduceIte,reduceCtorEq]
          have e_1:=k_1 _ (Option.some.inj H1).symm
          subst e_1
          try dsimp only at H0
          obtain rfl:=Option.some.inj H0
          try simp only [thenL,blockL]
          exact fin_au _ (.inr rfl) [] (⟨21,mkS [(4,.x (.one (.p (pi v))))],mkH []⟩) rfl rfl imp_au
        · intro b_1
          replace H1:=cneg H1 b_1
          refine lok_skip ?_
          try simp only [thenL,blockL,↓reduceIte,reduceCtorEq]
          refine lok_rl E0 (⟨21,mkS [(0,.x (.one (.p (.sl 1 (List.map encI b))))),(1,.x (.one (.p (pi mark)))),(7,.x (.one (.p (.sl 1 (List.map encI b))))),(8,.x (.one (.p (pi (b.length:Int))))),(9,.x (.one (.p (pi (IntKind.i64.wrap (v + (1:Int)))))))],mkH []⟩) ?_
          try simp only [thenL,blockL,↓reduceIte,reduceCtorEq]
          exact ⟨(IntKind.i64.wrap (v + (1:Int))),(Option.some.inj H1).symm,imp_au⟩
      · intro b_3
        replace H1:=cneg H1 b_3
        refine lok_exit ?_
        try simp only [thenL,blockL,↓reduceIte,reduceCtorEq]
        have e_1:=k_1 _ (Option.some.inj H1).symm
        subst e_1
        try dsimp only at H0
        try simp only [thenL,blockL,↓reduceIte,reduceCtorEq]
        exact ⟨(),H0,imp_au⟩
theorem ok_aggregate_Decide (a : api_Award) (l : List api_UnitMark) (special:Int) (r_ : Int × Int × Int × Int) (H0 : aggregate_Decide a l special = some r_) : CallOK Try.prog 25 [.agg [.p (.sl 3 (List.map enc_api_Unit a.Units)),.p (.sl 1 (List.map encI a.Bounds)),.p (pi a.Max)],.one (.p (.sl 3 (List.map enc_api_UnitMark l))),.one (.p (pi special))] [] [.one (.p (pi r_.1)),.one (.p (pi r_.2.1)),.one (.p (pi r_.2.2.1)),.one (.p (pi r_.2.2.2))] []:=by
  refine callOK (n:=38) (rs:=[.tmp 6,.tmp 7,.tmp 8,.tmp 9]) (nb:=0) (V:=[]) Try.func25 rfl (by kernel_rfl) rfl rfl rfl rfl (Nat.le_of_ble_eq_true rfl) (by decide) ?_
  unfold aggregate_Decide at H0
  refine lok_rt E0 (⟨38,mkS [(1,.x (.one (.p (.sl 3 (List.map enc_api_UnitMark l))))),(2,.x (.one (.p (pi special)))),(3,.x (.one (.ptr 103 0)))],mkH [(103,.var [.p (.sl 3 (List.map enc_api_Unit a.Units)),.p (.sl 1 (List.map encI a.Bounds)),.p (pi a.Max)])]⟩) ?_
  refine lok_seq ?_
  replace H0:=bind_some H0
  obtain ⟨y,h_0,H0⟩:=H0
  refine lok_rt (Env.of E0 [⟨some 14,44,[.agg [.p (.sl 3 (List.map enc_api_Unit a.Units)),.p (.sl 1 (List.map encI a.Bounds)),.p (pi a.Max)],.one (.p (.sl 3 (List.map enc_api_UnitMark l))),.one (.p (pi special))],[],[.one (.p (pi y))],[],True,fun _ => ok_aggregate_checkMarks a l special y h_0,[]⟩]) (⟨38,mkS [(1,.x (.one (.p (.sl 3 (List.map enc_api_UnitMark l))))),(2,.x (.one (.p (pi special)))),(3,.x (.one (.ptr 103 0))),(10,.x (.one (.p (pi y))))],mkH [(103,.var [.p (.sl 3 (List.map enc_api_Unit a.Units)),.p (.sl 1 (List.map encI a.Bounds)),.p (pi a.Max)])]⟩) ?_
  refine lok_rt E0 (⟨38,mkS [(1,.x (.one (.p (.sl 3 (List.map enc_api_UnitMark l))))),(2,.x (.one (.p (pi special)))),(3,.x (.one (.ptr 103 0))),(10,.x (.one (.p (pi y)))),(16,.x (.one (.p (.val (.bool (y != (0:Int)))))))],mkH [(103,.var [.p (.sl 3 (List.map enc_api_Unit a.Units)),.p (.sl 1 (List.map encI a.Bounds)),.p (pi a.Max)])]⟩) ?_
  refine lok_c (y != (0:Int)) ?_ ?_
  · intro b_8
    replace H0:=cpos H0 b_8
    refine lok_rt E0 (⟨38,mkS [(6,.x (.one (.p (pi (0:Int))))),(7,.x (.one (.p (pi (0:Int))))),(8,.x (.one (.p (pi (0:Int))))),(9,.x (.one (.p (pi y))))],mkH []⟩) ?_
    refine lok_ret ?_
    obtain rfl:=Option.some.inj H0
    try simp only [thenL,blockL]
    exact fin_au _ (.inr rfl) [] (⟨38,mkS [(6,.x (.one (.p (pi (0:Int))))),(7,.x (.one (.p (pi (0:Int))))),(8,.x (.one (.p (pi (0:Int))))),(9,.x (.one (.p (pi y))))],mkH []⟩) rfl rfl imp_au
  · intro b_8
    replace H0:=cneg H0 b_8
    refine lok_skip ?_
    try simp only [thenL,blockL,↓reduceIte,reduceCtorEq]
    refine lok_seq ?_
    replace H0:=bind_some H0
    obtain ⟨y1,h_1,H0⟩:=H0
    refine lok_rt (Env.of E0 [⟨some 19,45,[.one (.p (.sl 3 (List.map enc_api_UnitMark l))),.one (.p (pi (3:Int)))],[],[.one (.p (.val (.bool y1)))],[],True,fun _ => ok_aggregate_has l (3:Int) y1 h_1,[]⟩]) (⟨38,mkS [(1,.x (.one (.p (.sl 3 (List.map enc_api_UnitMark l))))),(2,.x (.one (.p (pi special)))),(3,.x (.one (.ptr 103 0))),(19,.x (.one (.p (.val (.bool y1)))))],mkH [(103,.var [.p (.sl 3 (List.map enc_api_Unit a.Units)),.p (.sl 1 (List.map encI a.Bounds)),.p (pi a.Max)])]⟩) ?_
    refine lok_c y1 ?_ ?_
    · intro b_7
      replace H0:=cpos H0 b_7
      refine lok_rt E0 (⟨38,mkS [(6,.x (.one (.p (pi (2:Int))))),(7,.x (.one (.p (pi (0:Int))))),(8,.x (.one (.p (pi (0:Int))))),(9,.x (.one (.p (pi (0:Int)))))],mkH []⟩) ?_
      refine lok_ret ?_
      obtain rfl:=Option.some.inj H0
      try simp only [thenL,blockL]
      exact fin_au _ (.inr rfl) [] (⟨38,mkS [(6,.x (.one (.p (pi (2:Int))))),(7,.x (.one (.p (pi (0:Int))))),(8,.x (.one (.p (pi (0:Int))))),(9,.x (.one (.p (pi (0:Int)))))],mkH []⟩) rfl rfl imp_au
    · intro b_7
      replace H0:=cneg H0 b_7
      refine lok_skip ?_
      try simp only [thenL,blockL,↓reduceIte,reduceCtorEq]
      refine lok_seq ?_
      replace H0:=bind_some H0
      obtain ⟨y2,h_2,H0⟩:=H0
      refine lok_rt (Env.of E0 [⟨some 21,45,[.one (.p (.sl 3 (List.map enc_api_UnitMark l))),.one (.p (pi (0:Int)))],[],[.one (.p (.val (.bool y2)))],[],True,fun _ => ok_aggregate_has l (0:Int) y2 h_2,[]⟩]) (⟨38,mkS [(1,.x (.one (.p (.sl 3 (List.map enc_api_UnitMark l))))),(2,.x (.one (.p (pi special)))),(3,.x (.one (.ptr 103 0))),(22,.x (.one (.p (.val (.bool (!y2))))))],mkH [(103,.var [.p (.sl 3 (List.map enc_api_Unit a.Units)),.p (.sl 1 (List.map encI a.Bounds)),.p (pi a.Max)])]⟩) ?_
      refine lok_c (!y2) ?_ ?_
      · intro b_6
        replace H0:=cpos H0 b_6
        refine lok_rt E0 (⟨38,mkS [(6,.x (.one (.p (pi (1:Int))))),(7,.x (.one (.p (pi (0:Int))))),(8,.x (.one (.p (pi (0:Int))))),(9,.x (.one (.p (pi (0:Int)))))],mkH []⟩) ?_
        refine lok_ret ?_
        obtain rfl:=Option.some.inj H0
        try simp only [thenL,blockL]
        exact fin_au _ (.inr rfl) [] (⟨38,mkS [(6,.x (.one (.p (pi (1:Int))))),(7,.x (.one (.p (pi (0:Int))))),(8,.x (.one (.p (pi (0:Int))))),(9,.x (.one (.p (pi (0:Int)))))],mkH []⟩) rfl rfl imp_au
      · intro b_6
        replace H0:=cneg H0 b_6
        refine lok_skip ?_
        try simp only [thenL,blockL,↓reduceIte,reduceCtorEq]
        replace H0:=bind_some H0
        obtain ⟨⟨y3,y4⟩,h_3,H0⟩:=H0
        try dsimp only at H0
        refine lok_rt (Env.of E0 [⟨some 27,23,[.agg [.p (.sl 3 (List.map enc_api_Unit a.Units)),.p (.sl 1 (List.map encI a.Bounds)),.p (pi a.Max)],.one (.p (.sl 3 (List.map enc_api_UnitMark l))),.one (.p (pi special))],[],[.one (.p (pi y3)),.one (.p (pi y4))],[],True,fun _ => ok_aggregate_Total a l special (y3,y4) h_3,[]⟩]) (⟨38,mkS [(3,.x (.one (.ptr 103 0))),(8,.x (.one (.p (pi y3)))),(9,.x (.one (.p (pi y4))))],mkH [(103,.var [.p (.sl 3 (List.map enc_api_Unit a.Units)),.p (.sl 1 (List.map encI a.Bounds)),.p (pi a.Max)])]⟩) ?_
        refine lok_seq ?_
        refine lok_rt E0 (⟨38,mkS [(3,.x (.one (.ptr 103 0))),(8,.x (.one (.p (pi y3)))),(9,.x (.one (.p (pi y4)))),(31,.x (.one (.p (.val (.bool (y4 != (0:Int)))))))],mkH [(103,.var [.p (.sl 3 (List.map enc_api_Unit a.Units)),.p (.sl 1 (List.map encI a.Bounds)),.p (pi a.Max)])]⟩) ?_
        refine lok_c (y4 != (0:Int)) ?_ ?_
        · intro b_5
          replace H0:=cpos H0 b_5
          refine lok_rt E0 (⟨38,mkS [(6,.x (.one (.p (pi (0:Int))))),(7,.x (.one (.p (pi (0:Int))))),(8,.x (.one (.p (pi (0:Int))))),(9,.x (.one (.p (pi y4))))],mkH []⟩) ?_
          refine lok_ret ?_
          obtain rfl:=Option.some.inj H0
          try simp only [thenL,blockL]
          exact fin_au _ (.inr rfl) [] (⟨38,mkS [(6,.x (.one (.p (pi (0:Int))))),(7,.x (.one (.p (pi (0:Int))))),(8,.x (.one (.p (pi (0:Int))))),(9,.x (.one (.p (pi y4))))],mkH []⟩) rfl rfl imp_au
        · intro b_5
          replace H0:=cneg H0 b_5
          refine lok_skip ?_
          try simp only [thenL,blockL,↓reduceIte,reduceCtorEq]
          replace H0:=bind_some H0
          obtain ⟨y5,h_4,H0⟩:=H0
          refine lok_rt (Env.of E0 [⟨some 36,58,[.one (.p (.sl 1 (List.map encI a.Bounds))),.one (.p (pi y3))],[],[.one (.p (pi y5))],[],True,fun _ => ok_boundary_Grade a.Bounds y3 y5 h_4,[]⟩]) (⟨38,mkS [(6,.x (.one (.p (pi (0:Int))))),(7,.x (.one (.p (pi y5)))),(8,.x (.one (.p (pi y3)))),(9,.x (.one (.p (pi (0:Int)))))],mkH []⟩) ?_
          refine lok_ret ?_
          obtain rfl:=Option.some.inj H0
          try simp only [thenL,blockL]
          exact fin_au _ (.inr rfl) [] (⟨38,mkS [(6,.x (.one (.p (pi (0:Int))))),(7,.x (.one (.p (pi y5)))),(8,.x (.one (.p (pi y3)))),(9,.x (.one (.p (pi (0:Int)))))],mkH []⟩) rfl rfl imp_au
theorem ok_result_Check (a : api_Award) (l : List api_Standing) (r_:Int) (H0 : result_Check a l = some r_) : CallOK Try.prog 64 [.agg [.p (.sl 3 (List.map enc_api_Unit a.Units)),.p (.sl 1 (List.map encI a.Bounds)),.p (pi a.Max)],.one (.p (.sl 3 (List.map enc_api_Standing l)))] [] [.one (.p (pi r_))] []:=by
  refine callOK (n:=61) (rs:=[.tmp 4]) (nb:=0) (V:=[]) Try.func64 rfl (by kernel_rfl) rfl rfl rfl rfl (Nat.le_of_ble_eq_true rfl) (by decide) ?_
  unfold result_Check at H0
  refine lok_rt E0 (⟨61,mkS [(1,.x (.one (.p (.sl 3 (List.map enc_api_Standing l))))),(2,.x (.one (.ptr 102 0)))],mkH [(102,.var [.p (.sl 3 (List.map enc_api_Unit a.Units)),.p (.sl 1 (List.map encI a.Bounds)),.p (pi a.Max)])]⟩) ?_
  refine lok_seq ?_
  replace H0:=bind_some H0
  obtain ⟨y,h_0,H0⟩:=H0
  refine lok_rt (Env.of E0 [⟨some 10,19,[.agg [.p (.sl 3 (List.map enc_api_Unit a.Units)),.p (.sl 1 (List.map encI a.Bounds)),.p (pi a.Max)]],[],[.one (.p (pi y))],[],True,fun _ => ok_aggregate_Check a y h_0,[]⟩]) (⟨61,mkS [(1,.x (.one (.p (.sl 3 (List.map enc_api_Standing l))))),(2,.x (.one (.ptr 102 0))),(11,.x (.one (.p (.val (.bool (y != (0:Int)))))))],mkH [(102,.var [.p (.sl 3 (List.map enc_api_Unit a.Units)),.p (.sl 1 (List.map encI a.Bounds)),.p (pi a.Max)])]⟩) ?_
  refine lok_c (y != (0:Int)) ?_ ?_
  · intro b_11
    replace H0:=cpos H0 b_11
    refine lok_rt E0 (⟨61,mkS [(4,.x (.one (.p (pi (1:Int)))))],mkH []⟩) ?_
    refine lok_ret ?_
    obtain rfl:=Option.some.inj H0
    try simp only [thenL,blockL]
    exact fin_au _ (.inr rfl) [] (⟨61,mkS [(4,.x (.one (.p (pi (1:Int)))))],mkH []⟩) rfl rfl imp_au
  · intro b_11
    replace H0:=cneg H0 b_11
    refine lok_skip ?_
    try simp only [thenL,blockL,↓reduceIte,reduceCtorEq]
    refine lok_seq ?_
    refine lok_rt E0 (⟨61,mkS [(1,.x (.one (.p (.sl 3 (List.map enc_api_Standing l))))),(2,.x (.one (.ptr 102 0))),(14,.x (.one (.p (.val (.bool (decide ((60:Int) < (l.length:Int))))))))],mkH [(102,.var [.p (.sl 3 (List.map enc_api_Unit a.Units)),.p (.sl 1 (List.map encI a.Bounds)),.p (pi a.Max)])]⟩) ?_
    refine lok_c (decide ((60:Int) < (l.length:Int))) ?_ ?_
    · intro b_10
      replace H0:=cpos H0 b_10
      refine lok_rt E0 (⟨61,mkS [(4,.x (.one (.p (pi (3:Int)))))],mkH []⟩) ?_
      refine lok_ret ?_
      obtain rfl:=Option.some.inj H0
      try simp only [thenL,blockL]
      exact fin_au _ (.inr rfl) [] (⟨61,mkS [(4,.x (.one (.p (pi (3:Int)))))],mkH []⟩) rfl rfl imp_au
    · intro b_10
      replace H0:=cneg H0 b_10
      refine lok_skip ?_
      try simp only [thenL,blockL,↓reduceIte,reduceCtorEq]
      refine lok_join (fun x_ : Unit => result_Check_j1 = some r_) (fun x_ => ⟨61,mkS [],mkH []⟩) ?hyresult_Check_j1 ?hxresult_Check_j1
      case hyresult_Check_j1 =>
        rintro _ H0
        try dsimp only at H0 ⊢
        unfold result_Check_j1 at H0
        refine lok_rt E0 (⟨61,mkS [(4,.x (.one (.p (pi (0:Int)))))],mkH []⟩) ?_
        refine lok_ret ?_
        obtain rfl:=Option.some.inj H0
        try simp only [thenL,blockL]
        exact fin_au _ (.inr rfl) [] (⟨61,mkS [(4,.x (.one (.p (pi (0:Int)))))],mkH []⟩) rfl rfl imp_au
      case hxresult_Check_j1 =>
        refine lok_rt E0 (⟨61,mkS [(1,.x (.one (.p (.sl 3 (List.map enc_api_Standing l))))),(2,.x (.one (.ptr 102 0))),(15,.x (.one (.p (.sl 3 (List.map enc_api_Standing l))))),(16,.x (.one (.p (pi (l.length:Int))))),(17,.x (.one (.p (pi (0:Int)))))],mkH [(102,.var [.p (.sl 3 (List.map enc_api_Unit a.Units)),.p (.sl 1 (List.map encI a.Bounds)),.p (pi a.Max)])]⟩) ?_
        refine lok_block ?_
        replace H0:=bind_some H0
        obtain ⟨v_1,hv_1,H0⟩:=H0
        refine lok_iter (fun x_ => ⟨61,mkS [(1,.x (.one (.p (.sl 3 (List.map enc_api_Standing l))))),(2,.x (.one (.ptr 102 0))),(15,.x (.one (.p (.sl 3 (List.map enc_api_Standing l))))),(16,.x (.one (.p (pi (l.length:Int))))),(17,.x (.one (.p (pi x_))))],mkH [(102,.var [.p (.sl 3 (List.map enc_api_Unit a.Units)),.p (.sl 1 (List.map encI a.Bounds)),.p (pi a.Max)])]⟩) hv_1 imp_au ?_
        · rintro v o_1 H1 k_1
          unfold result_Check_l2 at H1
          try dsimp only at H1 ⊢
          refine lok_rt E0 (⟨61,mkS [(1,.x (.one (.p (.sl 3 (List.map enc_api_Standing l))))),(2,.x (.one (.ptr 102 0))),(15,.x (.one (.p (.sl 3 (List.map enc_api_Standing l))))),(16,.x (.one (.p (pi (l.length:Int))))),(17,.x (.one (.p (pi v)))),(18,.x (.one (.p (.val (.bool (decide (v < (l.length:Int))))))))],mkH [(102,.var [.p (.sl 3 (List.map enc_api_Unit a.Units)),.p (.sl 1 (List.map encI a.Bounds)),.p (pi a.Max)])]⟩) ?_
          refine lok_seq ?_
          refine lok_c (decide (v < (l.length:Int))) ?_ ?_
          · intro b_9
            replace H1:=cpos H1 b_9
            refine lok_skip ?_
            try simp only [thenL,blockL,↓reduceIte,reduceCtorEq]
            refine lok_seq ?_
            refine lok_block ?_
            replace H1:=req_some H1
            obtain ⟨q_8,H1⟩:=H1
            refine lok_rt E0 (⟨61,mkS [(1,.x (.one (.p (.sl 3 (List.map enc_api_Standing l))))),(2,.x (.one (.ptr 102 0))),(5,.x (.one (.p (pi v)))),(6,.x (.one (.ptr 106 0))),(15,.x (.one (.p (.sl 3 (List.map enc_api_Standing l))))),(16,.x (.one (.p (pi (l.length:Int))))),(17,.x (.one (.p (pi v))))],mkH [(102,.var [.p (.sl 3 (List.map enc_api_Unit a.Units)),.p (.sl 1 (List.map encI a.Bounds)),.p (pi a.Max)]),(106,.var [.p (pi ((ix l v).Candidate)),.p (.sl 3 (List.map enc_api_UnitMark ((ix l v).Units))),.p (pi ((ix l v).Special))])]⟩) ?_
            refine lok_seq ?_
            refine lok_rt E0 (⟨61,mkS [(1,.x (.one (.p (.sl 3 (List.map enc_api_Standing l))))),(2,.x (.one (.ptr 102 0))),(5,.x (.one (.p (pi v)))),(6,.x (.one (.ptr 106 0))),(15,.x (.one (.p (.sl 3 (List.map enc_api_Standing l))))),(16,.x (.one (.p (pi (l.length:Int))))),(17,.x (.one (.p (pi v)))),(29,.x (.one (.p (.val (.bool ((decide ((ix l v).Candidate < (0:Int))) || (decide ((9999:Int) < (ix l v).Candidate))))))))],mkH [(102,.var [.p (.sl 3 (List.map enc_api_Unit a.Units)),.p (.sl 1 (List.map encI a.Bounds)),.p (pi a.Max)]),(106,.var [.p (pi ((ix l v).Candidate)),.p (.sl 3 (List.map enc_api_UnitMark ((ix l v).Units))),.p (pi ((ix l v).Special))])]⟩) ?_
            refine lok_c ((decide ((ix l v).Candidate < (0:Int))) || (decide ((9999:Int) < (ix l v).Candidate))) ?_ ?_
            · intro b_7
              replace H1:=cpos H1 b_7
              refine lok_rt E0 (⟨61,mkS [(4,.x (.one (.p (pi (2:Int)))))],mkH []⟩) ?_
              refine lok_ret ?_
              try simp only [thenL,blockL,↓reduceIte,reduceCtorEq]
              have e_1:=k_1 _ (Option.some.inj H1).symm
              subst e_1
              try dsimp only at H0
              obtain rfl:=Option.some.inj H0
              try simp only [thenL,blockL]
              exact fin_au _ (.inr rfl) [] (⟨61,mkS [(4,.x (.one (.p (pi (2:Int)))))],mkH []⟩) rfl rfl imp_au
            · intro b_7
              replace H1:=cneg H1 b_7
              refine lok_skip ?_
              try simp only [thenL,blockL,↓reduceIte,reduceCtorEq]
              refine lok_seq ?_
              replace H1:=req_some H1
              obtain ⟨q_6,H1⟩:=H1
              refine lok_dt E0 11 (⟨61,mkS [(1,.x (.one (.p (.sl 3 (List.map enc_api_Standing l))))),(2,.x (.one (.ptr 102 0))),(6,.x (.one (.ptr 106 0))),(15,.x (.one (.p (.sl 3 (List.map enc_api_Standing l))))),(16,.x (.one (.p (pi (l.length:Int))))),(17,.x (.one (.p (pi v)))),(42,.x (.one (.p (.val (.bool ((decide ((0:Int) < v)) && (decide ((ix l v).Candidate ≤ (ix l (IntKind.i64.wrap (v - (1:Int)))).Candidate))))))))],mkH [(102,.var [.p (.sl 3 (List.map enc_api_Unit a.Units)),.p (.sl 1 (List.map encI a.Bounds)),.p (pi a.Max)]),(106,.var [.p (pi ((ix l v).Candidate)),.p (.sl 3 (List.map enc_api_UnitMark ((ix l v).Units))),.p (pi ((ix l v).Special))])]⟩) (by kernel_rfl) (by kernel_rfl) ?_
              refine lok_c ((decide ((0:Int) < v)) && (decide ((ix l v).Candidate ≤ (ix l (IntKind.i64.wrap (v - (1:Int)))).Candidate))) ?_ ?_
              · intro b_5
                replace H1:=cpos H1 b_5
                refine lok_rt E0 (⟨61,mkS [(4,.x (.one (.p (pi (43:Int)))))],mkH []⟩) ?_
                refine lok_ret ?_
                try simp only [thenL,blockL,↓reduceIte,reduceCtorEq]
                have e_1:=k_1 _ (Option.some.inj H1).symm
                subst e_1
                try dsimp only at H0
                obtain rfl:=Option.some.inj H0
                try simp only [thenL,blockL]
                exact fin_au _ (.inr rfl) [] (⟨61,mkS [(4,.x (.one (.p (pi (43:Int)))))],mkH []⟩) rfl rfl imp_au
              · intro b_5
                replace H1:=cneg H1 b_5
                refine lok_skip ?_
                try simp only [thenL,blockL,↓reduceIte,reduceCtorEq]
                refine lok_seq ?_
                replace H1:=bind_some H1
                obtain ⟨⟨y1,y2⟩,h_2,H1⟩:=H1
                try dsimp only at H1
                refine lok_rt (Env.of E0 [⟨some 47,21,[.agg [.p (.sl 3 (List.map enc_api_Unit a.Units)),.p (.sl 1 (List.map encI a.Bounds)),.p (pi a.Max)],.one (.p (.sl 3 (List.map enc_api_UnitMark ((ix l v).Units)))),.one (.p (pi (0:Int)))],[],[.agg [.p (pi y1.Num),.p (pi y1.Den)],.one (.p (pi y2))],[],True,fun _ => ok_aggregate_Exact a ((ix l v).Units) (0:Int) (y1,y2) h_2,[]⟩]) (⟨61,mkS [(1,.x (.one (.p (.sl 3 (List.map enc_api_Standing l))))),(2,.x (.one (.ptr 102 0))),(6,.x (.one (.ptr 106 0))),(8,.x (.one (.p (pi y2)))),(15,.x (.one (.p (.sl 3 (List.map enc_api_Standing l))))),(16,.x (.one (.p (pi (l.length:Int))))),(17,.x (.one (.p (pi v))))],mkH [(102,.var [.p (.sl 3 (List.map enc_api_Unit a.Units)),.p (.sl 1 (List.map encI a.Bounds)),.p (pi a.Max)]),(106,.var [.p (pi ((ix l v).Candidate)),.p (.sl 3 (List.map enc_api_UnitMark ((ix l v).Units))),.p (pi ((ix l v).Special))])]⟩) ?_
                refine lok_rt E0 (⟨61,mkS [(1,.x (.one (.p (.sl 3 (List.map enc_api_Standing l))))),(2,.x (.one (.ptr 102 0))),(6,.x (.one (.ptr 106 0))),(15,.x (.one (.p (.sl 3 (List.map enc_api_Standing l))))),(16,.x (.one (.p (pi (l.length:Int))))),(17,.x (.one (.p (pi v)))),(51,.x (.one (.p (.val (.bool (y2 == (1:Int)))))))],mkH [(102,.var [.p (.sl 3 (List.map enc_api_Unit a.Units)),.p (.sl 1 (List.map encI a.Bounds)),.p (pi a.Max)]),(106,.var [.p (pi ((ix l v).Candidate)),.p (.sl 3 (List.map enc_api_UnitMark ((ix l v).Units))),.p (pi ((ix l v).Special))])]⟩) ?_
                refine lok_c (y2 == (1:Int)) ?_ ?_
                · intro b_4
                  replace H1:=cpos H1 b_4
                  refine lok_rt E0 (⟨61,mkS [(4,.x (.one (.p (pi (1:Int)))))],mkH []⟩) ?_
                  refine lok_ret ?_
                  try simp only [thenL,blockL,↓reduceIte,reduceCtorEq]
                  have e_1:=k_1 _ (Option.some.inj H1).symm
                  subst e_1
                  try dsimp only at H0
                  obtain rfl:=Option.some.inj H0
                  try simp only [thenL,blockL]
                  exact fin_au _ (.inr rfl) [] (⟨61,mkS [(4,.x (.one (.p (pi (1:Int)))))],mkH []⟩) rfl rfl imp_au
                · intro b_4
                  replace H1:=cneg H1 b_4
                  refine lok_skip ?_
                  try simp only [thenL,blockL,↓reduceIte,reduceCtorEq]
                  refine lok_rt E0 (⟨61,mkS [(1,.x (.one (.p (.sl 3 (List.map enc_api_Standing l))))),(2,.x (.one (.ptr 102 0))),(15,.x (.one (.p (.sl 3 (List.map enc_api_Standing l))))),(16,.x (.one (.p (pi (l.length:Int))))),(17,.x (.one (.p (pi v)))),(59,.x (.one (.p (.val (.bool ((decide ((ix l v).Special < (0:Int))) || (decide ((50:Int) < (ix l v).Special))))))))],mkH [(102,.var [.p (.sl 3 (List.map enc_api_Unit a.Units)),.p (.sl 1 (List.map encI a.Bounds)),.p (pi a.Max)])]⟩) ?_
                  refine lok_c ((decide ((ix l v).Special < (0:Int))) || (decide ((50:Int) < (ix l v).Special))) ?_ ?_
                  · intro b_3
                    replace H1:=cpos H1 b_3
                    refine lok_rt E0 (⟨61,mkS [(4,.x (.one (.p (pi (2:Int)))))],mkH []⟩) ?_
                    refine lok_ret ?_
                    try simp only [thenL,blockL,↓reduceIte,reduceCtorEq]
                    have e_1:=k_1 _ (Option.some.inj H1).symm
                    subst e_1
                    try dsimp only at H0
                    obtain rfl:=Option.some.inj H0
                    try simp only [thenL,blockL]
                    exact fin_au _ (.inr rfl) [] (⟨61,mkS [(4,.x (.one (.p (pi (2:Int)))))],mkH []⟩) rfl rfl imp_au
                  · intro b_3
                    replace H1:=cneg H1 b_3
                    refine lok_skip ?_
                    try simp only [thenL,blockL,↓reduceIte,reduceCtorEq]
                    refine lok_rl E0 (⟨61,mkS [(1,.x (.one (.p (.sl 3 (List.map enc_api_Standing l))))),(2,.x (.one (.ptr 102 0))),(15,.x (.one (.p (.sl 3 (List.map enc_api_Standing l))))),(16,.x (.one (.p (pi (l.length:Int))))),(17,.x (.one (.p (pi (IntKind.i64.wrap (v + (1:Int)))))))],mkH [(102,.var [.p (.sl 3 (List.map enc_api_Unit a.Units)),.p (.sl 1 (List.map encI a.Bounds)),.p (pi a.Max)])]⟩) ?_
                    try simp only [thenL,blockL,↓reduceIte,reduceCtorEq]
                    exact ⟨(IntKind.i64.wrap (v + (1:Int))),(Option.some.inj H1).symm,imp_au⟩
          · intro b_9
            replace H1:=cneg H1 b_9
            refine lok_exit ?_
            try simp only [thenL,blockL,↓reduceIte,reduceCtorEq]
            have e_1:=k_1 _ (Option.some.inj H1).symm
            subst e_1
            try dsimp only at H0
            try simp only [thenL,blockL,↓reduceIte,reduceCtorEq]
            exact ⟨(),H0,imp_au⟩
theorem ok_result_Compute (a : api_Award) (l : List api_Standing) (r_ : (List api_Outcome) × Int) (H0 : result_Compute a l = some r_) : CallOK Try.prog 32 [.agg [.p (.sl 3 (List.map enc_api_Unit a.Units)),.p (.sl 1 (List.map encI a.Bounds)),.p (pi a.Max)],.one (.p (.sl 3 (List.map enc_api_Standing l)))] [] [.one (.p (.sl 5 (List.map enc_api_Outcome r_.1))),.one (.p (pi r_.2))] []:=by
  refine callOK (n:=59) (rs:=[.tmp 4,.tmp 5]) (nb:=0) (V:=[]) Try.func32 rfl (by kernel_rfl) rfl rfl rfl rfl (Nat.le_of_ble_eq_true rfl) (by decide) ?_
  unfold result_Compute at H0
  refine lok_rt E0 (⟨59,mkS [(1,.x (.one (.p (.sl 3 (List.map enc_api_Standing l))))),(2,.x (.one (.ptr 102 0)))],mkH [(102,.var [.p (.sl 3 (List.map enc_api_Unit a.Units)),.p (.sl 1 (List.map encI a.Bounds)),.p (pi a.Max)])]⟩) ?_
  refine lok_seq ?_
  replace H0:=bind_some H0
  obtain ⟨y,h_0,H0⟩:=H0
  refine lok_rt (Env.of E0 [⟨some 17,64,[.agg [.p (.sl 3 (List.map enc_api_Unit a.Units)),.p (.sl 1 (List.map encI a.Bounds)),.p (pi a.Max)],.one (.p (.sl 3 (List.map enc_api_Standing l)))],[],[.one (.p (pi y))],[],True,fun _ => ok_result_Check a l y h_0,[]⟩]) (⟨59,mkS [(1,.x (.one (.p (.sl 3 (List.map enc_api_Standing l))))),(2,.x (.one (.ptr 102 0))),(6,.x (.one (.p (pi y))))],mkH [(102,.var [.p (.sl 3 (List.map enc_api_Unit a.Units)),.p (.sl 1 (List.map encI a.Bounds)),.p (pi a.Max)])]⟩) ?_
  refine lok_rt E0 (⟨59,mkS [(1,.x (.one (.p (.sl 3 (List.map enc_api_Standing l))))),(2,.x (.one (.ptr 102 0))),(6,.x (.one (.p (pi y)))),(19,.x (.one (.p (.val (.bool (y != (0:Int)))))))],mkH [(102,.var [.p (.sl 3 (List.map enc_api_Unit a.Units)),.p (.sl 1 (List.map encI a.Bounds)),.p (pi a.Max)])]⟩) ?_
  refine lok_c (y != (0:Int)) ?_ ?_
  · intro b_9
    replace H0:=cpos H0 b_9
    refine lok_rt E0 (⟨59,mkS [(4,.x (.one (.vw 104))),(5,.x (.one (.p (pi y))))],mkH [(104,.arr 5 (List.map enc_api_Outcome ([] : List api_Outcome)))]⟩) ?_
    refine lok_ret ?_
    obtain rfl:=Option.some.inj H0
    try simp only [thenL,blockL]
    exact fin_au _ (.inr rfl) [] (⟨59,mkS [(4,.x (.one (.p (.sl 5 (List.map enc_api_Outcome ([] : List api_Outcome)))))),(5,.x (.one (.p (pi y))))],mkH []⟩) rfl rfl (Imp.trans (imp_frz 104 5 (List.map enc_api_Outcome ([] : List api_Outcome))) imp_au)
  · intro b_9
    replace H0:=cneg H0 b_9
    refine lok_skip ?_
    try simp only [thenL,blockL,↓reduceIte,reduceCtorEq]
    replace H0:=req_some H0
    obtain ⟨q_8,H0⟩:=H0
    refine lok_rt E0 (⟨59,mkS [(1,.x (.one (.p (.sl 3 (List.map enc_api_Standing l))))),(2,.x (.one (.ptr 102 0))),(7,.x (.one (.vw 123)))],mkH [(102,.var [.p (.sl 3 (List.map enc_api_Unit a.Units)),.p (.sl 1 (List.map encI a.Bounds)),.p (pi a.Max)]),(123,.arr 5 (List.map enc_api_Outcome (rep (l.length:Int) (api_Outcome.mk (0:Int) (0:Int) (0:Int) (0:Int) (0:Int)))))]⟩) ?_
    refine lok_join (fun x_ : (List api_Outcome) => result_Compute_j1 x_ = some r_) (fun x_ => ⟨59,mkS [(7,.x (.one (.vw 123)))],mkH [(123,.arr 5 (List.map enc_api_Outcome x_))]⟩) ?hyresult_Compute_j1 ?hxresult_Compute_j1
    case hyresult_Compute_j1 =>
      rintro w H0
      try dsimp only at H0 ⊢
      unfold result_Compute_j1 at H0
      refine lok_rt E0 (⟨59,mkS [(4,.x (.one (.vw 123))),(5,.x (.one (.p (pi (0:Int)))))],mkH [(123,.arr 5 (List.map enc_api_Outcome w))]⟩) ?_
      refine lok_ret ?_
      obtain rfl:=Option.some.inj H0
      try simp only [thenL,blockL]
      exact fin_au _ (.inr rfl) [] (⟨59,mkS [(4,.x (.one (.p (.sl 5 (List.map enc_api_Outcome w))))),(5,.x (.one (.p (pi (0:Int)))))],mkH []⟩) rfl rfl (Imp.trans (imp_frz 123 5 (List.map enc_api_Outcome w)) imp_au)
    case hxresult_Compute_j1 =>
      refine lok_rt E0 (⟨59,mkS [(2,.x (.one (.ptr 102 0))),(7,.x (.one (.vw 123))),(24,.x (.one (.p (.sl 3 (List.map enc_api_Standing l))))),(25,.x (.one (.p (pi (l.length:Int))))),(26,.x (.one (.p (pi (0:Int)))))],mkH [(102,.var [.p (.sl 3 (List.map enc_api_Unit a.Units)),.p (.sl 1 (List.map encI a.Bounds)),.p (pi a.Max)]),(123,.arr 5 (List.map enc_api_Outcome (rep (l.length:Int) (api_Outcome.mk (0:Int) (0:Int) (0:Int) (0:Int) (0:Int)))))]⟩) ?_
      refine lok_block ?_
      replace H0:=bind_some H0
      obtain ⟨v_1,hv_1,H0⟩:=H0
      refine lok_iter (fun x_ => ⟨59,mkS [(2,.x (.one (.ptr 102 0))),(7,.x (.one (.vw 123))),(24,.x (.one (.p (.sl 3 (List.map enc_api_Standing l))))),(25,.x (.one (.p (pi (l.length:Int))))),(26,.x (.one (.p (pi x_.1))))],mkH [(102,.var [.p (.sl 3 (List.map enc_api_Unit a.Units)),.p (.sl 1 (List.map encI a.Bounds)),.p (pi a.Max)]),(123,.arr 5 (List.map enc_api_Outcome x_.2))]⟩) hv_1 imp_au ?_
      · rintro ⟨v,w1⟩ o_1 H1 k_1
        unfold result_Compute_l3 at H1
        try dsimp only at H1 ⊢
        refine lok_rt E0 (⟨59,mkS [(2,.x (.one (.ptr 102 0))),(7,.x (.one (.vw 123))),(24,.x (.one (.p (.sl 3 (List.map enc_api_Standing l))))),(25,.x (.one (.p (pi (l.length:Int))))),(26,.x (.one (.p (pi v)))),(27,.x (.one (.p (.val (.bool (decide (v < (l.length:Int))))))))],mkH [(102,.var [.p (.sl 3 (List.map enc_api_Unit a.Units)),.p (.sl 1 (List.map encI a.Bounds)),.p (pi a.Max)]),(123,.arr 5 (List.map enc_api_Outcome w1))]⟩) ?_
        refine lok_seq ?_
        refine lok_c (decide (v < (l.length:Int))) ?_ ?_
        · intro b_7
          replace H1:=cpos H1 b_7
          refine lok_skip ?_
          try simp only [thenL,blockL,↓reduceIte,reduceCtorEq]
          refine lok_seq ?_
          refine lok_block ?_
          replace H1:=req_some H1
          obtain ⟨q_6,H1⟩:=H1
          refine lok_rt E0 (⟨59,mkS [(2,.x (.one (.ptr 102 0))),(7,.x (.one (.vw 123))),(8,.x (.one (.p (pi v)))),(9,.x (.one (.ptr 109 0))),(24,.x (.one (.p (.sl 3 (List.map enc_api_Standing l))))),(25,.x (.one (.p (pi (l.length:Int))))),(26,.x (.one (.p (pi v))))],mkH [(102,.var [.p (.sl 3 (List.map enc_api_Unit a.Units)),.p (.sl 1 (List.map encI a.Bounds)),.p (pi a.Max)]),(109,.var [.p (pi ((ix l v).Candidate)),.p (.sl 3 (List.map enc_api_UnitMark ((ix l v).Units))),.p (pi ((ix l v).Special))]),(123,.arr 5 (List.map enc_api_Outcome w1))]⟩) ?_
          replace H1:=bind_some H1
          obtain ⟨⟨y1,y2,y3,y4⟩,h_2,H1⟩:=H1
          try dsimp only at H1
          refine lok_rt (Env.of E0 [⟨some 37,25,[.agg [.p (.sl 3 (List.map enc_api_Unit a.Units)),.p (.sl 1 (List.map encI a.Bounds)),.p (pi a.Max)],.one (.p (.sl 3 (List.map enc_api_UnitMark ((ix l v).Units)))),.one (.p (pi ((ix l v).Special)))],[],[.one (.p (pi y1)),.one (.p (pi y2)),.one (.p (pi y3)),.one (.p (pi y4))],[],True,fun _ => ok_aggregate_Decide a ((ix l v).Units) ((ix l v).Special) (y1,y2,y3,y4) h_2,[]⟩]) (⟨59,mkS [(2,.x (.one (.ptr 102 0))),(7,.x (.one (.vw 123))),(8,.x (.one (.p (pi v)))),(9,.x (.one (.ptr 109 0))),(10,.x (.one (.p (pi y1)))),(11,.x (.one (.p (pi y2)))),(12,.x (.one (.p (pi y3)))),(13,.x (.one (.p (pi y4)))),(24,.x (.one (.p (.sl 3 (List.map enc_api_Standing l))))),(25,.x (.one (.p (pi (l.length:Int))))),(26,.x (.one (.p (pi v))))],mkH [(102,.var [.p (.sl 3 (List.map enc_api_Unit a.Units)),.p (.sl 1 (List.map encI a.Bounds)),.p (pi a.Max)]),(109,.var [.p (pi ((ix l v).Candidate)),.p (.sl 3 (List.map enc_api_UnitMark ((ix l v).Units))),.p (pi ((ix l v).Special))]),(123,.arr 5 (List.map enc_api_Outcome w1))]⟩) ?_
          refine lok_seq ?_
          refine lok_rt E0 (⟨59,mkS [(2,.x (.one (.ptr 102 0))),(7,.x (.one (.vw 123))),(8,.x (.one (.p (pi v)))),(9,.x (.one (.ptr 109 0))),(10,.x (.one (.p (pi y1)))),(11,.x (.one (.p (pi y2)))),(12,.x (.one (.p (pi y3)))),(13,.x (.one (.p (pi y4)))),(24,.x (.one (.p (.sl 3 (List.map enc_api_Standing l))))),(25,.x (.one (.p (pi (l.length:Int))))),(26,.x (.one (.p (pi v)))),(43,.x (.one (.p (.val (.bool (y4 != (0:Int)))))))],mkH [(102,.var [.p (.sl 3 (List.map enc_api_Unit a.Units)),.p (.sl 1 (List.map encI a.Bounds)),.p (pi a.Max)]),(109,.var [.p (pi ((ix l v).Candidate)),.p (.sl 3 (List.map enc_api_UnitMark ((ix l v).Units))),.p (pi ((ix l v).Special))]),(123,.arr 5 (List.map enc_api_Outcome w1))]⟩) ?_
          refine lok_c (y4 != (0:Int)) ?_ ?_
          · intro b_5
            replace H1:=cpos H1 b_5
            refine lok_rt E0 (⟨59,mkS [(4,.x (.one (.vw 104))),(5,.x (.one (.p (pi y4))))],mkH [(104,.arr 5 (List.map enc_api_Outcome ([] : List api_Outcome)))]⟩) ?_
            refine lok_ret ?_
            try simp only [thenL,blockL,↓reduceIte,reduceCtorEq]
            have e_1:=k_1 _ (Option.some.inj H1).symm
            subst e_1
            try dsimp only at H0
            obtain rfl:=Option.some.inj H0
            try simp only [thenL,blockL]
            exact fin_au _ (.inr rfl) [] (⟨59,mkS [(4,.x (.one (.p (.sl 5 (List.map enc_api_Outcome ([] : List api_Outcome)))))),(5,.x (.one (.p (pi y4))))],mkH []⟩) rfl rfl (Imp.trans (imp_frz 104 5 (List.map enc_api_Outcome ([] : List api_Outcome))) imp_au)
          · intro b_5
            replace H1:=cneg H1 b_5
            refine lok_skip ?_
            try simp only [thenL,blockL,↓reduceIte,reduceCtorEq]
            refine lok_rt E0 (⟨59,mkS [(2,.x (.one (.ptr 102 0))),(7,.x (.one (.vw 123))),(8,.x (.one (.p (pi v)))),(9,.x (.one (.ptr 109 0))),(10,.x (.one (.p (pi y1)))),(11,.x (.one (.p (pi y2)))),(12,.x (.one (.p (pi y3)))),(14,.x (.one (.p (pi (0:Int))))),(24,.x (.one (.p (.sl 3 (List.map enc_api_Standing l))))),(25,.x (.one (.p (pi (l.length:Int))))),(26,.x (.one (.p (pi v))))],mkH [(102,.var [.p (.sl 3 (List.map enc_api_Unit a.Units)),.p (.sl 1 (List.map encI a.Bounds)),.p (pi a.Max)]),(109,.var [.p (pi ((ix l v).Candidate)),.p (.sl 3 (List.map enc_api_UnitMark ((ix l v).Units))),.p (pi ((ix l v).Special))]),(123,.arr 5 (List.map enc_api_Outcome w1))]⟩) ?_
            refine lok_join (fun x_ : Int => result_Compute_j2 l v w1 y1 y2 y3 x_ = some o_1) (fun x_ => ⟨59,mkS [(2,.x (.one (.ptr 102 0))),(7,.x (.one (.vw 123))),(8,.x (.one (.p (pi v)))),(9,.x (.one (.ptr 109 0))),(10,.x (.one (.p (pi y1)))),(11,.x (.one (.p (pi y2)))),(12,.x (.one (.p (pi y3)))),(14,.x (.one (.p (pi x_)))),(24,.x (.one (.p (.sl 3 (List.map enc_api_Standing l))))),(25,.x (.one (.p (pi (l.length:Int))))),(26,.x (.one (.p (pi v))))],mkH [(102,.var [.p (.sl 3 (List.map enc_api_Unit a.Units)),.p (.sl 1 (List.map encI a.Bounds)),.p (pi a.Max)]),(109,.var [.p (pi ((ix l v).Candidate)),.p (.sl 3 (List.map enc_api_UnitMark ((ix l v).Units))),.p (pi ((ix l v).Special))]),(123,.arr 5 (List.map enc_api_Outcome w1))]⟩) ?hyresult_Compute_j2 ?hxresult_Compute_j2
            case hyresult_Compute_j2 =>
              rintro reason H1
              try dsimp only at H1 ⊢
              unfold result_Compute_j2 at H1
              replace H1:=req_some H1
              obtain ⟨q_3,H1⟩:=H1
              refine lok_rl E0 (⟨59,mkS [(2,.x (.one (.ptr 102 0))),(7,.x (.one (.vw 123))),(24,.x (.one (.p (.sl 3 (List.map enc_api_Standing l))))),(25,.x (.one (.p (pi (l.length:Int))))),(26,.x (.one (.p (pi v))))],mkH [(102,.var [.p (.sl 3 (List.map enc_api_Unit a.Units)),.p (.sl 1 (List.map encI a.Bounds)),.p (pi a.Max)]),(123,.arr 5 (List.map enc_api_Outcome (setI w1 v (api_Outcome.mk ((ix l v).Candidate) y1 y2 y3 reason))))]⟩) ?_
              try simp only [thenL,blockL,↓reduceIte,reduceCtorEq]
              refine lok_rl E0 (⟨59,mkS [(2,.x (.one (.ptr 102 0))),(7,.x (.one (.vw 123))),(24,.x (.one (.p (.sl 3 (List.map enc_api_Standing l))))),(25,.x (.one (.p (pi (l.length:Int))))),(26,.x (.one (.p (pi (IntKind.i64.wrap (v + (1:Int)))))))],mkH [(102,.var [.p (.sl 3 (List.map enc_api_Unit a.Units)),.p (.sl 1 (List.map encI a.Bounds)),.p (pi a.Max)]),(123,.arr 5 (List.map enc_api_Outcome (setI w1 v (api_Outcome.mk ((ix l v).Candidate) y1 y2 y3 reason))))]⟩) ?_
              try simp only [thenL,blockL,↓reduceIte,reduceCtorEq]
              exact ⟨((IntKind.i64.wrap (v + (1:Int))),(setI w1 v (api_Outcome.mk ((ix l v).Candidate) y1 y2 y3 reason))),(Option.some.inj H1).symm,imp_au⟩
            case hxresult_Compute_j2 =>
              refine lok_rt E0 (⟨59,mkS [(2,.x (.one (.ptr 102 0))),(7,.x (.one (.vw 123))),(8,.x (.one (.p (pi v)))),(9,.x (.one (.ptr 109 0))),(10,.x (.one (.p (pi y1)))),(11,.x (.one (.p (pi y2)))),(12,.x (.one (.p (pi y3)))),(14,.x (.one (.p (pi (0:Int))))),(24,.x (.one (.p (.sl 3 (List.map enc_api_Standing l))))),(25,.x (.one (.p (pi (l.length:Int))))),(26,.x (.one (.p (pi v)))),(46,.x (.one (.p (.val (.bool (y1 == (2:Int)))))))],mkH [(102,.var [.p (.sl 3 (List.map enc_api_Unit a.Units)),.p (.sl 1 (List.map encI a.Bounds)),.p (pi a.Max)]),(109,.var [.p (pi ((ix l v).Candidate)),.p (.sl 3 (List.map enc_api_UnitMark ((ix l v).Units))),.p (pi ((ix l v).Special))]),(123,.arr 5 (List.map enc_api_Outcome w1))]⟩) ?_
              refine lok_c (y1 == (2:Int)) ?_ ?_
              · intro b_4
                replace H1:=cpos H1 b_4
                refine lok_rl E0 (⟨59,mkS [(2,.x (.one (.ptr 102 0))),(7,.x (.one (.vw 123))),(8,.x (.one (.p (pi v)))),(9,.x (.one (.ptr 109 0))),(10,.x (.one (.p (pi y1)))),(11,.x (.one (.p (pi y2)))),(12,.x (.one (.p (pi y3)))),(14,.x (.one (.p (pi (2:Int))))),(24,.x (.one (.p (.sl 3 (List.map enc_api_Standing l))))),(25,.x (.one (.p (pi (l.length:Int))))),(26,.x (.one (.p (pi v))))],mkH [(102,.var [.p (.sl 3 (List.map enc_api_Unit a.Units)),.p (.sl 1 (List.map encI a.Bounds)),.p (pi a.Max)]),(109,.var [.p (pi ((ix l v).Candidate)),.p (.sl 3 (List.map enc_api_UnitMark ((ix l v).Units))),.p (pi ((ix l v).Special))]),(123,.arr 5 (List.map enc_api_Outcome w1))]⟩) ?_
                try simp only [thenL,blockL,↓reduceIte,reduceCtorEq]
                exact ⟨(2:Int),H1,imp_au⟩
              · intro b_4
                replace H1:=cneg H1 b_4
                refine lok_skip ?_
                try simp only [thenL,blockL,↓reduceIte,reduceCtorEq]
                exact ⟨(0:Int),H1,imp_au⟩
        · intro b_7
          replace H1:=cneg H1 b_7
          refine lok_exit ?_
          try simp only [thenL,blockL,↓reduceIte,reduceCtorEq]
          have e_1:=k_1 _ (Option.some.inj H1).symm
          subst e_1
          try dsimp only at H0
          try simp only [thenL,blockL,↓reduceIte,reduceCtorEq]
          exact ⟨w1,H0,imp_au⟩
theorem ok_result_Count (l : List api_Outcome) (kind:Int) (r_:Int) (H0 : result_Count l kind = some r_) : CallOK Try.prog 33 [.one (.p (.sl 5 (List.map enc_api_Outcome l))),.one (.p (pi kind))] [] [.one (.p (pi r_))] []:=by
  refine callOK (n:=22) (rs:=[.tmp 4]) (nb:=0) (V:=[]) Try.func33 rfl (by kernel_rfl) rfl rfl rfl rfl (Nat.le_of_ble_eq_true rfl) (by decide) ?_
  unfold result_Count at H0
  refine lok_rt E0 (⟨22,mkS [(0,.x (.one (.p (.sl 5 (List.map enc_api_Outcome l))))),(1,.x (.one (.p (pi kind))))],mkH []⟩) ?_
  refine lok_rt E0 (⟨22,mkS [(0,.x (.one (.p (.sl 5 (List.map enc_api_Outcome l))))),(1,.x (.one (.p (pi kind)))),(5,.x (.one (.p (pi (0:Int)))))],mkH []⟩) ?_
  refine lok_join (fun x_ : Int => result_Count_j1 x_ = some r_) (fun x_ => ⟨22,mkS [(5,.x (.one (.p (pi x_))))],mkH []⟩) ?hyresult_Count_j1 ?hxresult_Count_j1
  case hyresult_Count_j1 =>
    rintro count H0
    try dsimp only at H0 ⊢
    unfold result_Count_j1 at H0
    refine lok_rt E0 (⟨22,mkS [(4,.x (.one (.p (pi count))))],mkH []⟩) ?_
    refine lok_ret ?_
    obtain rfl:=Option.some.inj H0
    try simp only [thenL,blockL]
    exact fin_au _ (.inr rfl) [] (⟨22,mkS [(4,.x (.one (.p (pi count))))],mkH []⟩) rfl rfl imp_au
  case hxresult_Count_j1 =>
    refine lok_rt E0 (⟨22,mkS [(1,.x (.one (.p (pi kind)))),(5,.x (.one (.p (pi (0:Int))))),(8,.x (.one (.p (.sl 5 (List.map enc_api_Outcome l))))),(9,.x (.one (.p (pi (l.length:Int))))),(10,.x (.one (.p (pi (0:Int)))))],mkH []⟩) ?_
    refine lok_block ?_
    replace H0:=bind_some H0
    obtain ⟨v_0,hv_0,H0⟩:=H0
    refine lok_iter (fun x_ => ⟨22,mkS [(1,.x (.one (.p (pi kind)))),(5,.x (.one (.p (pi x_.1)))),(8,.x (.one (.p (.sl 5 (List.map enc_api_Outcome l))))),(9,.x (.one (.p (pi (l.length:Int))))),(10,.x (.one (.p (pi x_.2))))],mkH []⟩) hv_0 imp_au ?_
    · rintro ⟨count1,v⟩ o_1 H1 k_1
      unfold result_Count_l3 at H1
      try dsimp only at H1 ⊢
      refine lok_rt E0 (⟨22,mkS [(1,.x (.one (.p (pi kind)))),(5,.x (.one (.p (pi count1)))),(8,.x (.one (.p (.sl 5 (List.map enc_api_Outcome l))))),(9,.x (.one (.p (pi (l.length:Int))))),(10,.x (.one (.p (pi v)))),(11,.x (.one (.p (.val (.bool (decide (v < (l.length:Int))))))))],mkH []⟩) ?_
      refine lok_seq ?_
      refine lok_c (decide (v < (l.length:Int))) ?_ ?_
      · intro b_3
        replace H1:=cpos H1 b_3
        refine lok_skip ?_
        try simp only [thenL,blockL,↓reduceIte,reduceCtorEq]
        refine lok_join (fun x_ : Int => result_Count_j2 v x_ = some o_1) (fun x_ => ⟨22,mkS [(1,.x (.one (.p (pi kind)))),(5,.x (.one (.p (pi x_)))),(8,.x (.one (.p (.sl 5 (List.map enc_api_Outcome l))))),(9,.x (.one (.p (pi (l.length:Int))))),(10,.x (.one (.p (pi v))))],mkH []⟩) ?hyresult_Count_j2 ?hxresult_Count_j2
        case hyresult_Count_j2 =>
          rintro count3 H1
          try dsimp only at H1 ⊢
          unfold result_Count_j2 at H1
          refine lok_rl E0 (⟨22,mkS [(1,.x (.one (.p (pi kind)))),(5,.x (.one (.p (pi count3)))),(8,.x (.one (.p (.sl 5 (List.map enc_api_Outcome l))))),(9,.x (.one (.p (pi (l.length:Int))))),(10,.x (.one (.p (pi (IntKind.i64.wrap (v + (1:Int)))))))],mkH []⟩) ?_
          try simp only [thenL,blockL,↓reduceIte,reduceCtorEq]
          exact ⟨(count3,(IntKind.i64.wrap (v + (1:Int)))),(Option.some.inj H1).symm,imp_au⟩
        case hxresult_Count_j2 =>
          refine lok_block ?_
          replace H1:=req_some H1
          obtain ⟨q_2,H1⟩:=H1
          refine lok_rt E0 (⟨22,mkS [(1,.x (.one (.p (pi kind)))),(5,.x (.one (.p (pi count1)))),(7,.x (.one (.ptr 107 0))),(8,.x (.one (.p (.sl 5 (List.map enc_api_Outcome l))))),(9,.x (.one (.p (pi (l.length:Int))))),(10,.x (.one (.p (pi v))))],mkH [(107,.var [.p (pi ((ix l v).Candidate)),.p (pi ((ix l v).Kind)),.p (pi ((ix l v).Grade)),.p (pi ((ix l v).Total)),.p (pi ((ix l v).Reason))])]⟩) ?_
          refine lok_rt E0 (⟨22,mkS [(1,.x (.one (.p (pi kind)))),(5,.x (.one (.p (pi count1)))),(8,.x (.one (.p (.sl 5 (List.map enc_api_Outcome l))))),(9,.x (.one (.p (pi (l.length:Int))))),(10,.x (.one (.p (pi v)))),(17,.x (.one (.p (.val (.bool ((ix l v).Kind == kind))))))],mkH []⟩) ?_
          refine lok_c ((ix l v).Kind == kind) ?_ ?_
          · intro b_1
            replace H1:=cpos H1 b_1
            refine lok_rl E0 (⟨22,mkS [(1,.x (.one (.p (pi kind)))),(5,.x (.one (.p (pi (IntKind.i64.wrap (count1 + (1:Int))))))),(8,.x (.one (.p (.sl 5 (List.map enc_api_Outcome l))))),(9,.x (.one (.p (pi (l.length:Int))))),(10,.x (.one (.p (pi v))))],mkH []⟩) ?_
            try simp only [thenL,blockL,↓reduceIte,reduceCtorEq]
            exact ⟨(IntKind.i64.wrap (count1 + (1:Int))),H1,imp_au⟩
          · intro b_1
            replace H1:=cneg H1 b_1
            refine lok_skip ?_
            try simp only [thenL,blockL,↓reduceIte,reduceCtorEq]
            exact ⟨count1,H1,imp_au⟩
      · intro b_3
        replace H1:=cneg H1 b_3
        refine lok_exit ?_
        try simp only [thenL,blockL,↓reduceIte,reduceCtorEq]
        have e_1:=k_1 _ (Option.some.inj H1).symm
        subst e_1
        try dsimp only at H0
        try simp only [thenL,blockL,↓reduceIte,reduceCtorEq]
        exact ⟨count1,H0,imp_au⟩
theorem ok_result_pending_f1 (m : api_UnitMark) (r_ : Bool) (H0 : result_pending_f1 m = some r_) : CallOK Try.prog 96 [.agg [.p (pi m.Kind),.p (pi m.Value.Num),.p (pi m.Value.Den)]] [] [.one (.p (.val (.bool r_)))] []:=by
  refine callOK (n:=6) (rs:=[.tmp 2]) (nb:=0) (V:=[]) Try.func96 rfl (by kernel_rfl) rfl rfl rfl rfl (Nat.le_of_ble_eq_true rfl) (by decide) ?_
  unfold result_pending_f1 at H0
  refine lok_rt E0 (⟨6,mkS [(1,.x (.one (.ptr 101 0)))],mkH [(101,.var [.p (pi m.Kind),.p (pi m.Value.Num),.p (pi m.Value.Den)])]⟩) ?_
  refine lok_rt E0 (⟨6,mkS [(2,.x (.one (.p (.val (.bool (m.Kind == (3:Int)))))))],mkH []⟩) ?_
  refine lok_ret ?_
  obtain rfl:=Option.some.inj H0
  try simp only [thenL,blockL]
  exact fin_au _ (.inr rfl) [] (⟨6,mkS [(2,.x (.one (.p (.val (.bool (m.Kind == (3:Int)))))))],mkH []⟩) rfl rfl imp_au
theorem ok_slices_IndexFunc_awardingbodyapiUnitMarkawardingbodyapiUnitMark_result_pending_f1 (s : List api_UnitMark) (r_:Int) (H0 : slices_IndexFunc_awardingbodyapiUnitMarkawardingbodyapiUnitMark_result_pending_f1 s = some r_) : CallOK Try.prog 99 [.one (.p (.sl 3 (List.map enc_api_UnitMark s))),.one (.fn 96 [])] [] [.one (.p (pi r_))] []:=by
  refine callOK (n:=19) (rs:=[.tmp 4]) (nb:=0) (V:=[]) Try.func99 rfl (by kernel_rfl) rfl rfl rfl rfl (Nat.le_of_ble_eq_true rfl) (by decide) ?_
  unfold slices_IndexFunc_awardingbodyapiUnitMarkawardingbodyapiUnitMark_result_pending_f1 at H0
  refine lok_rt E0 (⟨19,mkS [(0,.x (.one (.p (.sl 3 (List.map enc_api_UnitMark s))))),(1,.x (.one (.fn 96 [])))],mkH []⟩) ?_
  refine lok_join (fun x_ : Unit => slices_IndexFunc_awardingbodyapiUnitMarkawardingbodyapiUnitMark_result_pending_f1_j1 = some r_) (fun x_ => ⟨19,mkS [],mkH []⟩) ?hyslices_IndexFunc_awardingbodyapiUnitMarkawardingbodyapiUnitMark_result_pending_f1_j1 ?hxslices_IndexFunc_awardingbodyapiUnitMarkawardingbodyapiUnitMark_result_pending_f1_j1
  case hyslices_IndexFunc_awardingbodyapiUnitMarkawardingbodyapiUnitMark_result_pending_f1_j1 =>
    rintro _ H0
    try dsimp only at H0 ⊢
    unfold slices_IndexFunc_awardingbodyapiUnitMarkawardingbodyapiUnitMark_result_pending_f1_j1 at H0
    refine lok_rt E0 (⟨19,mkS [(4,.x (.one (.p (pi (-1:Int)))))],mkH []⟩) ?_
    refine lok_ret ?_
    obtain rfl:=Option.some.inj H0
    try simp only [thenL,blockL]
    exact fin_au _ (.inr rfl) [] (⟨19,mkS [(4,.x (.one (.p (pi (-1:Int)))))],mkH []⟩) rfl rfl imp_au
  case hxslices_IndexFunc_awardingbodyapiUnitMarkawardingbodyapiUnitMark_result_pending_f1_j1 =>
    refine lok_rt E0 (⟨19,mkS [(0,.x (.one (.p (.sl 3 (List.map enc_api_UnitMark s))))),(1,.x (.one (.fn 96 []))),(7,.x (.one (.p (pi (s.length:Int))))),(8,.x (.one (.p (pi (0:Int)))))],mkH []⟩) ?_
    refine lok_block ?_
    replace H0:=bind_some H0
    obtain ⟨v_0,hv_0,H0⟩:=H0
    refine lok_iter (fun x_ => ⟨19,mkS [(0,.x (.one (.p (.sl 3 (List.map enc_api_UnitMark s))))),(1,.x (.one (.fn 96 []))),(7,.x (.one (.p (pi (s.length:Int))))),(8,.x (.one (.p (pi x_))))],mkH []⟩) hv_0 imp_au ?_
    · rintro v o_1 H1 k_1
      unfold slices_IndexFunc_awardingbodyapiUnitMarkawardingbodyapiUnitMark_result_pending_f1_l2 at H1
      try dsimp only at H1 ⊢
      refine lok_rt E0 (⟨19,mkS [(0,.x (.one (.p (.sl 3 (List.map enc_api_UnitMark s))))),(1,.x (.one (.fn 96 []))),(7,.x (.one (.p (pi (s.length:Int))))),(8,.x (.one (.p (pi v)))),(9,.x (.one (.p (.val (.bool (decide (v < (s.length:Int))))))))],mkH []⟩) ?_
      refine lok_seq ?_
      refine lok_c (decide (v < (s.length:Int))) ?_ ?_
      · intro b_4
        replace H1:=cpos H1 b_4
        refine lok_skip ?_
        try simp only [thenL,blockL,↓reduceIte,reduceCtorEq]
        refine lok_seq ?_
        refine lok_block ?_
        refine lok_rt E0 (⟨19,mkS [(0,.x (.one (.p (.sl 3 (List.map enc_api_UnitMark s))))),(1,.x (.one (.fn 96 []))),(5,.x (.one (.p (pi v)))),(7,.x (.one (.p (pi (s.length:Int))))),(8,.x (.one (.p (pi v))))],mkH []⟩) ?_
        replace H1:=req_some H1
        obtain ⟨q_3,H1⟩:=H1
        replace H1:=bind_some H1
        obtain ⟨y,h_1,H1⟩:=H1
        refine lok_rt (Env.of E0 [⟨some 16,96,[.agg [.p (pi ((ix s v).Kind)),.p (pi (((ix s v).Value).Num)),.p (pi (((ix s v).Value).Den))]],[],[.one (.p (.val (.bool y)))],[],True,fun _ => ok_result_pending_f1 (api_UnitMark.mk ((ix s v).Kind) ((ix s v).Value)) y h_1,[]⟩]) (⟨19,mkS [(0,.x (.one (.p (.sl 3 (List.map enc_api_UnitMark s))))),(1,.x (.one (.fn 96 []))),(5,.x (.one (.p (pi v)))),(7,.x (.one (.p (pi (s.length:Int))))),(8,.x (.one (.p (pi v)))),(16,.x (.one (.p (.val (.bool y)))))],mkH []⟩) ?_
        refine lok_c y ?_ ?_
        · intro b_2
          replace H1:=cpos H1 b_2
          refine lok_rt E0 (⟨19,mkS [(4,.x (.one (.p (pi v))))],mkH []⟩) ?_
          refine lok_ret ?_
          try simp only [thenL,blockL,↓reduceIte,reduceCtorEq]
          have e_1:=k_1 _ (Option.some.inj H1).symm
          subst e_1
          try dsimp only at H0
          obtain rfl:=Option.some.inj H0
          try simp only [thenL,blockL]
          exact fin_au _ (.inr rfl) [] (⟨19,mkS [(4,.x (.one (.p (pi v))))],mkH []⟩) rfl rfl imp_au
        · intro b_2
          replace H1:=cneg H1 b_2
          refine lok_skip ?_
          try simp only [thenL,blockL,↓reduceIte,reduceCtorEq]
          refine lok_rl E0 (⟨19,mkS [(0,.x (.one (.p (.sl 3 (List.map enc_api_UnitMark s))))),(1,.x (.one (.fn 96 []))),(7,.x (.one (.p (pi (s.length:Int))))),(8,.x (.one (.p (pi (IntKind.i64.wrap (v + (1:Int)))))))],mkH []⟩) ?_
          try simp only [thenL,blockL,↓reduceIte,reduceCtorEq]
          exact ⟨(IntKind.i64.wrap (v + (1:Int))),(Option.some.inj H1).symm,imp_au⟩
      · intro b_4
        replace H1:=cneg H1 b_4
        refine lok_exit ?_
        try simp only [thenL,blockL,↓reduceIte,reduceCtorEq]
        have e_1:=k_1 _ (Option.some.inj H1).symm
        subst e_1
        try dsimp only at H0
        try simp only [thenL,blockL,↓reduceIte,reduceCtorEq]
        exact ⟨(),H0,imp_au⟩
theorem ok_slices_ContainsFunc_awardingbodyapiUnitMarkawardingbodyapiUnitMark_result_pending_f1 (s : List api_UnitMark) (r_ : Bool) (H0 : slices_ContainsFunc_awardingbodyapiUnitMarkawardingbodyapiUnitMark_result_pending_f1 s = some r_) : CallOK Try.prog 72 [.one (.p (.sl 3 (List.map enc_api_UnitMark s))),.one (.fn 96 [])] [] [.one (.p (.val (.bool r_)))] []:=by
  refine callOK (n:=9) (rs:=[.tmp 4]) (nb:=0) (V:=[]) Try.func72 rfl (by kernel_rfl) rfl rfl rfl rfl (Nat.le_of_ble_eq_true rfl) (by decide) ?_
  unfold slices_ContainsFunc_awardingbodyapiUnitMarkawardingbodyapiUnitMark_result_pending_f1 at H0
  refine lok_rt E0 (⟨9,mkS [(0,.x (.one (.p (.sl 3 (List.map enc_api_UnitMark s))))),(1,.x (.one (.fn 96 [])))],mkH []⟩) ?_
  replace H0:=bind_some H0
  obtain ⟨y,h_0,H0⟩:=H0
  refine lok_rt (Env.of E0 [⟨some 7,99,[.one (.p (.sl 3 (List.map enc_api_UnitMark s))),.one (.fn 96 [])],[],[.one (.p (pi y))],[],True,fun _ => ok_slices_IndexFunc_awardingbodyapiUnitMarkawardingbodyapiUnitMark_result_pending_f1 s y h_0,[]⟩]) (⟨9,mkS [(4,.x (.one (.p (.val (.bool (decide ((0:Int) ≤ y)))))))],mkH []⟩) ?_
  refine lok_ret ?_
  obtain rfl:=Option.some.inj H0
  try simp only [thenL,blockL]
  exact fin_au _ (.inr rfl) [] (⟨9,mkS [(4,.x (.one (.p (.val (.bool (decide ((0:Int) ≤ y)))))))],mkH []⟩) rfl rfl imp_au
theorem ok_result_pending (x : api_Standing) (r_ : Bool) (H0 : result_pending x = some r_) : CallOK Try.prog 65 [.agg [.p (pi x.Candidate),.p (.sl 3 (List.map enc_api_UnitMark x.Units)),.p (pi x.Special)]] [] [.one (.p (.val (.bool r_)))] []:=by
  refine callOK (n:=6) (rs:=[.tmp 2]) (nb:=0) (V:=[]) Try.func65 rfl (by kernel_rfl) rfl rfl rfl rfl (Nat.le_of_ble_eq_true rfl) (by decide) ?_
  unfold result_pending at H0
  refine lok_rt E0 (⟨6,mkS [(1,.x (.one (.ptr 101 0)))],mkH [(101,.var [.p (pi x.Candidate),.p (.sl 3 (List.map enc_api_UnitMark x.Units)),.p (pi x.Special)])]⟩) ?_
  replace H0:=bind_some H0
  obtain ⟨y,h_0,H0⟩:=H0
  refine lok_rt (Env.of E0 [⟨some 5,72,[.one (.p (.sl 3 (List.map enc_api_UnitMark x.Units))),.one (.fn 96 [])],[],[.one (.p (.val (.bool y)))],[],True,fun _ => ok_slices_ContainsFunc_awardingbodyapiUnitMarkawardingbodyapiUnitMark_result_pending_f1 x.Units y h_0,[]⟩]) (⟨6,mkS [(2,.x (.one (.p (.val (.bool y)))))],mkH []⟩) ?_
  refine lok_ret ?_
  obtain rfl:=Option.some.inj H0
  try simp only [thenL,blockL]
  exact fin_au _ (.inr rfl) [] (⟨6,mkS [(2,.x (.one (.p (.val (.bool y)))))],mkH []⟩) rfl rfl imp_au
theorem ok_slices_Equal_awardingbodyapiUnitMarkawardingbodyapiUnitMark (s1 : List api_UnitMark) (s2 : List api_UnitMark) (r_ : Bool) (H0 : slices_Equal_awardingbodyapiUnitMarkawardingbodyapiUnitMark s1 s2 = some r_) : CallOK Try.prog 66 [.one (.p (.sl 3 (List.map enc_api_UnitMark s1))),.one (.p (.sl 3 (List.map enc_api_UnitMark s2)))] [] [.one (.p (.val (.bool r_)))] []:=by
  refine callOK (n:=26) (rs:=[.tmp 4]) (nb:=0) (V:=[]) Try.func66 rfl (by kernel_rfl) rfl rfl rfl rfl (Nat.le_of_ble_eq_true rfl) (by decide) ?_
  unfold slices_Equal_awardingbodyapiUnitMarkawardingbodyapiUnitMark at H0
  refine lok_rt E0 (⟨26,mkS [(0,.x (.one (.p (.sl 3 (List.map enc_api_UnitMark s1))))),(1,.x (.one (.p (.sl 3 (List.map enc_api_UnitMark s2)))))],mkH []⟩) ?_
  refine lok_seq ?_
  refine lok_rt E0 (⟨26,mkS [(0,.x (.one (.p (.sl 3 (List.map enc_api_UnitMark s1))))),(1,.x (.one (.p (.sl 3 (List.map enc_api_UnitMark s2))))),(10,.x (.one (.p (.val (.bool ((s1.length:Int) != (s2.length:Int)))))))],mkH []⟩) ?_
  refine lok_c ((s1.length:Int) != (s2.length:Int)) ?_ ?_
  · intro b_5
    replace H0:=cpos H0 b_5
    refine lok_rt E0 (⟨26,mkS [(4,.x (.one (.p (.val (.bool false)))))],mkH []⟩) ?_
    refine lok_ret ?_
    obtain rfl:=Option.some.inj H0
    try simp only [thenL,blockL]
    exact fin_au _ (.inr rfl) [] (⟨26,mkS [(4,.x (.one (.p (.val (.bool false)))))],mkH []⟩) rfl rfl imp_au
  · intro b_5
    replace H0:=cneg H0 b_5
    refine lok_skip ?_
    try simp only [thenL,blockL,↓reduceIte,reduceCtorEq]
    refine lok_join (fun x_ : Unit => slices_Equal_awardingbodyapiUnitMarkawardingbodyapiUnitMark_j1 = some r_) (fun x_ => ⟨26,mkS [],mkH []⟩) ?hyslices_Equal_awardingbodyapiUnitMarkawardingbodyapiUnitMark_j1 ?hxslices_Equal_awardingbodyapiUnitMarkawardingbodyapiUnitMark_j1
    case hyslices_Equal_awardingbodyapiUnitMarkawardingbodyapiUnitMark_j1 =>
      rintro _ H0
      try dsimp only at H0 ⊢
      unfold slices_Equal_awardingbodyapiUnitMarkawardingbodyapiUnitMark_j1 at H0
      refine lok_rt E0 (⟨26,mkS [(4,.x (.one (.p (.val (.bool true)))))],mkH []⟩) ?_
      refine lok_ret ?_
      obtain rfl:=Option.some.inj H0
      try simp only [thenL,blockL]
      exact fin_au _ (.inr rfl) [] (⟨26,mkS [(4,.x (.one (.p (.val (.bool true)))))],mkH []⟩) rfl rfl imp_au
    case hxslices_Equal_awardingbodyapiUnitMarkawardingbodyapiUnitMark_j1 =>
      refine lok_rt E0 (⟨26,mkS [(0,.x (.one (.p (.sl 3 (List.map enc_api_UnitMark s1))))),(1,.x (.one (.p (.sl 3 (List.map enc_api_UnitMark s2))))),(12,.x (.one (.p (pi (s1.length:Int))))),(13,.x (.one (.p (pi (0:Int)))))],mkH []⟩) ?_
      refine lok_block ?_
      replace H0:=bind_some H0
      obtain ⟨v_0,hv_0,H0⟩:=H0
      refine lok_iter (fun x_ => ⟨26,mkS [(0,.x (.one (.p (.sl 3 (List.map enc_api_UnitMark s1))))),(1,.x (.one (.p (.sl 3 (List.map enc_api_UnitMark s2))))),(12,.x (.one (.p (pi (s1.length:Int))))),(13,.x (.one (.p (pi x_))))],mkH []⟩) hv_0 imp_au ?_
      · rintro v o_1 H1 k_1
        unfold slices_Equal_awardingbodyapiUnitMarkawardingbodyapiUnitMark_l2 at H1
        try dsimp only at H1 ⊢
        refine lok_rt E0 (⟨26,mkS [(0,.x (.one (.p (.sl 3 (List.map enc_api_UnitMark s1))))),(1,.x (.one (.p (.sl 3 (List.map enc_api_UnitMark s2))))),(12,.x (.one (.p (pi (s1.length:Int))))),(13,.x (.one (.p (pi v)))),(14,.x (.one (.p (.val (.bool (decide (v < (s1.length:Int))))))))],mkH []⟩) ?_
        refine lok_seq ?_
        refine lok_c (decide (v < (s1.length:Int))) ?_ ?_
        · intro b_4
          replace H1:=cpos H1 b_4
          refine lok_skip ?_
          try simp only [thenL,blockL,↓reduceIte,reduceCtorEq]
          refine lok_seq ?_
          refine lok_block ?_
          refine lok_rt E0 (⟨26,mkS [(0,.x (.one (.p (.sl 3 (List.map enc_api_UnitMark s1))))),(1,.x (.one (.p (.sl 3 (List.map enc_api_UnitMark s2))))),(5,.x (.one (.p (pi v)))),(12,.x (.one (.p (pi (s1.length:Int))))),(13,.x (.one (.p (pi v))))],mkH []⟩) ?_
          replace H1:=req_some H1
          obtain ⟨⟨q_2,q_3⟩,H1⟩:=H1
          refine lok_dt E0 8 (⟨26,mkS [(0,.x (.one (.p (.sl 3 (List.map enc_api_UnitMark s1))))),(1,.x (.one (.p (.sl 3 (List.map enc_api_UnitMark s2))))),(12,.x (.one (.p (pi (s1.length:Int))))),(13,.x (.one (.p (pi v)))),(24,.x (.one (.p (.val (.bool (!(((ix s1 v).Kind == (ix s2 v).Kind) && ((((ix s1 v).Value).Num == ((ix s2 v).Value).Num) && (((ix s1 v).Value).Den == ((ix s2 v).Value).Den)))))))))],mkH []⟩) (by kernel_rfl) (by kernel_rfl) ?_
          refine lok_c (!(((ix s1 v).Kind == (ix s2 v).Kind) && ((((ix s1 v).Value).Num == ((ix s2 v).Value).Num) && (((ix s1 v).Value).Den == ((ix s2 v).Value).Den)))) ?_ ?_
          · intro b_1
            replace H1:=cpos H1 b_1
            refine lok_rt E0 (⟨26,mkS [(4,.x (.one (.p (.val (.bool false)))))],mkH []⟩) ?_
            refine lok_ret ?_
            try simp only [thenL,blockL,↓reduceIte,reduceCtorEq]
            have e_1:=k_1 _ (Option.some.inj H1).symm
            subst e_1
            try dsimp only at H0
            obtain rfl:=Option.some.inj H0
            try simp only [thenL,blockL]
            exact fin_au _ (.inr rfl) [] (⟨26,mkS [(4,.x (.one (.p (.val (.bool false)))))],mkH []⟩) rfl rfl imp_au
          · intro b_1
            replace H1:=cneg H1 b_1
            refine lok_skip ?_
            try simp only [thenL,blockL,↓reduceIte,reduceCtorEq]
            refine lok_rl E0 (⟨26,mkS [(0,.x (.one (.p (.sl 3 (List.map enc_api_UnitMark s1))))),(1,.x (.one (.p (.sl 3 (List.map enc_api_UnitMark s2))))),(12,.x (.one (.p (pi (s1.length:Int))))),(13,.x (.one (.p (pi (IntKind.i64.wrap (v + (1:Int)))))))],mkH []⟩) ?_
            try simp only [thenL,blockL,↓reduceIte,reduceCtorEq]
            exact ⟨(IntKind.i64.wrap (v + (1:Int))),(Option.some.inj H1).symm,imp_au⟩
        · intro b_4
          replace H1:=cneg H1 b_4
          refine lok_exit ?_
          try simp only [thenL,blockL,↓reduceIte,reduceCtorEq]
          have e_1:=k_1 _ (Option.some.inj H1).symm
          subst e_1
          try dsimp only at H0
          try simp only [thenL,blockL,↓reduceIte,reduceCtorEq]
          exact ⟨(),H0,imp_au⟩
theorem ok_slices_Equal_awardingbodyapiUnitawardingbodyapiUnit (s1 : List api_Unit) (s2 : List api_Unit) (r_ : Bool) (H0 : slices_Equal_awardingbodyapiUnitawardingbodyapiUnit s1 s2 = some r_) : CallOK Try.prog 97 [.one (.p (.sl 3 (List.map enc_api_Unit s1))),.one (.p (.sl 3 (List.map enc_api_Unit s2)))] [] [.one (.p (.val (.bool r_)))] []:=by
  refine callOK (n:=26) (rs:=[.tmp 4]) (nb:=0) (V:=[]) Try.func97 rfl (by kernel_rfl) rfl rfl rfl rfl (Nat.le_of_ble_eq_true rfl) (by decide) ?_
  unfold slices_Equal_awardingbodyapiUnitawardingbodyapiUnit at H0
  refine lok_rt E0 (⟨26,mkS [(0,.x (.one (.p (.sl 3 (List.map enc_api_Unit s1))))),(1,.x (.one (.p (.sl 3 (List.map enc_api_Unit s2)))))],mkH []⟩) ?_
  refine lok_seq ?_
  refine lok_rt E0 (⟨26,mkS [(0,.x (.one (.p (.sl 3 (List.map enc_api_Unit s1))))),(1,.x (.one (.p (.sl 3 (List.map enc_api_Unit s2))))),(10,.x (.one (.p (.val (.bool ((s1.length:Int) != (s2.length:Int)))))))],mkH []⟩) ?_
  refine lok_c ((s1.length:Int) != (s2.length:Int)) ?_ ?_
  · intro b_5
    replace H0:=cpos H0 b_5
    refine lok_rt E0 (⟨26,mkS [(4,.x (.one (.p (.val (.bool false)))))],mkH []⟩) ?_
    refine lok_ret ?_
    obtain rfl:=Option.some.inj H0
    try simp only [thenL,blockL]
    exact fin_au _ (.inr rfl) [] (⟨26,mkS [(4,.x (.one (.p (.val (.bool false)))))],mkH []⟩) rfl rfl imp_au
  · intro b_5
    replace H0:=cneg H0 b_5
    refine lok_skip ?_
    try simp only [thenL,blockL,↓reduceIte,reduceCtorEq]
    refine lok_join (fun x_ : Unit => slices_Equal_awardingbodyapiUnitawardingbodyapiUnit_j1 = some r_) (fun x_ => ⟨26,mkS [],mkH []⟩) ?hyslices_Equal_awardingbodyapiUnitawardingbodyapiUnit_j1 ?hxslices_Equal_awardingbodyapiUnitawardingbodyapiUnit_j1
    case hyslices_Equal_awardingbodyapiUnitawardingbodyapiUnit_j1 =>
      rintro _ H0
      try dsimp only at H0 ⊢
      unfold slices_Equal_awardingbodyapiUnitawardingbodyapiUnit_j1 at H0
      refine lok_rt E0 (⟨26,mkS [(4,.x (.one (.p (.val (.bool true)))))],mkH []⟩) ?_
      refine lok_ret ?_
      obtain rfl:=Option.some.inj H0
      try simp only [thenL,blockL]
      exact fin_au _ (.inr rfl) [] (⟨26,mkS [(4,.x (.one (.p (.val (.bool true)))))],mkH []⟩) rfl rfl imp_au
    case hxslices_Equal_awardingbodyapiUnitawardingbodyapiUnit_j1 =>
      refine lok_rt E0 (⟨26,mkS [(0,.x (.one (.p (.sl 3 (List.map enc_api_Unit s1))))),(1,.x (.one (.p (.sl 3 (List.map enc_api_Unit s2))))),(12,.x (.one (.p (pi (s1.length:Int))))),(13,.x (.one (.p (pi (0:Int)))))],mkH []⟩) ?_
      refine lok_block ?_
      replace H0:=bind_some H0
      obtain ⟨v_0,hv_0,H0⟩:=H0
      refine lok_iter (fun x_ => ⟨26,mkS [(0,.x (.one (.p (.sl 3 (List.map enc_api_Unit s1))))),(1,.x (.one (.p (.sl 3 (List.map enc_api_Unit s2))))),(12,.x (.one (.p (pi (s1.length:Int))))),(13,.x (.one (.p (pi x_))))],mkH []⟩) hv_0 imp_au ?_
      · rintro v o_1 H1 k_1
        unfold slices_Equal_awardingbodyapiUnitawardingbodyapiUnit_l2 at H1
        try dsimp only at H1 ⊢
        refine lok_rt E0 (⟨26,mkS [(0,.x (.one (.p (.sl 3 (List.map enc_api_Unit s1))))),(1,.x (.one (.p (.sl 3 (List.map enc_api_Unit s2))))),(12,.x (.one (.p (pi (s1.length:Int))))),(13,.x (.one (.p (pi v)))),(14,.x (.one (.p (.val (.bool (decide (v < (s1.length:Int))))))))],mkH []⟩) ?_
        refine lok_seq ?_
        refine lok_c (decide (v < (s1.length:Int))) ?_ ?_
        · intro b_4
          replace H1:=cpos H1 b_4
          refine lok_skip ?_
          try simp only [thenL,blockL,↓reduceIte,reduceCtorEq]
          refine lok_seq ?_
          refine lok_block ?_
          refine lok_rt E0 (⟨26,mkS [(0,.x (.one (.p (.sl 3 (List.map enc_api_Unit s1))))),(1,.x (.one (.p (.sl 3 (List.map enc_api_Unit s2))))),(5,.x (.one (.p (pi v)))),(12,.x (.one (.p (pi (s1.length:Int))))),(13,.x (.one (.p (pi v))))],mkH []⟩) ?_
          replace H1:=req_some H1
          obtain ⟨⟨q_2,q_3⟩,H1⟩:=H1
          refine lok_dt E0 8 (⟨26,mkS [(0,.x (.one (.p (.sl 3 (List.map enc_api_Unit s1))))),(1,.x (.one (.p (.sl 3 (List.map enc_api_Unit s2))))),(12,.x (.one (.p (pi (s1.length:Int))))),(13,.x (.one (.p (pi v)))),(24,.x (.one (.p (.val (.bool (!(((ix s1 v).Paper == (ix s2 v).Paper) && (((ix s1 v).Weight == (ix s2 v).Weight) && ((ix s1 v).Max == (ix s2 v).Max)))))))))],mkH []⟩) (by kernel_rfl) (by kernel_rfl) ?_
          refine lok_c (!(((ix s1 v).Paper == (ix s2 v).Paper) && (((ix s1 v).Weight == (ix s2 v).Weight) && ((ix s1 v).Max == (ix s2 v).Max)))) ?_ ?_
          · intro b_1
            replace H1:=cpos H1 b_1
            refine lok_rt E0 (⟨26,mkS [(4,.x (.one (.p (.val (.bool false)))))],mkH []⟩) ?_
            refine lok_ret ?_
            try simp only [thenL,blockL,↓reduceIte,reduceCtorEq]
            have e_1:=k_1 _ (Option.some.inj H1).symm
            subst e_1
            try dsimp only at H0
            obtain rfl:=Option.some.inj H0
            try simp only [thenL,blockL]
            exact fin_au _ (.inr rfl) [] (⟨26,mkS [(4,.x (.one (.p (.val (.bool false)))))],mkH []⟩) rfl rfl imp_au
          · intro b_1
            replace H1:=cneg H1 b_1
            refine lok_skip ?_
            try simp only [thenL,blockL,↓reduceIte,reduceCtorEq]
            refine lok_rl E0 (⟨26,mkS [(0,.x (.one (.p (.sl 3 (List.map enc_api_Unit s1))))),(1,.x (.one (.p (.sl 3 (List.map enc_api_Unit s2))))),(12,.x (.one (.p (pi (s1.length:Int))))),(13,.x (.one (.p (pi (IntKind.i64.wrap (v + (1:Int)))))))],mkH []⟩) ?_
            try simp only [thenL,blockL,↓reduceIte,reduceCtorEq]
            exact ⟨(IntKind.i64.wrap (v + (1:Int))),(Option.some.inj H1).symm,imp_au⟩
        · intro b_4
          replace H1:=cneg H1 b_4
          refine lok_exit ?_
          try simp only [thenL,blockL,↓reduceIte,reduceCtorEq]
          have e_1:=k_1 _ (Option.some.inj H1).symm
          subst e_1
          try dsimp only at H0
          try simp only [thenL,blockL,↓reduceIte,reduceCtorEq]
          exact ⟨(),H0,imp_au⟩
theorem ok_slices_Equal_intint (s1 : List Int) (s2 : List Int) (r_ : Bool) (H0 : slices_Equal_intint s1 s2 = some r_) : CallOK Try.prog 98 [.one (.p (.sl 1 (List.map encI s1))),.one (.p (.sl 1 (List.map encI s2)))] [] [.one (.p (.val (.bool r_)))] []:=by
  refine callOK (n:=26) (rs:=[.tmp 4]) (nb:=0) (V:=[]) Try.func98 rfl (by kernel_rfl) rfl rfl rfl rfl (Nat.le_of_ble_eq_true rfl) (by decide) ?_
  unfold slices_Equal_intint at H0
  refine lok_rt E0 (⟨26,mkS [(0,.x (.one (.p (.sl 1 (List.map encI s1))))),(1,.x (.one (.p (.sl 1 (List.map encI s2)))))],mkH []⟩) ?_
  refine lok_seq ?_
  refine lok_rt E0 (⟨26,mkS [(0,.x (.one (.p (.sl 1 (List.map encI s1))))),(1,.x (.one (.p (.sl 1 (List.map encI s2))))),(10,.x (.one (.p (.val (.bool ((s1.length:Int) != (s2.length:Int)))))))],mkH []⟩) ?_
  refine lok_c ((s1.length:Int) != (s2.length:Int)) ?_ ?_
  · intro b_5
    replace H0:=cpos H0 b_5
    refine lok_rt E0 (⟨26,mkS [(4,.x (.one (.p (.val (.bool false)))))],mkH []⟩) ?_
    refine lok_ret ?_
    obtain rfl:=Option.some.inj H0
    try simp only [thenL,blockL]
    exact fin_au _ (.inr rfl) [] (⟨26,mkS [(4,.x (.one (.p (.val (.bool false)))))],mkH []⟩) rfl rfl imp_au
  · intro b_5
    replace H0:=cneg H0 b_5
    refine lok_skip ?_
    try simp only [thenL,blockL,↓reduceIte,reduceCtorEq]
    refine lok_join (fun x_ : Unit => slices_Equal_intint_j1 = some r_) (fun x_ => ⟨26,mkS [],mkH []⟩) ?hyslices_Equal_intint_j1 ?hxslices_Equal_intint_j1
    case hyslices_Equal_intint_j1 =>
      rintro _ H0
      try dsimp only at H0 ⊢
      unfold slices_Equal_intint_j1 at H0
      refine lok_rt E0 (⟨26,mkS [(4,.x (.one (.p (.val (.bool true)))))],mkH []⟩) ?_
      refine lok_ret ?_
      obtain rfl:=Option.some.inj H0
      try simp only [thenL,blockL]
      exact fin_au _ (.inr rfl) [] (⟨26,mkS [(4,.x (.one (.p (.val (.bool true)))))],mkH []⟩) rfl rfl imp_au
    case hxslices_Equal_intint_j1 =>
      refine lok_rt E0 (⟨26,mkS [(0,.x (.one (.p (.sl 1 (List.map encI s1))))),(1,.x (.one (.p (.sl 1 (List.map encI s2))))),(12,.x (.one (.p (pi (s1.length:Int))))),(13,.x (.one (.p (pi (0:Int)))))],mkH []⟩) ?_
      refine lok_block ?_
      replace H0:=bind_some H0
      obtain ⟨v_0,hv_0,H0⟩:=H0
      refine lok_iter (fun x_ => ⟨26,mkS [(0,.x (.one (.p (.sl 1 (List.map encI s1))))),(1,.x (.one (.p (.sl 1 (List.map encI s2))))),(12,.x (.one (.p (pi (s1.length:Int))))),(13,.x (.one (.p (pi x_))))],mkH []⟩) hv_0 imp_au ?_
      · rintro v o_1 H1 k_1
        unfold slices_Equal_intint_l2 at H1
        try dsimp only at H1 ⊢
        refine lok_rt E0 (⟨26,mkS [(0,.x (.one (.p (.sl 1 (List.map encI s1))))),(1,.x (.one (.p (.sl 1 (List.map encI s2))))),(12,.x (.one (.p (pi (s1.length:Int))))),(13,.x (.one (.p (pi v)))),(14,.x (.one (.p (.val (.bool (decide (v < (s1.length:Int))))))))],mkH []⟩) ?_
        refine lok_seq ?_
        refine lok_c (decide (v < (s1.length:Int))) ?_ ?_
        · intro b_4
          replace H1:=cpos H1 b_4
          refine lok_skip ?_
          try simp only [thenL,blockL,↓reduceIte,reduceCtorEq]
          refine lok_seq ?_
          refine lok_block ?_
          refine lok_rt E0 (⟨26,mkS [(0,.x (.one (.p (.sl 1 (List.map encI s1))))),(1,.x (.one (.p (.sl 1 (List.map encI s2))))),(5,.x (.one (.p (pi v)))),(12,.x (.one (.p (pi (s1.length:Int))))),(13,.x (.one (.p (pi v))))],mkH []⟩) ?_
          replace H1:=req_some H1
          obtain ⟨⟨q_2,q_3⟩,H1⟩:=H1
          refine lok_dt E0 8 (⟨26,mkS [(0,.x (.one (.p (.sl 1 (List.map encI s1))))),(1,.x (.one (.p (.sl 1 (List.map encI s2))))),(12,.x (.one (.p (pi (s1.length:Int))))),(13,.x (.one (.p (pi v)))),(24,.x (.one (.p (.val (.bool ((ix s1 v) != (ix s2 v)))))))],mkH []⟩) (by kernel_rfl) (by kernel_rfl) ?_
          refine lok_c ((ix s1 v) != (ix s2 v)) ?_ ?_
          · intro b_1
            replace H1:=cpos H1 b_1
            refine lok_rt E0 (⟨26,mkS [(4,.x (.one (.p (.val (.bool false)))))],mkH []⟩) ?_
            refine lok_ret ?_
            try simp only [thenL,blockL,↓reduceIte,reduceCtorEq]
            have e_1:=k_1 _ (Option.some.inj H1).symm
            subst e_1
            try dsimp only at H0
            obtain rfl:=Option.some.inj H0
            try simp only [thenL,blockL]
            exact fin_au _ (.inr rfl) [] (⟨26,mkS [(4,.x (.one (.p (.val (.bool false)))))],mkH []⟩) rfl rfl imp_au
          · intro b_1
            replace H1:=cneg H1 b_1
            refine lok_skip ?_
            try simp only [thenL,blockL,↓reduceIte,reduceCtorEq]
            refine lok_rl E0 (⟨26,mkS [(0,.x (.one (.p (.sl 1 (List.map encI s1))))),(1,.x (.one (.p (.sl 1 (List.map encI s2))))),(12,.x (.one (.p (pi (s1.length:Int))))),(13,.x (.one (.p (pi (IntKind.i64.wrap (v + (1:Int)))))))],mkH []⟩) ?_
            try simp only [thenL,blockL,↓reduceIte,reduceCtorEq]
            exact ⟨(IntKind.i64.wrap (v + (1:Int))),(Option.some.inj H1).symm,imp_au⟩
        · intro b_4
          replace H1:=cneg H1 b_4
          refine lok_exit ?_
          try simp only [thenL,blockL,↓reduceIte,reduceCtorEq]
          have e_1:=k_1 _ (Option.some.inj H1).symm
          subst e_1
          try dsimp only at H0
          try simp only [thenL,blockL,↓reduceIte,reduceCtorEq]
          exact ⟨(),H0,imp_au⟩
theorem ok_result_sameAward (a : api_Award) (b : api_Award) (r_ : Bool) (H0 : result_sameAward a b = some r_) : CallOK Try.prog 67 [.agg [.p (.sl 3 (List.map enc_api_Unit a.Units)),.p (.sl 1 (List.map encI a.Bounds)),.p (pi a.Max)],.agg [.p (.sl 3 (List.map enc_api_Unit b.Units)),.p (.sl 1 (List.map encI b.Bounds)),.p (pi b.Max)]] [] [.one (.p (.val (.bool r_)))] []:=by
  refine callOK (n:=24) (rs:=[.tmp 4]) (nb:=0) (V:=[]) Try.func67 rfl (by kernel_rfl) rfl rfl rfl rfl (Nat.le_of_ble_eq_true rfl) (by decide) ?_
  unfold result_sameAward at H0
  refine lok_rt E0 (⟨24,mkS [(2,.x (.one (.ptr 102 0))),(3,.x (.one (.ptr 103 0)))],mkH [(102,.var [.p (.sl 3 (List.map enc_api_Unit a.Units)),.p (.sl 1 (List.map encI a.Bounds)),.p (pi a.Max)]),(103,.var [.p (.sl 3 (List.map enc_api_Unit b.Units)),.p (.sl 1 (List.map encI b.Bounds)),.p (pi b.Max)])]⟩) ?_
  replace H0:=bind_some H0
  obtain ⟨y,h_0,H0⟩:=H0
  replace H0:=req_some H0
  obtain ⟨q_1,H0⟩:=H0
  refine lok_rt (Env.of E0 [⟨some 9,97,[.one (.p (.sl 3 (List.map enc_api_Unit a.Units))),.one (.p (.sl 3 (List.map enc_api_Unit b.Units)))],[],[.one (.p (.val (.bool y)))],[],True,fun _ => ok_slices_Equal_awardingbodyapiUnitawardingbodyapiUnit a.Units b.Units y h_0,[]⟩,
      ⟨some 15,98,[.one (.p (.sl 1 (List.map encI a.Bounds))),.one (.p (.sl 1 (List.map encI b.Bounds)))],[],[.one (.p (.val (.bool ((slices_Equal_intint a.Bounds b.Bounds).getD default))))],[],(slices_Equal_intint a.Bounds b.Bounds).isSome = true,fun h => ok_slices_Equal_intint a.Bounds b.Bounds _ (isSome_get h),[]⟩]) (⟨24,mkS [(4,.x (.one (.p (.val (.bool ((y && ((slices_Equal_intint a.Bounds b.Bounds).getD default)) && (a.Max == b.Max)))))))],mkH []⟩) ?_
  refine lok_ret ?_
  obtain rfl:=Option.some.inj H0
  try simp only [thenL,blockL]
  exact fin_au _ (.inr rfl) [] (⟨24,mkS [(4,.x (.one (.p (.val (.bool ((y && ((slices_Equal_intint a.Bounds b.Bounds).getD default)) && (a.Max == b.Max)))))))],mkH []⟩) rfl rfl imp_au
theorem ok_result_Reason (a : api_Award) (x : api_Standing) (b : api_Award) (y : api_Standing) (r_:Int) (H0 : result_Reason a x b y = some r_) : CallOK Try.prog 34 [.agg [.p (.sl 3 (List.map enc_api_Unit a.Units)),.p (.sl 1 (List.map encI a.Bounds)),.p (pi a.Max)],.agg [.p (pi x.Candidate),.p (.sl 3 (List.map enc_api_UnitMark x.Units)),.p (pi x.Special)],.agg [.p (.sl 3 (List.map enc_api_Unit b.Units)),.p (.sl 1 (List.map encI b.Bounds)),.p (pi b.Max)],.agg [.p (pi y.Candidate),.p (.sl 3 (List.map enc_api_UnitMark y.Units)),.p (pi y.Special)]] [] [.one (.p (pi r_))] []:=by
  refine callOK (n:=33) (rs:=[.tmp 8]) (nb:=0) (V:=[]) Try.func34 rfl (by kernel_rfl) rfl rfl rfl rfl (Nat.le_of_ble_eq_true rfl) (by decide) ?_
  unfold result_Reason at H0
  refine lok_rt E0 (⟨33,mkS [(4,.x (.one (.ptr 104 0))),(5,.x (.one (.ptr 105 0))),(6,.x (.one (.ptr 106 0))),(7,.x (.one (.ptr 107 0)))],mkH [(104,.var [.p (.sl 3 (List.map enc_api_Unit a.Units)),.p (.sl 1 (List.map encI a.Bounds)),.p (pi a.Max)]),(105,.var [.p (pi x.Candidate),.p (.sl 3 (List.map enc_api_UnitMark x.Units)),.p (pi x.Special)]),(106,.var [.p (.sl 3 (List.map enc_api_Unit b.Units)),.p (.sl 1 (List.map encI b.Bounds)),.p (pi b.Max)]),(107,.var [.p (pi y.Candidate),.p (.sl 3 (List.map enc_api_UnitMark y.Units)),.p (pi y.Special)])]⟩) ?_
  refine lok_seq ?_
  refine lok_block ?_
  replace H0:=bind_some H0
  obtain ⟨y1,h_0,H0⟩:=H0
  replace H0:=bind_some H0
  obtain ⟨y2,h_1,H0⟩:=H0
  refine lok_dt (Env.of E0 [⟨some 11,65,[.agg [.p (pi x.Candidate),.p (.sl 3 (List.map enc_api_UnitMark x.Units)),.p (pi x.Special)]],[],[.one (.p (.val (.bool y1)))],[],True,fun _ => ok_result_pending x y1 h_0,[]⟩,
      ⟨some 13,65,[.agg [.p (pi y.Candidate),.p (.sl 3 (List.map enc_api_UnitMark y.Units)),.p (pi y.Special)]],[],[.one (.p (.val (.bool y2)))],[],True,fun _ => ok_result_pending y y2 h_1,[]⟩]) 3 (⟨33,mkS [(4,.x (.one (.ptr 104 0))),(5,.x (.one (.ptr 105 0))),(6,.x (.one (.ptr 106 0))),(7,.x (.one (.ptr 107 0))),(9,.x (.one (.p (.val (.bool (!(y1 == y2)))))))],mkH [(104,.var [.p (.sl 3 (List.map enc_api_Unit a.Units)),.p (.sl 1 (List.map encI a.Bounds)),.p (pi a.Max)]),(105,.var [.p (pi x.Candidate),.p (.sl 3 (List.map enc_api_UnitMark x.Units)),.p (pi x.Special)]),(106,.var [.p (.sl 3 (List.map enc_api_Unit b.Units)),.p (.sl 1 (List.map encI b.Bounds)),.p (pi b.Max)]),(107,.var [.p (pi y.Candidate),.p (.sl 3 (List.map enc_api_UnitMark y.Units)),.p (pi y.Special)])]⟩) (by kernel_rfl) (by kernel_rfl) ?_
  refine lok_c (!(y1 == y2)) ?_ ?_
  · intro b_7
    replace H0:=cpos H0 b_7
    refine lok_rt E0 (⟨33,mkS [(8,.x (.one (.p (pi (9:Int)))))],mkH []⟩) ?_
    refine lok_ret ?_
    obtain rfl:=Option.some.inj H0
    try simp only [thenL,blockL]
    exact fin_au _ (.inr rfl) [] (⟨33,mkS [(8,.x (.one (.p (pi (9:Int)))))],mkH []⟩) rfl rfl imp_au
  · intro b_7
    replace H0:=cneg H0 b_7
    replace H0:=bind_some H0
    obtain ⟨y3,h_2,H0⟩:=H0
    refine lok_rt (Env.of E0 [⟨some 20,66,[.one (.p (.sl 3 (List.map enc_api_UnitMark x.Units))),.one (.p (.sl 3 (List.map enc_api_UnitMark y.Units)))],[],[.one (.p (.val (.bool y3)))],[],True,fun _ => ok_slices_Equal_awardingbodyapiUnitMarkawardingbodyapiUnitMark x.Units y.Units y3 h_2,[]⟩]) (⟨33,mkS [(4,.x (.one (.ptr 104 0))),(5,.x (.one (.ptr 105 0))),(6,.x (.one (.ptr 106 0))),(7,.x (.one (.ptr 107 0))),(15,.x (.one (.p (.val (.bool (!y3))))))],mkH [(104,.var [.p (.sl 3 (List.map enc_api_Unit a.Units)),.p (.sl 1 (List.map encI a.Bounds)),.p (pi a.Max)]),(105,.var [.p (pi x.Candidate),.p (.sl 3 (List.map enc_api_UnitMark x.Units)),.p (pi x.Special)]),(106,.var [.p (.sl 3 (List.map enc_api_Unit b.Units)),.p (.sl 1 (List.map encI b.Bounds)),.p (pi b.Max)]),(107,.var [.p (pi y.Candidate),.p (.sl 3 (List.map enc_api_UnitMark y.Units)),.p (pi y.Special)])]⟩) ?_
    refine lok_c (!y3) ?_ ?_
    · intro b_6
      replace H0:=cpos H0 b_6
      refine lok_rt E0 (⟨33,mkS [(8,.x (.one (.p (pi (5:Int)))))],mkH []⟩) ?_
      refine lok_ret ?_
      obtain rfl:=Option.some.inj H0
      try simp only [thenL,blockL]
      exact fin_au _ (.inr rfl) [] (⟨33,mkS [(8,.x (.one (.p (pi (5:Int)))))],mkH []⟩) rfl rfl imp_au
    · intro b_6
      replace H0:=cneg H0 b_6
      refine lok_rt E0 (⟨33,mkS [(4,.x (.one (.ptr 104 0))),(6,.x (.one (.ptr 106 0))),(22,.x (.one (.p (.val (.bool (x.Special != y.Special))))))],mkH [(104,.var [.p (.sl 3 (List.map enc_api_Unit a.Units)),.p (.sl 1 (List.map encI a.Bounds)),.p (pi a.Max)]),(106,.var [.p (.sl 3 (List.map enc_api_Unit b.Units)),.p (.sl 1 (List.map encI b.Bounds)),.p (pi b.Max)])]⟩) ?_
      refine lok_c (x.Special != y.Special) ?_ ?_
      · intro b_5
        replace H0:=cpos H0 b_5
        refine lok_rt E0 (⟨33,mkS [(8,.x (.one (.p (pi (8:Int)))))],mkH []⟩) ?_
        refine lok_ret ?_
        obtain rfl:=Option.some.inj H0
        try simp only [thenL,blockL]
        exact fin_au _ (.inr rfl) [] (⟨33,mkS [(8,.x (.one (.p (pi (8:Int)))))],mkH []⟩) rfl rfl imp_au
      · intro b_5
        replace H0:=cneg H0 b_5
        replace H0:=bind_some H0
        obtain ⟨y4,h_3,H0⟩:=H0
        refine lok_rt (Env.of E0 [⟨some 31,67,[.agg [.p (.sl 3 (List.map enc_api_Unit a.Units)),.p (.sl 1 (List.map encI a.Bounds)),.p (pi a.Max)],.agg [.p (.sl 3 (List.map enc_api_Unit b.Units)),.p (.sl 1 (List.map encI b.Bounds)),.p (pi b.Max)]],[],[.one (.p (.val (.bool y4)))],[],True,fun _ => ok_result_sameAward a b y4 h_3,[]⟩]) (⟨33,mkS [(28,.x (.one (.p (.val (.bool (!y4))))))],mkH []⟩) ?_
        refine lok_c (!y4) ?_ ?_
        · intro b_4
          replace H0:=cpos H0 b_4
          refine lok_rt E0 (⟨33,mkS [(8,.x (.one (.p (pi (6:Int)))))],mkH []⟩) ?_
          refine lok_ret ?_
          obtain rfl:=Option.some.inj H0
          try simp only [thenL,blockL]
          exact fin_au _ (.inr rfl) [] (⟨33,mkS [(8,.x (.one (.p (pi (6:Int)))))],mkH []⟩) rfl rfl imp_au
        · intro b_4
          replace H0:=cneg H0 b_4
          refine lok_skip ?_
          try simp only [thenL,blockL,↓reduceIte,reduceCtorEq]
          refine lok_rt E0 (⟨33,mkS [(8,.x (.one (.p (pi (0:Int)))))],mkH []⟩) ?_
          refine lok_ret ?_
          obtain rfl:=Option.some.inj H0
          try simp only [thenL,blockL]
          exact fin_au _ (.inr rfl) [] (⟨33,mkS [(8,.x (.one (.p (pi (0:Int)))))],mkH []⟩) rfl rfl imp_au
theorem ok_result_nothing (candidate:Int) (r_ : api_Outcome) (H0 : result_nothing candidate = some r_) : CallOK Try.prog 68 [.one (.p (pi candidate))] [] [.agg [.p (pi r_.Candidate),.p (pi r_.Kind),.p (pi r_.Grade),.p (pi r_.Total),.p (pi r_.Reason)]] []:=by
  refine callOK (n:=5) (rs:=[.cell 2 66]) (nb:=0) (V:=[]) Try.func68 rfl (by kernel_rfl) rfl rfl rfl rfl (Nat.le_of_ble_eq_true rfl) (by decide) ?_
  unfold result_nothing at H0
  refine lok_rt E0 (⟨5,mkS [(0,.x (.one (.p (pi candidate)))),(2,.x (.one (.ptr 102 0)))],mkH [(102,.var [.p (pi (0:Int)),.p (pi (0:Int)),.p (pi (0:Int)),.p (pi (0:Int)),.p (pi (0:Int))])]⟩) ?_
  refine lok_rt E0 (⟨5,mkS [(2,.x (.one (.ptr 102 0)))],mkH [(102,.var [.p (pi candidate),.p (pi (1:Int)),.p (pi (0:Int)),.p (pi (0:Int)),.p (pi (0:Int))])]⟩) ?_
  refine lok_ret ?_
  obtain rfl:=Option.some.inj H0
  try simp only [thenL,blockL]
  exact fin_au _ (.inr rfl) [] (⟨5,mkS [(2,.x (.one (.ptr 102 0)))],mkH [(102,.var [.p (pi candidate),.p (pi (1:Int)),.p (pi (0:Int)),.p (pi (0:Int)),.p (pi (0:Int))])]⟩) rfl rfl imp_au
theorem ok_result_Changes (a : api_Award) (old : List api_Standing) (b : api_Award) (l : List api_Standing) (r_ : (List api_Change) × Int) (H0 : result_Changes a old b l = some r_) : CallOK Try.prog 37 [.agg [.p (.sl 3 (List.map enc_api_Unit a.Units)),.p (.sl 1 (List.map encI a.Bounds)),.p (pi a.Max)],.one (.p (.sl 3 (List.map enc_api_Standing old))),.agg [.p (.sl 3 (List.map enc_api_Unit b.Units)),.p (.sl 1 (List.map encI b.Bounds)),.p (pi b.Max)],.one (.p (.sl 3 (List.map enc_api_Standing l)))] [] [.one (.p (.sl 12 (List.map enc_api_Change r_.1))),.one (.p (pi r_.2))] []:=by
  refine callOK (n:=166) (rs:=[.tmp 8,.tmp 9]) (nb:=0) (V:=[]) Try.func37 rfl (by kernel_rfl) rfl rfl rfl rfl (Nat.le_of_ble_eq_true rfl) (by decide) ?_
  unfold result_Changes at H0
  refine lok_rt E0 (⟨166,mkS [(1,.x (.one (.p (.sl 3 (List.map enc_api_Standing old))))),(3,.x (.one (.p (.sl 3 (List.map enc_api_Standing l))))),(4,.x (.one (.ptr 104 0))),(6,.x (.one (.ptr 106 0)))],mkH [(104,.var [.p (.sl 3 (List.map enc_api_Unit a.Units)),.p (.sl 1 (List.map encI a.Bounds)),.p (pi a.Max)]),(106,.var [.p (.sl 3 (List.map enc_api_Unit b.Units)),.p (.sl 1 (List.map encI b.Bounds)),.p (pi b.Max)])]⟩) ?_
  replace H0:=bind_some H0
  obtain ⟨⟨y,y1⟩,h_0,H0⟩:=H0
  try dsimp only at H0
  refine lok_rt (Env.of E0 [⟨some 21,32,[.agg [.p (.sl 3 (List.map enc_api_Unit a.Units)),.p (.sl 1 (List.map encI a.Bounds)),.p (pi a.Max)],.one (.p (.sl 3 (List.map enc_api_Standing old)))],[],[.one (.p (.sl 5 (List.map enc_api_Outcome y))),.one (.p (pi y1))],[],True,fun _ => ok_result_Compute a old (y,y1) h_0,[]⟩]) (⟨166,mkS [(1,.x (.one (.p (.sl 3 (List.map enc_api_Standing old))))),(3,.x (.one (.p (.sl 3 (List.map enc_api_Standing l))))),(4,.x (.one (.ptr 104 0))),(6,.x (.one (.ptr 106 0))),(10,.x (.one (.p (.sl 5 (List.map enc_api_Outcome y))))),(11,.x (.one (.p (pi y1))))],mkH [(104,.var [.p (.sl 3 (List.map enc_api_Unit a.Units)),.p (.sl 1 (List.map encI a.Bounds)),.p (pi a.Max)]),(106,.var [.p (.sl 3 (List.map enc_api_Unit b.Units)),.p (.sl 1 (List.map encI b.Bounds)),.p (pi b.Max)])]⟩) ?_
  refine lok_seq ?_
  refine lok_rt E0 (⟨166,mkS [(1,.x (.one (.p (.sl 3 (List.map enc_api_Standing old))))),(3,.x (.one (.p (.sl 3 (List.map enc_api_Standing l))))),(4,.x (.one (.ptr 104 0))),(6,.x (.one (.ptr 106 0))),(10,.x (.one (.p (.sl 5 (List.map enc_api_Outcome y))))),(11,.x (.one (.p (pi y1)))),(25,.x (.one (.p (.val (.bool (y1 != (0:Int)))))))],mkH [(104,.var [.p (.sl 3 (List.map enc_api_Unit a.Units)),.p (.sl 1 (List.map encI a.Bounds)),.p (pi a.Max)]),(106,.var [.p (.sl 3 (List.map enc_api_Unit b.Units)),.p (.sl 1 (List.map encI b.Bounds)),.p (pi b.Max)])]⟩) ?_
  refine lok_c (y1 != (0:Int)) ?_ ?_
  · intro b_32
    replace H0:=cpos H0 b_32
    refine lok_rt E0 (⟨166,mkS [(8,.x (.one (.vw 108))),(9,.x (.one (.p (pi y1))))],mkH [(108,.arr 12 (List.map enc_api_Change ([] : List api_Change)))]⟩) ?_
    refine lok_ret ?_
    obtain rfl:=Option.some.inj H0
    try simp only [thenL,blockL]
    exact fin_au _ (.inr rfl) [] (⟨166,mkS [(8,.x (.one (.p (.sl 12 (List.map enc_api_Change ([] : List api_Change)))))),(9,.x (.one (.p (pi y1))))],mkH []⟩) rfl rfl (Imp.trans (imp_frz 108 12 (List.map enc_api_Change ([] : List api_Change))) imp_au)
  · intro b_32
    replace H0:=cneg H0 b_32
    refine lok_skip ?_
    try simp only [thenL,blockL,↓reduceIte,reduceCtorEq]
    replace H0:=bind_some H0
    obtain ⟨⟨y2,y3⟩,h_1,H0⟩:=H0
    try dsimp only at H0
    refine lok_rt (Env.of E0 [⟨some 30,32,[.agg [.p (.sl 3 (List.map enc_api_Unit b.Units)),.p (.sl 1 (List.map encI b.Bounds)),.p (pi b.Max)],.one (.p (.sl 3 (List.map enc_api_Standing l)))],[],[.one (.p (.sl 5 (List.map enc_api_Outcome y2))),.one (.p (pi y3))],[],True,fun _ => ok_result_Compute b l (y2,y3) h_1,[]⟩]) (⟨166,mkS [(1,.x (.one (.p (.sl 3 (List.map enc_api_Standing old))))),(3,.x (.one (.p (.sl 3 (List.map enc_api_Standing l))))),(4,.x (.one (.ptr 104 0))),(6,.x (.one (.ptr 106 0))),(10,.x (.one (.p (.sl 5 (List.map enc_api_Outcome y))))),(11,.x (.one (.p (pi y3)))),(12,.x (.one (.p (.sl 5 (List.map enc_api_Outcome y2)))))],mkH [(104,.var [.p (.sl 3 (List.map enc_api_Unit a.Units)),.p (.sl 1 (List.map encI a.Bounds)),.p (pi a.Max)]),(106,.var [.p (.sl 3 (List.map enc_api_Unit b.Units)),.p (.sl 1 (List.map encI b.Bounds)),.p (pi b.Max)])]⟩) ?_
    refine lok_seq ?_
    refine lok_rt E0 (⟨166,mkS [(1,.x (.one (.p (.sl 3 (List.map enc_api_Standing old))))),(3,.x (.one (.p (.sl 3 (List.map enc_api_Standing l))))),(4,.x (.one (.ptr 104 0))),(6,.x (.one (.ptr 106 0))),(10,.x (.one (.p (.sl 5 (List.map enc_api_Outcome y))))),(11,.x (.one (.p (pi y3)))),(12,.x (.one (.p (.sl 5 (List.map enc_api_Outcome y2))))),(34,.x (.one (.p (.val (.bool (y3 != (0:Int)))))))],mkH [(104,.var [.p (.sl 3 (List.map enc_api_Unit a.Units)),.p (.sl 1 (List.map encI a.Bounds)),.p (pi a.Max)]),(106,.var [.p (.sl 3 (List.map enc_api_Unit b.Units)),.p (.sl 1 (List.map encI b.Bounds)),.p (pi b.Max)])]⟩) ?_
    refine lok_c (y3 != (0:Int)) ?_ ?_
    · intro b_31
      replace H0:=cpos H0 b_31
      refine lok_rt E0 (⟨166,mkS [(8,.x (.one (.vw 108))),(9,.x (.one (.p (pi y3))))],mkH [(108,.arr 12 (List.map enc_api_Change ([] : List api_Change)))]⟩) ?_
      refine lok_ret ?_
      obtain rfl:=Option.some.inj H0
      try simp only [thenL,blockL]
      exact fin_au _ (.inr rfl) [] (⟨166,mkS [(8,.x (.one (.p (.sl 12 (List.map enc_api_Change ([] : List api_Change)))))),(9,.x (.one (.p (pi y3))))],mkH []⟩) rfl rfl (Imp.trans (imp_frz 108 12 (List.map enc_api_Change ([] : List api_Change))) imp_au)
    · intro b_31
      replace H0:=cneg H0 b_31
      refine lok_skip ?_
      try simp only [thenL,blockL,↓reduceIte,reduceCtorEq]
      refine lok_rt E0 (⟨166,mkS [(1,.x (.one (.p (.sl 3 (List.map enc_api_Standing old))))),(3,.x (.one (.p (.sl 3 (List.map enc_api_Standing l))))),(4,.x (.one (.ptr 104 0))),(6,.x (.one (.ptr 106 0))),(10,.x (.one (.p (.sl 5 (List.map enc_api_Outcome y))))),(12,.x (.one (.p (.sl 5 (List.map enc_api_Outcome y2))))),(13,.x (.one (.vw 113)))],mkH [(104,.var [.p (.sl 3 (List.map enc_api_Unit a.Units)),.p (.sl 1 (List.map encI a.Bounds)),.p (pi a.Max)]),(106,.var [.p (.sl 3 (List.map enc_api_Unit b.Units)),.p (.sl 1 (List.map encI b.Bounds)),.p (pi b.Max)]),(113,.arr 12 (List.map enc_api_Change ([] : List api_Change)))]⟩) ?_
      refine lok_join (fun x_ : (List api_Change) => result_Changes_j1 x_ = some r_) (fun x_ => ⟨166,mkS [(13,.x (.one (.vw 113)))],mkH [(113,.arr 12 (List.map enc_api_Change x_))]⟩) ?hyresult_Changes_j1 ?hxresult_Changes_j1
      case hyresult_Changes_j1 =>
        rintro changes H0
        try dsimp only at H0 ⊢
        unfold result_Changes_j1 at H0
        refine lok_rt E0 (⟨166,mkS [(8,.x (.one (.vw 113))),(9,.x (.one (.p (pi (0:Int)))))],mkH [(113,.arr 12 (List.map enc_api_Change changes))]⟩) ?_
        refine lok_ret ?_
        obtain rfl:=Option.some.inj H0
        try simp only [thenL,blockL]
        exact fin_au _ (.inr rfl) [] (⟨166,mkS [(8,.x (.one (.p (.sl 12 (List.map enc_api_Change changes))))),(9,.x (.one (.p (pi (0:Int)))))],mkH []⟩) rfl rfl (Imp.trans (imp_frz 113 12 (List.map enc_api_Change changes)) imp_au)
      case hxresult_Changes_j1 =>
        refine lok_rt E0 (⟨166,mkS [(1,.x (.one (.p (.sl 3 (List.map enc_api_Standing old))))),(3,.x (.one (.p (.sl 3 (List.map enc_api_Standing l))))),(4,.x (.one (.ptr 104 0))),(6,.x (.one (.ptr 106 0))),(10,.x (.one (.p (.sl 5 (List.map enc_api_Outcome y))))),(12,.x (.one (.p (.sl 5 (List.map enc_api_Outcome y2))))),(13,.x (.one (.vw 113))),(14,.x (.one (.p (pi (0:Int))))),(15,.x (.one (.p (pi (0:Int)))))],mkH [(104,.var [.p (.sl 3 (List.map enc_api_Unit a.Units)),.p (.sl 1 (List.map encI a.Bounds)),.p (pi a.Max)]),(106,.var [.p (.sl 3 (List.map enc_api_Unit b.Units)),.p (.sl 1 (List.map encI b.Bounds)),.p (pi b.Max)]),(113,.arr 12 (List.map enc_api_Change ([] : List api_Change)))]⟩) ?_
        refine lok_block ?_
        replace H0:=bind_some H0
        obtain ⟨v_2,hv_2,H0⟩:=H0
        refine lok_iter (fun x_ => ⟨166,mkS [(1,.x (.one (.p (.sl 3 (List.map enc_api_Standing old))))),(3,.x (.one (.p (.sl 3 (List.map enc_api_Standing l))))),(4,.x (.one (.ptr 104 0))),(6,.x (.one (.ptr 106 0))),(10,.x (.one (.p (.sl 5 (List.map enc_api_Outcome y))))),(12,.x (.one (.p (.sl 5 (List.map enc_api_Outcome y2))))),(13,.x (.one (.vw 113))),(14,.x (.one (.p (pi x_.1)))),(15,.x (.one (.p (pi x_.2.1))))],mkH [(104,.var [.p (.sl 3 (List.map enc_api_Unit a.Units)),.p (.sl 1 (List.map encI a.Bounds)),.p (pi a.Max)]),(106,.var [.p (.sl 3 (List.map enc_api_Unit b.Units)),.p (.sl 1 (List.map encI b.Bounds)),.p (pi b.Max)]),(113,.arr 12 (List.map enc_api_Change x_.2.2))]⟩) hv_2 imp_au ?_
        · rintro ⟨i,j,changes1⟩ o_1 H1 k_1
          unfold result_Changes_l3 at H1
          try dsimp only at H1 ⊢
          refine lok_seq ?_
          refine lok_rt E0 (⟨166,mkS [(1,.x (.one (.p (.sl 3 (List.map enc_api_Standing old))))),(3,.x (.one (.p (.sl 3 (List.map enc_api_Standing l))))),(4,.x (.one (.ptr 104 0))),(6,.x (.one (.ptr 106 0))),(10,.x (.one (.p (.sl 5 (List.map enc_api_Outcome y))))),(12,.x (.one (.p (.sl 5 (List.map enc_api_Outcome y2))))),(13,.x (.one (.vw 113))),(14,.x (.one (.p (pi i)))),(15,.x (.one (.p (pi j)))),(45,.x (.one (.p (.val (.bool ((decide (i < (y.length:Int))) || (decide (j < (y2.length:Int)))))))))],mkH [(104,.var [.p (.sl 3 (List.map enc_api_Unit a.Units)),.p (.sl 1 (List.map encI a.Bounds)),.p (pi a.Max)]),(106,.var [.p (.sl 3 (List.map enc_api_Unit b.Units)),.p (.sl 1 (List.map encI b.Bounds)),.p (pi b.Max)]),(113,.arr 12 (List.map enc_api_Change changes1))]⟩) ?_
          refine lok_c ((decide (i < (y.length:Int))) || (decide (j < (y2.length:Int)))) ?_ ?_
          · intro b_30
            replace H1:=cpos H1 b_30
            refine lok_skip ?_
            try simp only [thenL,blockL,↓reduceIte,reduceCtorEq]
            refine lok_block ?_
            refine lok_block ?_
            replace H1:=req_some H1
            obtain ⟨⟨q_28,q_29⟩,H1⟩:=H1
            refine lok_dt E0 20 (⟨166,mkS [(1,.x (.one (.p (.sl 3 (List.map enc_api_Standing old))))),(3,.x (.one (.p (.sl 3 (List.map enc_api_Standing l))))),(4,.x (.one (.ptr 104 0))),(6,.x (.one (.ptr 106 0))),(10,.x (.one (.p (.sl 5 (List.map enc_api_Outcome y))))),(12,.x (.one (.p (.sl 5 (List.map enc_api_Outcome y2))))),(13,.x (.one (.vw 113))),(14,.x (.one (.p (pi i)))),(15,.x (.one (.p (pi j)))),(87,.x (.one (.p (.val (.bool ((j == (y2.length:Int)) || ((decide (i < (y.length:Int))) && (decide ((ix y i).Candidate < (ix y2 j).Candidate)))))))))],mkH [(104,.var [.p (.sl 3 (List.map enc_api_Unit a.Units)),.p (.sl 1 (List.map encI a.Bounds)),.p (pi a.Max)]),(106,.var [.p (.sl 3 (List.map enc_api_Unit b.Units)),.p (.sl 1 (List.map encI b.Bounds)),.p (pi b.Max)]),(113,.arr 12 (List.map enc_api_Change changes1))]⟩) (by kernel_rfl) (by kernel_rfl) ?_
            refine lok_c ((j == (y2.length:Int)) || ((decide (i < (y.length:Int))) && (decide ((ix y i).Candidate < (ix y2 j).Candidate)))) ?_ ?_
            · intro b_27
              replace H1:=cpos H1 b_27
              replace H1:=req_some H1
              obtain ⟨q_7,H1⟩:=H1
              refine lok_rt E0 (⟨166,mkS [(1,.x (.one (.p (.sl 3 (List.map enc_api_Standing old))))),(3,.x (.one (.p (.sl 3 (List.map enc_api_Standing l))))),(4,.x (.one (.ptr 104 0))),(6,.x (.one (.ptr 106 0))),(10,.x (.one (.p (.sl 5 (List.map enc_api_Outcome y))))),(12,.x (.one (.p (.sl 5 (List.map enc_api_Outcome y2))))),(13,.x (.one (.vw 113))),(14,.x (.one (.p (pi i)))),(15,.x (.one (.p (pi j)))),(16,.x (.one (.p (pi ((ix y i).Candidate)))))],mkH [(104,.var [.p (.sl 3 (List.map enc_api_Unit a.Units)),.p (.sl 1 (List.map encI a.Bounds)),.p (pi a.Max)]),(106,.var [.p (.sl 3 (List.map enc_api_Unit b.Units)),.p (.sl 1 (List.map encI b.Bounds)),.p (pi b.Max)]),(113,.arr 12 (List.map enc_api_Change changes1))]⟩) ?_
              replace H1:=req_some H1
              obtain ⟨q_5,H1⟩:=H1
              replace H1:=bind_some H1
              obtain ⟨y4,h_3,H1⟩:=H1
              replace H1:=req_some H1
              obtain ⟨q_6,H1⟩:=H1
              replace H1:=bindV_some H1
              obtain ⟨changes3,a_4,H1⟩:=H1
              refine lok_dtg (Env.of E0 [⟨some 123,68,[.one (.p (pi ((ix y i).Candidate)))],[],[.agg [.p (pi y4.Candidate),.p (pi y4.Kind),.p (pi y4.Grade),.p (pi y4.Total),.p (pi y4.Reason)]],[],True,fun _ => ok_result_nothing ((ix y i).Candidate) y4 h_3,[]⟩]) 10 a_4 (⟨166,mkS [(1,.x (.one (.p (.sl 3 (List.map enc_api_Standing old))))),(3,.x (.one (.p (.sl 3 (List.map enc_api_Standing l))))),(4,.x (.one (.ptr 104 0))),(6,.x (.one (.ptr 106 0))),(10,.x (.one (.p (.sl 5 (List.map enc_api_Outcome y))))),(12,.x (.one (.p (.sl 5 (List.map enc_api_Outcome y2))))),(13,.x (.one (.vw 113))),(14,.x (.one (.p (pi i)))),(15,.x (.one (.p (pi j))))],mkH [(104,.var [.p (.sl 3 (List.map enc_api_Unit a.Units)),.p (.sl 1 (List.map encI a.Bounds)),.p (pi a.Max)]),(106,.var [.p (.sl 3 (List.map enc_api_Unit b.Units)),.p (.sl 1 (List.map encI b.Bounds)),.p (pi b.Max)]),(113,.arr 12 (List.map enc_api_Change changes3))]⟩) (by kernel_rfl) (by kernel_rfl) ?_
              refine lok_rl E0 (⟨166,mkS [(1,.x (.one (.p (.sl 3 (List.map enc_api_Standing old))))),(3,.x (.one (.p (.sl 3 (List.map enc_api_Standing l))))),(4,.x (.one (.ptr 104 0))),(6,.x (.one (.ptr 106 0))),(10,.x (.one (.p (.sl 5 (List.map enc_api_Outcome y))))),(12,.x (.one (.p (.sl 5 (List.map enc_api_Outcome y2))))),(13,.x (.one (.vw 113))),(14,.x (.one (.p (pi (IntKind.i64.wrap (i + (1:Int))))))),(15,.x (.one (.p (pi j))))],mkH [(104,.var [.p (.sl 3 (List.map enc_api_Unit a.Units)),.p (.sl 1 (List.map encI a.Bounds)),.p (pi a.Max)]),(106,.var [.p (.sl 3 (List.map enc_api_Unit b.Units)),.p (.sl 1 (List.map encI b.Bounds)),.p (pi b.Max)]),(113,.arr 12 (List.map enc_api_Change changes3))]⟩) ?_
              try simp only [thenL,blockL,↓reduceIte,reduceCtorEq]
              exact ⟨((IntKind.i64.wrap (i + (1:Int))),j,changes3),(Option.some.inj H1).symm,imp_au⟩
            · intro b_27
              replace H1:=cneg H1 b_27
              replace H1:=req_some H1
              obtain ⟨⟨q_25,q_26⟩,H1⟩:=H1
              refine lok_dt E0 15 (⟨166,mkS [(1,.x (.one (.p (.sl 3 (List.map enc_api_Standing old))))),(3,.x (.one (.p (.sl 3 (List.map enc_api_Standing l))))),(4,.x (.one (.ptr 104 0))),(6,.x (.one (.ptr 106 0))),(10,.x (.one (.p (.sl 5 (List.map enc_api_Outcome y))))),(12,.x (.one (.p (.sl 5 (List.map enc_api_Outcome y2))))),(13,.x (.one (.vw 113))),(14,.x (.one (.p (pi i)))),(15,.x (.one (.p (pi j)))),(129,.x (.one (.p (.val (.bool ((i == (y.length:Int)) || (decide ((ix y2 j).Candidate < (ix y i).Candidate))))))))],mkH [(104,.var [.p (.sl 3 (List.map enc_api_Unit a.Units)),.p (.sl 1 (List.map encI a.Bounds)),.p (pi a.Max)]),(106,.var [.p (.sl 3 (List.map enc_api_Unit b.Units)),.p (.sl 1 (List.map encI b.Bounds)),.p (pi b.Max)]),(113,.arr 12 (List.map enc_api_Change changes1))]⟩) (by kernel_rfl) (by kernel_rfl) ?_
              refine lok_c ((i == (y.length:Int)) || (decide ((ix y2 j).Candidate < (ix y i).Candidate))) ?_ ?_
              · intro b_24
                replace H1:=cpos H1 b_24
                replace H1:=req_some H1
                obtain ⟨q_12,H1⟩:=H1
                refine lok_rt E0 (⟨166,mkS [(1,.x (.one (.p (.sl 3 (List.map enc_api_Standing old))))),(3,.x (.one (.p (.sl 3 (List.map enc_api_Standing l))))),(4,.x (.one (.ptr 104 0))),(6,.x (.one (.ptr 106 0))),(10,.x (.one (.p (.sl 5 (List.map enc_api_Outcome y))))),(12,.x (.one (.p (.sl 5 (List.map enc_api_Outcome y2))))),(13,.x (.one (.vw 113))),(14,.x (.one (.p (pi i)))),(15,.x (.one (.p (pi j)))),(17,.x (.one (.p (pi ((ix y2 j).Candidate)))))],mkH [(104,.var [.p (.sl 3 (List.map enc_api_Unit a.Units)),.p (.sl 1 (List.map encI a.Bounds)),.p (pi a.Max)]),(106,.var [.p (.sl 3 (List.map enc_api_Unit b.Units)),.p (.sl 1 (List.map encI b.Bounds)),.p (pi b.Max)]),(113,.arr 12 (List.map enc_api_Change changes1))]⟩) ?_
                replace H1:=bind_some H1
                obtain ⟨y5,h_8,H1⟩:=H1
                replace H1:=req_some H1
                obtain ⟨⟨q_10,q_11⟩,H1⟩:=H1
                replace H1:=bindV_some H1
                obtain ⟨changes4,a_9,H1⟩:=H1
                refine lok_dtg (Env.of E0 [⟨some 155,68,[.one (.p (pi ((ix y2 j).Candidate)))],[],[.agg [.p (pi y5.Candidate),.p (pi y5.Kind),.p (pi y5.Grade),.p (pi y5.Total),.p (pi y5.Reason)]],[],True,fun _ => ok_result_nothing ((ix y2 j).Candidate) y5 h_8,[]⟩]) 10 a_9 (⟨166,mkS [(1,.x (.one (.p (.sl 3 (List.map enc_api_Standing old))))),(3,.x (.one (.p (.sl 3 (List.map enc_api_Standing l))))),(4,.x (.one (.ptr 104 0))),(6,.x (.one (.ptr 106 0))),(10,.x (.one (.p (.sl 5 (List.map enc_api_Outcome y))))),(12,.x (.one (.p (.sl 5 (List.map enc_api_Outcome y2))))),(13,.x (.one (.vw 113))),(14,.x (.one (.p (pi i)))),(15,.x (.one (.p (pi j))))],mkH [(104,.var [.p (.sl 3 (List.map enc_api_Unit a.Units)),.p (.sl 1 (List.map encI a.Bounds)),.p (pi a.Max)]),(106,.var [.p (.sl 3 (List.map enc_api_Unit b.Units)),.p (.sl 1 (List.map encI b.Bounds)),.p (pi b.Max)]),(113,.arr 12 (List.map enc_api_Change changes4))]⟩) (by kernel_rfl) (by kernel_rfl) ?_
                refine lok_rl E0 (⟨166,mkS [(1,.x (.one (.p (.sl 3 (List.map enc_api_Standing old))))),(3,.x (.one (.p (.sl 3 (List.map enc_api_Standing l))))),(4,.x (.one (.ptr 104 0))),(6,.x (.one (.ptr 106 0))),(10,.x (.one (.p (.sl 5 (List.map enc_api_Outcome y))))),(12,.x (.one (.p (.sl 5 (List.map enc_api_Outcome y2))))),(13,.x (.one (.vw 113))),(14,.x (.one (.p (pi i)))),(15,.x (.one (.p (pi (IntKind.i64.wrap (j + (1:Int)))))))],mkH [(104,.var [.p (.sl 3 (List.map enc_api_Unit a.Units)),.p (.sl 1 (List.map encI a.Bounds)),.p (pi a.Max)]),(106,.var [.p (.sl 3 (List.map enc_api_Unit b.Units)),.p (.sl 1 (List.map encI b.Bounds)),.p (pi b.Max)]),(113,.arr 12 (List.map enc_api_Change changes4))]⟩) ?_
                try simp only [thenL,blockL,↓reduceIte,reduceCtorEq]
                exact ⟨(i,(IntKind.i64.wrap (j + (1:Int))),changes4),(Option.some.inj H1).symm,imp_au⟩
              · intro b_24
                replace H1:=cneg H1 b_24
                refine lok_join (fun x_ : (List api_Change) => result_Changes_j2 i j x_ = some o_1) (fun x_ => ⟨166,mkS [(1,.x (.one (.p (.sl 3 (List.map enc_api_Standing old))))),(3,.x (.one (.p (.sl 3 (List.map enc_api_Standing l))))),(4,.x (.one (.ptr 104 0))),(6,.x (.one (.ptr 106 0))),(10,.x (.one (.p (.sl 5 (List.map enc_api_Outcome y))))),(12,.x (.one (.p (.sl 5 (List.map enc_api_Outcome y2))))),(13,.x (.one (.vw 113))),(14,.x (.one (.p (pi i)))),(15,.x (.one (.p (pi j))))],mkH [(104,.var [.p (.sl 3 (List.map enc_api_Unit a.Units)),.p (.sl 1 (List.map encI a.Bounds)),.p (pi a.Max)]),(106,.var [.p (.sl 3 (List.map enc_api_Unit b.Units)),.p (.sl 1 (List.map encI b.Bounds)),.p (pi b.Max)]),(113,.arr 12 (List.map enc_api_Change x_))]⟩) ?hyresult_Changes_j2 ?hxresult_Changes_j2
                case hyresult_Changes_j2 =>
                  rintro changes5 H1
                  try dsimp only at H1 ⊢
                  unfold result_Changes_j2 at H1
                  refine lok_rl E0 (⟨166,mkS [(1,.x (.one (.p (.sl 3 (List.map enc_api_Standing old))))),(3,.x (.one (.p (.sl 3 (List.map enc_api_Standing l))))),(4,.x (.one (.ptr 104 0))),(6,.x (.one (.ptr 106 0))),(10,.x (.one (.p (.sl 5 (List.map enc_api_Outcome y))))),(12,.x (.one (.p (.sl 5 (List.map enc_api_Outcome y2))))),(13,.x (.one (.vw 113))),(14,.x (.one (.p (pi (IntKind.i64.wrap (i + (1:Int))))))),(15,.x (.one (.p (pi (IntKind.i64.wrap (j + (1:Int)))))))],mkH [(104,.var [.p (.sl 3 (List.map enc_api_Unit a.Units)),.p (.sl 1 (List.map encI a.Bounds)),.p (pi a.Max)]),(106,.var [.p (.sl 3 (List.map enc_api_Unit b.Units)),.p (.sl 1 (List.map encI b.Bounds)),.p (pi b.Max)]),(113,.arr 12 (List.map enc_api_Change changes5))]⟩) ?_
                  try simp only [thenL,blockL,↓reduceIte,reduceCtorEq]
                  exact ⟨((IntKind.i64.wrap (i + (1:Int))),(IntKind.i64.wrap (j + (1:Int))),changes5),(Option.some.inj H1).symm,imp_au⟩
                case hxresult_Changes_j2 =>
                  replace H1:=req_some H1
                  obtain ⟨⟨q_22,q_23⟩,H1⟩:=H1
                  refine lok_dt E0 8 (⟨166,mkS [(1,.x (.one (.p (.sl 3 (List.map enc_api_Standing old))))),(3,.x (.one (.p (.sl 3 (List.map enc_api_Standing l))))),(4,.x (.one (.ptr 104 0))),(6,.x (.one (.ptr 106 0))),(10,.x (.one (.p (.sl 5 (List.map enc_api_Outcome y))))),(12,.x (.one (.p (.sl 5 (List.map enc_api_Outcome y2))))),(13,.x (.one (.vw 113))),(14,.x (.one (.p (pi i)))),(15,.x (.one (.p (pi j)))),(54,.x (.one (.p (.val (.bool (!(((ix y i).Candidate == (ix y2 j).Candidate) && (((ix y i).Kind == (ix y2 j).Kind) && (((ix y i).Grade == (ix y2 j).Grade) && (((ix y i).Total == (ix y2 j).Total) && ((ix y i).Reason == (ix y2 j).Reason)))))))))))],mkH [(104,.var [.p (.sl 3 (List.map enc_api_Unit a.Units)),.p (.sl 1 (List.map encI a.Bounds)),.p (pi a.Max)]),(106,.var [.p (.sl 3 (List.map enc_api_Unit b.Units)),.p (.sl 1 (List.map encI b.Bounds)),.p (pi b.Max)]),(113,.arr 12 (List.map enc_api_Change changes1))]⟩) (by kernel_rfl) (by kernel_rfl) ?_
                  refine lok_c (!(((ix y i).Candidate == (ix y2 j).Candidate) && (((ix y i).Kind == (ix y2 j).Kind) && (((ix y i).Grade == (ix y2 j).Grade) && (((ix y i).Total == (ix y2 j).Total) && ((ix y i).Reason == (ix y2 j).Reason)))))) ?_ ?_
                  · intro b_21
                    replace H1:=cpos H1 b_21
                    replace H1:=req_some H1
                    obtain ⟨⟨q_15,q_16,q_17⟩,H1⟩:=H1
                    replace H1:=bind_some H1
                    obtain ⟨y6,h_13,H1⟩:=H1
                    replace H1:=req_some H1
                    obtain ⟨⟨q_18,q_19,q_20⟩,H1⟩:=H1
                    replace H1:=bindV_some H1
                    obtain ⟨changes6,a_14,H1⟩:=H1
                    refine lok_dlg (Env.of E0 [⟨some 71,34,[.agg [.p (.sl 3 (List.map enc_api_Unit a.Units)),.p (.sl 1 (List.map encI a.Bounds)),.p (pi a.Max)],.agg [.p (pi ((ix old i).Candidate)),.p (.sl 3 (List.map enc_api_UnitMark ((ix old i).Units))),.p (pi ((ix old i).Special))],.agg [.p (.sl 3 (List.map enc_api_Unit b.Units)),.p (.sl 1 (List.map encI b.Bounds)),.p (pi b.Max)],.agg [.p (pi ((ix l j).Candidate)),.p (.sl 3 (List.map enc_api_UnitMark ((ix l j).Units))),.p (pi ((ix l j).Special))]],[],[.one (.p (pi y6))],[],True,fun _ => ok_result_Reason a (ix old i) b (ix l j) y6 h_13,[]⟩]) 27 a_14 (⟨166,mkS [(1,.x (.one (.p (.sl 3 (List.map enc_api_Standing old))))),(3,.x (.one (.p (.sl 3 (List.map enc_api_Standing l))))),(4,.x (.one (.ptr 104 0))),(6,.x (.one (.ptr 106 0))),(10,.x (.one (.p (.sl 5 (List.map enc_api_Outcome y))))),(12,.x (.one (.p (.sl 5 (List.map enc_api_Outcome y2))))),(13,.x (.one (.vw 113))),(14,.x (.one (.p (pi i)))),(15,.x (.one (.p (pi j))))],mkH [(104,.var [.p (.sl 3 (List.map enc_api_Unit a.Units)),.p (.sl 1 (List.map encI a.Bounds)),.p (pi a.Max)]),(106,.var [.p (.sl 3 (List.map enc_api_Unit b.Units)),.p (.sl 1 (List.map encI b.Bounds)),.p (pi b.Max)]),(113,.arr 12 (List.map enc_api_Change changes6))]⟩) (by kernel_rfl) (by kernel_rfl) ?_
                    try simp only [thenL,blockL,↓reduceIte,reduceCtorEq]
                    exact ⟨changes6,H1,imp_au⟩
                  · intro b_21
                    replace H1:=cneg H1 b_21
                    refine lok_skip ?_
                    try simp only [thenL,blockL,↓reduceIte,reduceCtorEq]
                    exact ⟨changes1,H1,imp_au⟩
          · intro b_30
            replace H1:=cneg H1 b_30
            refine lok_exit ?_
            try simp only [thenL,blockL,↓reduceIte,reduceCtorEq]
            have e_1:=k_1 _ (Option.some.inj H1).symm
            subst e_1
            try dsimp only at H0
            try simp only [thenL,blockL,↓reduceIte,reduceCtorEq]
            exact ⟨changes1,H0,imp_au⟩
theorem ok_law37_award  (r_ : api_Award) (H0 : law37_award = some r_) : CallOK Try.prog 62 [] [] [.agg [.p (.sl 3 (List.map enc_api_Unit r_.Units)),.p (.sl 1 (List.map encI r_.Bounds)),.p (pi r_.Max)]] []:=by
  refine callOK (n:=5) (rs:=[.cell 0 25]) (nb:=0) (V:=[]) Try.func62 rfl (by kernel_rfl) rfl rfl rfl rfl (Nat.le_of_ble_eq_true rfl) (by decide) ?_
  unfold law37_award at H0
  refine lok_rt E0 (⟨5,mkS [(0,.x (.one (.ptr 100 0)))],mkH [(100,.var [.p .nil,.p .nil,.p (pi (0:Int))])]⟩) ?_
  refine lok_rt E0 (⟨5,mkS [(0,.x (.one (.ptr 100 0)))],mkH [(100,.var [.fl 3 (List.map enc_api_Unit ([(api_Unit.mk (0:Int) (1:Int) (50:Int))])),.fl 1 (List.map encI ([(40:Int),(20:Int)])),.p (pi (50:Int))])]⟩) ?_
  refine lok_ret ?_
  obtain rfl:=Option.some.inj H0
  try simp only [thenL,blockL]
  exact fin_au _ (.inr rfl) [] (⟨5,mkS [(0,.x (.one (.ptr 100 0)))],mkH [(100,.var [.p (.sl 3 (List.map enc_api_Unit ([(api_Unit.mk (0:Int) (1:Int) (50:Int))]))),.p (.sl 1 (List.map encI ([(40:Int),(20:Int)]))),.p (pi (50:Int))])]⟩) rfl rfl imp_au
theorem ok_law37_one (candidate:Int) (kind:Int) (value:Int) (r_ : api_Standing) (H0 : law37_one candidate kind value = some r_) : CallOK Try.prog 63 [.one (.p (pi candidate)),.one (.p (pi kind)),.one (.p (pi value))] [] [.agg [.p (pi r_.Candidate),.p (.sl 3 (List.map enc_api_UnitMark r_.Units)),.p (pi r_.Special)]] []:=by
  refine callOK (n:=14) (rs:=[.cell 6 68]) (nb:=0) (V:=[]) Try.func63 rfl (by kernel_rfl) rfl rfl rfl rfl (Nat.le_of_ble_eq_true rfl) (by decide) ?_
  unfold law37_one at H0
  refine lok_rt E0 (⟨14,mkS [(0,.x (.one (.p (pi candidate)))),(1,.x (.one (.p (pi kind)))),(2,.x (.one (.p (pi value)))),(6,.x (.one (.ptr 106 0)))],mkH [(106,.var [.p (pi (0:Int)),.p .nil,.p (pi (0:Int))])]⟩) ?_
  refine lok_rt E0 (⟨14,mkS [(6,.x (.one (.ptr 106 0)))],mkH [(106,.var [.p (pi candidate),.fl 3 (List.map enc_api_UnitMark ([(api_UnitMark.mk kind (api_Ratio.mk value (1:Int)))])),.p (pi (0:Int))])]⟩) ?_
  refine lok_ret ?_
  obtain rfl:=Option.some.inj H0
  try simp only [thenL,blockL]
  exact fin_au _ (.inr rfl) [] (⟨14,mkS [(6,.x (.one (.ptr 106 0)))],mkH [(106,.var [.p (pi candidate),.p (.sl 3 (List.map enc_api_UnitMark ([(api_UnitMark.mk kind (api_Ratio.mk value (1:Int)))]))),.p (pi (0:Int))])]⟩) rfl rfl imp_au
theorem ok_law37_sane  (r_ : Bool) (H0 : law37_sane = some r_) : CallOK Try.prog 30 [] [] [.one (.p (.val (.bool r_)))] []:=by
  refine callOK (n:=67) (rs:=[.tmp 0]) (nb:=0) (V:=[]) Try.func30 rfl (by kernel_rfl) rfl rfl rfl rfl (Nat.le_of_ble_eq_true rfl) (by decide) ?_
  unfold law37_sane at H0
  refine lok_rt E0 (⟨67,mkS [],mkH []⟩) ?_
  replace H0:=bind_some H0
  obtain ⟨y,h_0,H0⟩:=H0
  refine lok_rt (Env.of E0 [⟨some 6,62,[],[],[.agg [.p (.sl 3 (List.map enc_api_Unit y.Units)),.p (.sl 1 (List.map encI y.Bounds)),.p (pi y.Max)]],[],True,fun _ => ok_law37_award y h_0,[]⟩]) (⟨67,mkS [(1,.x (.one (.ptr 101 0)))],mkH [(101,.var [.p (.sl 3 (List.map enc_api_Unit y.Units)),.p (.sl 1 (List.map encI y.Bounds)),.p (pi y.Max)])]⟩) ?_
  replace H0:=bind_some H0
  obtain ⟨y1,h_1,H0⟩:=H0
  replace H0:=bind_some H0
  obtain ⟨y2,h_2,H0⟩:=H0
  replace H0:=bind_some H0
  obtain ⟨⟨y3,y4⟩,h_3,H0⟩:=H0
  try dsimp only at H0
  refine lok_dt (Env.of E0 [⟨some 9,63,[.one (.p (pi (1:Int))),.one (.p (pi (0:Int))),.one (.p (pi (25:Int)))],[],[.agg [.p (pi y1.Candidate),.p (.sl 3 (List.map enc_api_UnitMark y1.Units)),.p (pi y1.Special)]],[],True,fun _ => ok_law37_one (1:Int) (0:Int) (25:Int) y1 h_1,[]⟩,
      ⟨some 10,63,[.one (.p (pi (2:Int))),.one (.p (pi (1:Int))),.one (.p (pi (0:Int)))],[],[.agg [.p (pi y2.Candidate),.p (.sl 3 (List.map enc_api_UnitMark y2.Units)),.p (pi y2.Special)]],[],True,fun _ => ok_law37_one (2:Int) (1:Int) (0:Int) y2 h_2,[]⟩,
      ⟨some 12,32,[.agg [.p (.sl 3 (List.map enc_api_Unit y.Units)),.p (.sl 1 (List.map encI y.Bounds)),.p (pi y.Max)],.one (.p (.sl 3 (List.map enc_api_Standing ([y1,y2]))))],[],[.one (.p (.sl 5 (List.map enc_api_Outcome y3))),.one (.p (pi y4))],[],True,fun _ => ok_result_Compute y ([y1,y2]) (y3,y4) h_3,[]⟩]) 9 (⟨67,mkS [(1,.x (.one (.ptr 101 0))),(2,.x (.one (.p (.sl 5 (List.map enc_api_Outcome y3))))),(3,.x (.one (.p (pi y4))))],mkH [(101,.var [.p (.sl 3 (List.map enc_api_Unit y.Units)),.p (.sl 1 (List.map encI y.Bounds)),.p (pi y.Max)])]⟩) (by kernel_rfl) (by kernel_rfl) ?_
  replace H0:=bind_some H0
  obtain ⟨y5,h_4,H0⟩:=H0
  replace H0:=bind_some H0
  obtain ⟨y6,h_5,H0⟩:=H0
  replace H0:=bind_some H0
  obtain ⟨⟨y7,y8⟩,h_6,H0⟩:=H0
  try dsimp only at H0
  refine lok_dt (Env.of E0 [⟨some 17,63,[.one (.p (pi (1:Int))),.one (.p (pi (3:Int))),.one (.p (pi (0:Int)))],[],[.agg [.p (pi y5.Candidate),.p (.sl 3 (List.map enc_api_UnitMark y5.Units)),.p (pi y5.Special)]],[],True,fun _ => ok_law37_one (1:Int) (3:Int) (0:Int) y5 h_4,[]⟩,
      ⟨some 20,63,[.one (.p (pi (1:Int))),.one (.p (pi (0:Int))),.one (.p (pi (25:Int)))],[],[.agg [.p (pi y6.Candidate),.p (.sl 3 (List.map enc_api_UnitMark y6.Units)),.p (pi y6.Special)]],[],True,fun _ => ok_law37_one (1:Int) (0:Int) (25:Int) y6 h_5,[]⟩,
      ⟨some 22,37,[.agg [.p (.sl 3 (List.map enc_api_Unit y.Units)),.p (.sl 1 (List.map encI y.Bounds)),.p (pi y.Max)],.one (.p (.sl 3 (List.map enc_api_Standing ([y5])))),.agg [.p (.sl 3 (List.map enc_api_Unit y.Units)),.p (.sl 1 (List.map encI y.Bounds)),.p (pi y.Max)],.one (.p (.sl 3 (List.map enc_api_Standing ([y6]))))],[],[.one (.p (.sl 12 (List.map enc_api_Change y7))),.one (.p (pi y8))],[],True,fun _ => ok_result_Changes y ([y5]) y ([y6]) (y7,y8) h_6,[]⟩]) 11 (⟨67,mkS [(2,.x (.one (.p (.sl 5 (List.map enc_api_Outcome y3))))),(3,.x (.one (.p (pi y4)))),(4,.x (.one (.p (.sl 12 (List.map enc_api_Change y7))))),(5,.x (.one (.p (pi y8))))],mkH []⟩) (by kernel_rfl) (by kernel_rfl) ?_
  replace H0:=req_some H0
  obtain ⟨⟨q_7,q_8,q_9,q_10⟩,H0⟩:=H0
  refine lok_rt (Env.of E0 [⟨some 64,33,[.one (.p (.sl 5 (List.map enc_api_Outcome y3))),.one (.p (pi (1:Int)))],[],[.one (.p (pi ((result_Count y3 (1:Int)).getD default)))],[],(result_Count y3 (1:Int)).isSome = true,fun h => ok_result_Count y3 (1:Int) _ (isSome_get h),[]⟩]) (⟨67,mkS [(0,.x (.one (.p (.val (.bool ((((((((y4 == (0:Int)) && (y8 == (0:Int))) && ((y3.length:Int) == (2:Int))) && (((ix y3 (0:Int)).Candidate == (1:Int)) && (((ix y3 (0:Int)).Kind == (0:Int)) && (((ix y3 (0:Int)).Grade == (1:Int)) && (((ix y3 (0:Int)).Total == (25:Int)) && ((ix y3 (0:Int)).Reason == (0:Int))))))) && ((ix y3 (1:Int)).Kind == (1:Int))) && ((y7.length:Int) == (1:Int))) && ((ix y7 (0:Int)).Reason == (9:Int))) && (((result_Count y3 (1:Int)).getD default) == (1:Int))))))))],mkH []⟩) ?_
  refine lok_ret ?_
  obtain rfl:=Option.some.inj H0
  try simp only [thenL,blockL]
  exact fin_au _ (.inr rfl) [] (⟨67,mkS [(0,.x (.one (.p (.val (.bool ((((((((y4 == (0:Int)) && (y8 == (0:Int))) && ((y3.length:Int) == (2:Int))) && (((ix y3 (0:Int)).Candidate == (1:Int)) && (((ix y3 (0:Int)).Kind == (0:Int)) && (((ix y3 (0:Int)).Grade == (1:Int)) && (((ix y3 (0:Int)).Total == (25:Int)) && ((ix y3 (0:Int)).Reason == (0:Int))))))) && ((ix y3 (1:Int)).Kind == (1:Int))) && ((y7.length:Int) == (1:Int))) && ((ix y7 (0:Int)).Reason == (9:Int))) && (((result_Count y3 (1:Int)).getD default) == (1:Int))))))))],mkH []⟩) rfl rfl imp_au
theorem ok_mark_Dice_Bool (d : mark_Dice) (n:Int) (r_ : Bool × mark_Dice) (H0 : mark_Dice_Bool d n = some r_) : CallOK Try.prog 35 [.one (.ptr 0 0),.one (.p (pi n))] [.var [.p (.sl 1 (List.map encI d.L)),.p (pi d.At)]] [.one (.p (.val (.bool r_.1)))] [some (.var [.p (.sl 1 (List.map encI r_.2.L)),.p (pi r_.2.At)])]:=by
  refine callOK (n:=11) (rs:=[.tmp 4]) (nb:=1) (V:=[0]) Try.func35 rfl (by kernel_rfl) rfl rfl rfl rfl (Nat.le_of_ble_eq_true rfl) (by decide) ?_
  unfold mark_Dice_Bool at H0
  refine lok_rt E0 (⟨11,mkS [(0,.x (.one (.ptr 0 0))),(1,.x (.one (.p (pi n))))],mkH [(0,.var [.p (.sl 1 (List.map encI d.L)),.p (pi d.At)])]⟩) ?_
  replace H0:=bind_some H0
  obtain ⟨⟨y,y1⟩,h_0,H0⟩:=H0
  try dsimp only at H0
  refine lok_rt (Env.of E0 [⟨some 7,14,[.one (.ptr 0 0),.one (.p (pi n))],[.var [.p (.sl 1 (List.map encI d.L)),.p (pi d.At)]],[.one (.p (pi y))],[some (.var [.p (.sl 1 (List.map encI y1.L)),.p (pi y1.At)])],True,fun _ => ok_mark_Dice_Next d n (y,y1) h_0,[]⟩]) (⟨11,mkS [(4,.x (.one (.p (.val (.bool (y == (IntKind.i64.wrap (n - (1:Int)))))))))],mkH [(0,.var [.p (.sl 1 (List.map encI y1.L)),.p (pi y1.At)])]⟩) ?_
  refine lok_ret ?_
  obtain rfl:=Option.some.inj H0
  try simp only [thenL,blockL]
  exact fin_au _ (.inr rfl) [0] (⟨11,mkS [(4,.x (.one (.p (.val (.bool (y == (IntKind.i64.wrap (n - (1:Int)))))))))],mkH [(0,.var [.p (.sl 1 (List.map encI y1.L)),.p (pi y1.At)])]⟩) rfl rfl imp_au
theorem ok_mark_Dice_Marks (d : mark_Dice) (a : api_Award) (r_ : (List api_UnitMark) × mark_Dice) (H0 : mark_Dice_Marks d a = some r_) : CallOK Try.prog 15 [.one (.ptr 0 0),.agg [.p (.sl 3 (List.map enc_api_Unit a.Units)),.p (.sl 1 (List.map encI a.Bounds)),.p (pi a.Max)]] [.var [.p (.sl 1 (List.map encI d.L)),.p (pi d.At)]] [.one (.p (.sl 3 (List.map enc_api_UnitMark r_.1)))] [some (.var [.p (.sl 1 (List.map encI r_.2.L)),.p (pi r_.2.At)])]:=by
  refine callOK (n:=63) (rs:=[.tmp 4]) (nb:=1) (V:=[0]) Try.func15 rfl (by kernel_rfl) rfl rfl rfl rfl (Nat.le_of_ble_eq_true rfl) (by decide) ?_
  unfold mark_Dice_Marks at H0
  refine lok_rt E0 (⟨63,mkS [(0,.x (.one (.ptr 0 0))),(3,.x (.one (.ptr 103 0)))],mkH [(0,.var [.p (.sl 1 (List.map encI d.L)),.p (pi d.At)]),(103,.var [.p (.sl 3 (List.map enc_api_Unit a.Units)),.p (.sl 1 (List.map encI a.Bounds)),.p (pi a.Max)])]⟩) ?_
  refine lok_rt E0 (⟨63,mkS [(0,.x (.one (.ptr 0 0))),(3,.x (.one (.ptr 103 0))),(5,.x (.one (.vw 105)))],mkH [(0,.var [.p (.sl 1 (List.map encI d.L)),.p (pi d.At)]),(103,.var [.p (.sl 3 (List.map enc_api_Unit a.Units)),.p (.sl 1 (List.map encI a.Bounds)),.p (pi a.Max)]),(105,.arr 3 (List.map enc_api_UnitMark ([] : List api_UnitMark)))]⟩) ?_
  refine lok_join (fun x_ : (List Int) × Int × (List api_UnitMark) => mark_Dice_Marks_j1 x_.1 x_.2.1 x_.2.2 = some r_) (fun x_ => ⟨63,mkS [(5,.x (.one (.vw 105)))],mkH [(0,.var [.p (.sl 1 (List.map encI x_.1)),.p (pi x_.2.1)]),(105,.arr 3 (List.map enc_api_UnitMark x_.2.2))]⟩) ?hymark_Dice_Marks_j1 ?hxmark_Dice_Marks_j1
  case hymark_Dice_Marks_j1 =>
    rintro ⟨d1,d2,out⟩ H0
    try dsimp only at H0 ⊢
    unfold mark_Dice_Marks_j1 at H0
    refine lok_rt E0 (⟨63,mkS [(4,.x (.one (.vw 105)))],mkH [(0,.var [.p (.sl 1 (List.map encI d1)),.p (pi d2)]),(105,.arr 3 (List.map enc_api_UnitMark out))]⟩) ?_
    refine lok_ret ?_
    obtain rfl:=Option.some.inj H0
    try simp only [thenL,blockL]
    exact fin_au _ (.inr rfl) [0] (⟨63,mkS [(4,.x (.one (.p (.sl 3 (List.map enc_api_UnitMark out)))))],mkH [(0,.var [.p (.sl 1 (List.map encI d1)),.p (pi d2)])]⟩) rfl rfl (Imp.trans (imp_frz 105 3 (List.map enc_api_UnitMark out)) imp_au)
  case hxmark_Dice_Marks_j1 =>
    refine lok_rt E0 (⟨63,mkS [(0,.x (.one (.ptr 0 0))),(3,.x (.one (.ptr 103 0))),(5,.x (.one (.vw 105))),(6,.x (.one (.p (pi (0:Int)))))],mkH [(0,.var [.p (.sl 1 (List.map encI d.L)),.p (pi d.At)]),(103,.var [.p (.sl 3 (List.map enc_api_Unit a.Units)),.p (.sl 1 (List.map encI a.Bounds)),.p (pi a.Max)]),(105,.arr 3 (List.map enc_api_UnitMark ([] : List api_UnitMark)))]⟩) ?_
    refine lok_block ?_
    replace H0:=bind_some H0
    obtain ⟨v_0,hv_0,H0⟩:=H0
    refine lok_iter (fun x_ => ⟨63,mkS [(0,.x (.one (.ptr 0 0))),(3,.x (.one (.ptr 103 0))),(5,.x (.one (.vw 105))),(6,.x (.one (.p (pi x_.1))))],mkH [(0,.var [.p (.sl 1 (List.map encI x_.2.1)),.p (pi x_.2.2.1)]),(103,.var [.p (.sl 3 (List.map enc_api_Unit a.Units)),.p (.sl 1 (List.map encI a.Bounds)),.p (pi a.Max)]),(105,.arr 3 (List.map enc_api_UnitMark x_.2.2.2))]⟩) hv_0 imp_au ?_
    · rintro ⟨i,d3,d4,out1⟩ o_1 H1 k_1
      unfold mark_Dice_Marks_l3 at H1
      try dsimp only at H1 ⊢
      refine lok_seq ?_
      refine lok_rt E0 (⟨63,mkS [(0,.x (.one (.ptr 0 0))),(3,.x (.one (.ptr 103 0))),(5,.x (.one (.vw 105))),(6,.x (.one (.p (pi i)))),(13,.x (.one (.p (.val (.bool (decide (i < (a.Units.length:Int))))))))],mkH [(0,.var [.p (.sl 1 (List.map encI d3)),.p (pi d4)]),(103,.var [.p (.sl 3 (List.map enc_api_Unit a.Units)),.p (.sl 1 (List.map encI a.Bounds)),.p (pi a.Max)]),(105,.arr 3 (List.map enc_api_UnitMark out1))]⟩) ?_
      refine lok_c (decide (i < (a.Units.length:Int))) ?_ ?_
      · intro b_7
        replace H1:=cpos H1 b_7
        refine lok_skip ?_
        try simp only [thenL,blockL,↓reduceIte,reduceCtorEq]
        refine lok_seq ?_
        refine lok_block ?_
        replace H1:=bind_some H1
        obtain ⟨⟨y,y1⟩,h_1,H1⟩:=H1
        try dsimp only at H1
        refine lok_rt (Env.of E0 [⟨some 18,16,[.one (.ptr 0 0),.one (.p (.sl 1 (List.map encI ([(0:Int),(0:Int),(0:Int),(1:Int),(2:Int),(3:Int),(0:Int),(0:Int)]))))],[.var [.p (.sl 1 (List.map encI d3)),.p (pi d4)]],[.one (.p (pi y))],[some (.var [.p (.sl 1 (List.map encI y1.L)),.p (pi y1.At)])],True,fun _ => ok_mark_Dice_Pick (mark_Dice.mk d3 d4) ([(0:Int),(0:Int),(0:Int),(1:Int),(2:Int),(3:Int),(0:Int),(0:Int)]) (y,y1) h_1,[]⟩]) (⟨63,mkS [(0,.x (.one (.ptr 0 0))),(3,.x (.one (.ptr 103 0))),(5,.x (.one (.vw 105))),(6,.x (.one (.p (pi i)))),(7,.x (.one (.p (pi y))))],mkH [(0,.var [.p (.sl 1 (List.map encI y1.L)),.p (pi y1.At)]),(103,.var [.p (.sl 3 (List.map enc_api_Unit a.Units)),.p (.sl 1 (List.map encI a.Bounds)),.p (pi a.Max)]),(105,.arr 3 (List.map enc_api_UnitMark out1))]⟩) ?_
        refine lok_rt E0 (⟨63,mkS [(0,.x (.one (.ptr 0 0))),(3,.x (.one (.ptr 103 0))),(5,.x (.one (.vw 105))),(6,.x (.one (.p (pi i)))),(7,.x (.one (.p (pi y)))),(8,.x (.one (.ptr 108 0)))],mkH [(0,.var [.p (.sl 1 (List.map encI y1.L)),.p (pi y1.At)]),(103,.var [.p (.sl 3 (List.map enc_api_Unit a.Units)),.p (.sl 1 (List.map encI a.Bounds)),.p (pi a.Max)]),(105,.arr 3 (List.map enc_api_UnitMark out1)),(108,.var [.p (pi y),.p (pi (0:Int)),.p (pi (1:Int))])]⟩) ?_
        refine lok_join (fun x_ : (List Int) × Int × Int × Int => mark_Dice_Marks_j2 i out1 y x_.1 x_.2.1 x_.2.2.1 x_.2.2.2 = some o_1) (fun x_ => ⟨63,mkS [(0,.x (.one (.ptr 0 0))),(3,.x (.one (.ptr 103 0))),(5,.x (.one (.vw 105))),(6,.x (.one (.p (pi i)))),(8,.x (.one (.ptr 108 0)))],mkH [(0,.var [.p (.sl 1 (List.map encI x_.1)),.p (pi x_.2.1)]),(103,.var [.p (.sl 3 (List.map enc_api_Unit a.Units)),.p (.sl 1 (List.map encI a.Bounds)),.p (pi a.Max)]),(105,.arr 3 (List.map enc_api_UnitMark out1)),(108,.var [.p (pi y),.p (pi x_.2.2.1),.p (pi x_.2.2.2)])]⟩) ?hymark_Dice_Marks_j2 ?hxmark_Dice_Marks_j2
        case hymark_Dice_Marks_j2 =>
          rintro ⟨d7,d8,x,x1⟩ H1
          try dsimp only at H1 ⊢
          unfold mark_Dice_Marks_j2 at H1
          replace H1:=req_some H1
          obtain ⟨q_2,H1⟩:=H1
          refine lok_rl E0 (⟨63,mkS [(0,.x (.one (.ptr 0 0))),(3,.x (.one (.ptr 103 0))),(5,.x (.one (.vw 105))),(6,.x (.one (.p (pi i))))],mkH [(0,.var [.p (.sl 1 (List.map encI d7)),.p (pi d8)]),(103,.var [.p (.sl 3 (List.map enc_api_Unit a.Units)),.p (.sl 1 (List.map encI a.Bounds)),.p (pi a.Max)]),(105,.arr 3 (List.map enc_api_UnitMark (out1 ++ [(api_UnitMark.mk y (api_Ratio.mk x x1))])))]⟩) ?_
          try simp only [thenL,blockL,↓reduceIte,reduceCtorEq]
          refine lok_rl E0 (⟨63,mkS [(0,.x (.one (.ptr 0 0))),(3,.x (.one (.ptr 103 0))),(5,.x (.one (.vw 105))),(6,.x (.one (.p (pi (IntKind.i64.wrap (i + (1:Int)))))))],mkH [(0,.var [.p (.sl 1 (List.map encI d7)),.p (pi d8)]),(103,.var [.p (.sl 3 (List.map enc_api_Unit a.Units)),.p (.sl 1 (List.map encI a.Bounds)),.p (pi a.Max)]),(105,.arr 3 (List.map enc_api_UnitMark (out1 ++ [(api_UnitMark.mk y (api_Ratio.mk x x1))])))]⟩) ?_
          try simp only [thenL,blockL,↓reduceIte,reduceCtorEq]
          exact ⟨((IntKind.i64.wrap (i + (1:Int))),d7,d8,(out1 ++ [(api_UnitMark.mk y (api_Ratio.mk x x1))])),(Option.some.inj H1).symm,imp_au⟩
        case hxmark_Dice_Marks_j2 =>
          refine lok_rt E0 (⟨63,mkS [(0,.x (.one (.ptr 0 0))),(3,.x (.one (.ptr 103 0))),(5,.x (.one (.vw 105))),(6,.x (.one (.p (pi i)))),(8,.x (.one (.ptr 108 0))),(23,.x (.one (.p (.val (.bool (y == (0:Int)))))))],mkH [(0,.var [.p (.sl 1 (List.map encI y1.L)),.p (pi y1.At)]),(103,.var [.p (.sl 3 (List.map enc_api_Unit a.Units)),.p (.sl 1 (List.map encI a.Bounds)),.p (pi a.Max)]),(105,.arr 3 (List.map enc_api_UnitMark out1)),(108,.var [.p (pi y),.p (pi (0:Int)),.p (pi (1:Int))])]⟩) ?_
          refine lok_c (y == (0:Int)) ?_ ?_
          · intro b_6
            replace H1:=cpos H1 b_6
            replace H1:=req_some H1
            obtain ⟨q_5,H1⟩:=H1
            replace H1:=bind_some H1
            obtain ⟨⟨y2,y3⟩,h_3,H1⟩:=H1
            try dsimp only at H1
            refine lok_rt (Env.of E0 [⟨some 32,14,[.one (.ptr 0 0),.one (.p (pi (IntKind.i64.wrap ((ix a.Units i).Max + (1:Int)))))],[.var [.p (.sl 1 (List.map encI y1.L)),.p (pi y1.At)]],[.one (.p (pi y2))],[some (.var [.p (.sl 1 (List.map encI y3.L)),.p (pi y3.At)])],True,fun _ => ok_mark_Dice_Next y1 (IntKind.i64.wrap ((ix a.Units i).Max + (1:Int))) (y2,y3) h_3,[]⟩]) (⟨63,mkS [(0,.x (.one (.ptr 0 0))),(3,.x (.one (.ptr 103 0))),(5,.x (.one (.vw 105))),(6,.x (.one (.p (pi i)))),(8,.x (.one (.ptr 108 0)))],mkH [(0,.var [.p (.sl 1 (List.map encI y3.L)),.p (pi y3.At)]),(103,.var [.p (.sl 3 (List.map enc_api_Unit a.Units)),.p (.sl 1 (List.map encI a.Bounds)),.p (pi a.Max)]),(105,.arr 3 (List.map enc_api_UnitMark out1)),(108,.var [.p (pi y),.p (pi y2),.p (pi (1:Int))])]⟩) ?_
            replace H1:=req_some H1
            obtain ⟨q1_5,H1⟩:=H1
            rcases bcases (((Int.tmod y2 (2:Int)) == (1:Int)) && (decide (y2 < (ix a.Units i).Max))) with g_4_0 | g_4_0
            · replace H1:=cpos H1 g_4_0
              replace H1:=bind_some H1
              obtain ⟨⟨y4,y5⟩,h_4,H1⟩:=H1
              try dsimp only at H1
              refine lok_dtg (Env.of E0 [⟨some 54,35,[.one (.ptr 0 0),.one (.p (pi (3:Int)))],[.var [.p (.sl 1 (List.map encI y3.L)),.p (pi y3.At)]],[.one (.p (.val (.bool y4)))],[some (.var [.p (.sl 1 (List.map encI y5.L)),.p (pi y5.At)])],True,fun _ => ok_mark_Dice_Bool y3 (3:Int) (y4,y5) h_4,[]⟩]) 15 g_4_0 (⟨63,mkS [(0,.x (.one (.ptr 0 0))),(3,.x (.one (.ptr 103 0))),(5,.x (.one (.vw 105))),(6,.x (.one (.p (pi i)))),(8,.x (.one (.ptr 108 0))),(54,.x (.one (.p (.val (.bool y4))))),(55,.x (.one (.p (.val (.bool y4)))))],mkH [(0,.var [.p (.sl 1 (List.map encI y5.L)),.p (pi y5.At)]),(103,.var [.p (.sl 3 (List.map enc_api_Unit a.Units)),.p (.sl 1 (List.map encI a.Bounds)),.p (pi a.Max)]),(105,.arr 3 (List.map enc_api_UnitMark out1)),(108,.var [.p (pi y),.p (pi y2),.p (pi (1:Int))])]⟩) (by kernel_rfl) (by kernel_rfl) ?_
              refine lok_c y4 ?_ ?_
              · intro b_5
                replace H1:=cpos H1 b_5
                refine lok_rl E0 (⟨63,mkS [(0,.x (.one (.ptr 0 0))),(3,.x (.one (.ptr 103 0))),(5,.x (.one (.vw 105))),(6,.x (.one (.p (pi i)))),(8,.x (.one (.ptr 108 0))),(54,.x (.one (.p (.val (.bool y4)))))],mkH [(0,.var [.p (.sl 1 (List.map encI y5.L)),.p (pi y5.At)]),(103,.var [.p (.sl 3 (List.map enc_api_Unit a.Units)),.p (.sl 1 (List.map encI a.Bounds)),.p (pi a.Max)]),(105,.arr 3 (List.map enc_api_UnitMark out1)),(108,.var [.p (pi y),.p (pi y2),.p (pi (2:Int))])]⟩) ?_
                try simp only [thenL,blockL,↓reduceIte,reduceCtorEq]
                exact ⟨(y5.L,y5.At,y2,(2:Int)),H1,imp_au⟩
              · intro b_5
                replace H1:=cneg H1 b_5
                refine lok_skip ?_
                try simp only [thenL,blockL,↓reduceIte,reduceCtorEq]
                exact ⟨(y5.L,y5.At,y2,(1:Int)),H1,imp_au⟩
            · replace H1:=cneg H1 g_4_0
              refine lok_dtg E0 15 g_4_0 (⟨63,mkS [(0,.x (.one (.ptr 0 0))),(3,.x (.one (.ptr 103 0))),(5,.x (.one (.vw 105))),(6,.x (.one (.p (pi i)))),(8,.x (.one (.ptr 108 0))),(55,.x (.one (.p (.val (.bool false)))))],mkH [(0,.var [.p (.sl 1 (List.map encI y3.L)),.p (pi y3.At)]),(103,.var [.p (.sl 3 (List.map enc_api_Unit a.Units)),.p (.sl 1 (List.map encI a.Bounds)),.p (pi a.Max)]),(105,.arr 3 (List.map enc_api_UnitMark out1)),(108,.var [.p (pi y),.p (pi y2),.p (pi (1:Int))])]⟩) (by kernel_rfl) (by kernel_rfl) ?_
              refine lok_c false ?_ ?_
              · intro h; exact absurd h (by decide)
              · intro _
                refine lok_skip ?_
                try simp only [thenL,blockL,↓reduceIte,reduceCtorEq]
                exact ⟨(y3.L,y3.At,y2,(1:Int)),H1,imp_au⟩
          · intro b_6
            replace H1:=cneg H1 b_6
            refine lok_skip ?_
            try simp only [thenL,blockL,↓reduceIte,reduceCtorEq]
            exact ⟨(y1.L,y1.At,(0:Int),(1:Int)),H1,imp_au⟩
      · intro b_7
        replace H1:=cneg H1 b_7
        refine lok_exit ?_
        try simp only [thenL,blockL,↓reduceIte,reduceCtorEq]
        have e_1:=k_1 _ (Option.some.inj H1).symm
        subst e_1
        try dsimp only at H0
        try simp only [thenL,blockL,↓reduceIte,reduceCtorEq]
        exact ⟨(d3,d4,out1),H0,imp_au⟩
theorem ok_mark_Dice_Standings (d : mark_Dice) (a : api_Award) (n:Int) (r_ : (List api_Standing) × mark_Dice) (H0 : mark_Dice_Standings d a n = some r_) : CallOK Try.prog 31 [.one (.ptr 0 0),.agg [.p (.sl 3 (List.map enc_api_Unit a.Units)),.p (.sl 1 (List.map encI a.Bounds)),.p (pi a.Max)],.one (.p (pi n))] [.var [.p (.sl 1 (List.map encI d.L)),.p (pi d.At)]] [.one (.p (.sl 3 (List.map enc_api_Standing r_.1)))] [some (.var [.p (.sl 1 (List.map encI r_.2.L)),.p (pi r_.2.At)])]:=by
  refine callOK (n:=29) (rs:=[.tmp 6]) (nb:=1) (V:=[0]) Try.func31 rfl (by kernel_rfl) rfl rfl rfl rfl (Nat.le_of_ble_eq_true rfl) (by decide) ?_
  unfold mark_Dice_Standings at H0
  refine lok_rt E0 (⟨29,mkS [(0,.x (.one (.ptr 0 0))),(2,.x (.one (.p (pi n)))),(4,.x (.one (.ptr 104 0)))],mkH [(0,.var [.p (.sl 1 (List.map encI d.L)),.p (pi d.At)]),(104,.var [.p (.sl 3 (List.map enc_api_Unit a.Units)),.p (.sl 1 (List.map encI a.Bounds)),.p (pi a.Max)])]⟩) ?_
  refine lok_rt E0 (⟨29,mkS [(0,.x (.one (.ptr 0 0))),(2,.x (.one (.p (pi n)))),(4,.x (.one (.ptr 104 0))),(7,.x (.one (.vw 107)))],mkH [(0,.var [.p (.sl 1 (List.map encI d.L)),.p (pi d.At)]),(104,.var [.p (.sl 3 (List.map enc_api_Unit a.Units)),.p (.sl 1 (List.map encI a.Bounds)),.p (pi a.Max)]),(107,.arr 3 (List.map enc_api_Standing ([] : List api_Standing)))]⟩) ?_
  refine lok_join (fun x_ : (List Int) × Int × (List api_Standing) => mark_Dice_Standings_j1 x_.1 x_.2.1 x_.2.2 = some r_) (fun x_ => ⟨29,mkS [(7,.x (.one (.vw 107)))],mkH [(0,.var [.p (.sl 1 (List.map encI x_.1)),.p (pi x_.2.1)]),(107,.arr 3 (List.map enc_api_Standing x_.2.2))]⟩) ?hymark_Dice_Standings_j1 ?hxmark_Dice_Standings_j1
  case hymark_Dice_Standings_j1 =>
    rintro ⟨d1,d2,out⟩ H0
    try dsimp only at H0 ⊢
    unfold mark_Dice_Standings_j1 at H0
    refine lok_rt E0 (⟨29,mkS [(6,.x (.one (.vw 107)))],mkH [(0,.var [.p (.sl 1 (List.map encI d1)),.p (pi d2)]),(107,.arr 3 (List.map enc_api_Standing out))]⟩) ?_
    refine lok_ret ?_
    obtain rfl:=Option.some.inj H0
    try simp only [thenL,blockL]
    exact fin_au _ (.inr rfl) [0] (⟨29,mkS [(6,.x (.one (.p (.sl 3 (List.map enc_api_Standing out)))))],mkH [(0,.var [.p (.sl 1 (List.map encI d1)),.p (pi d2)])]⟩) rfl rfl (Imp.trans (imp_frz 107 3 (List.map enc_api_Standing out)) imp_au)
  case hxmark_Dice_Standings_j1 =>
    refine lok_rt E0 (⟨29,mkS [(0,.x (.one (.ptr 0 0))),(2,.x (.one (.p (pi n)))),(4,.x (.one (.ptr 104 0))),(7,.x (.one (.vw 107))),(8,.x (.one (.p (pi (1:Int)))))],mkH [(0,.var [.p (.sl 1 (List.map encI d.L)),.p (pi d.At)]),(104,.var [.p (.sl 3 (List.map enc_api_Unit a.Units)),.p (.sl 1 (List.map encI a.Bounds)),.p (pi a.Max)]),(107,.arr 3 (List.map enc_api_Standing ([] : List api_Standing)))]⟩) ?_
    refine lok_block ?_
    replace H0:=bind_some H0
    obtain ⟨v_0,hv_0,H0⟩:=H0
    refine lok_iter (fun x_ => ⟨29,mkS [(0,.x (.one (.ptr 0 0))),(2,.x (.one (.p (pi n)))),(4,.x (.one (.ptr 104 0))),(7,.x (.one (.vw 107))),(8,.x (.one (.p (pi x_.1))))],mkH [(0,.var [.p (.sl 1 (List.map encI x_.2.1)),.p (pi x_.2.2.1)]),(104,.var [.p (.sl 3 (List.map enc_api_Unit a.Units)),.p (.sl 1 (List.map encI a.Bounds)),.p (pi a.Max)]),(107,.arr 3 (List.map enc_api_Standing x_.2.2.2))]⟩) hv_0 imp_au ?_
    · rintro ⟨c,d3,d4,out1⟩ o_1 H1 k_1
      unfold mark_Dice_Standings_l3 at H1
      try dsimp only at H1 ⊢
      refine lok_seq ?_
      refine lok_rt E0 (⟨29,mkS [(0,.x (.one (.ptr 0 0))),(2,.x (.one (.p (pi n)))),(4,.x (.one (.ptr 104 0))),(7,.x (.one (.vw 107))),(8,.x (.one (.p (pi c)))),(11,.x (.one (.p (.val (.bool (decide (c ≤ n)))))))],mkH [(0,.var [.p (.sl 1 (List.map encI d3)),.p (pi d4)]),(104,.var [.p (.sl 3 (List.map enc_api_Unit a.Units)),.p (.sl 1 (List.map encI a.Bounds)),.p (pi a.Max)]),(107,.arr 3 (List.map enc_api_Standing out1))]⟩) ?_
      refine lok_c (decide (c ≤ n)) ?_ ?_
      · intro b_6
        replace H1:=cpos H1 b_6
        refine lok_skip ?_
        try simp only [thenL,blockL,↓reduceIte,reduceCtorEq]
        refine lok_join (fun x_ : (List Int) × Int × (List api_Standing) => mark_Dice_Standings_j2 c x_.1 x_.2.1 x_.2.2 = some o_1) (fun x_ => ⟨29,mkS [(0,.x (.one (.ptr 0 0))),(2,.x (.one (.p (pi n)))),(4,.x (.one (.ptr 104 0))),(7,.x (.one (.vw 107))),(8,.x (.one (.p (pi c))))],mkH [(0,.var [.p (.sl 1 (List.map encI x_.1)),.p (pi x_.2.1)]),(104,.var [.p (.sl 3 (List.map enc_api_Unit a.Units)),.p (.sl 1 (List.map encI a.Bounds)),.p (pi a.Max)]),(107,.arr 3 (List.map enc_api_Standing x_.2.2))]⟩) ?hymark_Dice_Standings_j2 ?hxmark_Dice_Standings_j2
        case hymark_Dice_Standings_j2 =>
          rintro ⟨d7,d8,out3⟩ H1
          try dsimp only at H1 ⊢
          unfold mark_Dice_Standings_j2 at H1
          refine lok_rl E0 (⟨29,mkS [(0,.x (.one (.ptr 0 0))),(2,.x (.one (.p (pi n)))),(4,.x (.one (.ptr 104 0))),(7,.x (.one (.vw 107))),(8,.x (.one (.p (pi (IntKind.i64.wrap (c + (1:Int)))))))],mkH [(0,.var [.p (.sl 1 (List.map encI d7)),.p (pi d8)]),(104,.var [.p (.sl 3 (List.map enc_api_Unit a.Units)),.p (.sl 1 (List.map encI a.Bounds)),.p (pi a.Max)]),(107,.arr 3 (List.map enc_api_Standing out3))]⟩) ?_
          try simp only [thenL,blockL,↓reduceIte,reduceCtorEq]
          exact ⟨((IntKind.i64.wrap (c + (1:Int))),d7,d8,out3),(Option.some.inj H1).symm,imp_au⟩
        case hxmark_Dice_Standings_j2 =>
          refine lok_block ?_
          replace H1:=bind_some H1
          obtain ⟨⟨y,y1⟩,h_1,H1⟩:=H1
          try dsimp only at H1
          refine lok_rt (Env.of E0 [⟨some 15,14,[.one (.ptr 0 0),.one (.p (pi (5:Int)))],[.var [.p (.sl 1 (List.map encI d3)),.p (pi d4)]],[.one (.p (pi y))],[some (.var [.p (.sl 1 (List.map encI y1.L)),.p (pi y1.At)])],True,fun _ => ok_mark_Dice_Next (mark_Dice.mk d3 d4) (5:Int) (y,y1) h_1,[]⟩]) (⟨29,mkS [(0,.x (.one (.ptr 0 0))),(2,.x (.one (.p (pi n)))),(4,.x (.one (.ptr 104 0))),(7,.x (.one (.vw 107))),(8,.x (.one (.p (pi c)))),(16,.x (.one (.p (.val (.bool (decide ((0:Int) < y)))))))],mkH [(0,.var [.p (.sl 1 (List.map encI y1.L)),.p (pi y1.At)]),(104,.var [.p (.sl 3 (List.map enc_api_Unit a.Units)),.p (.sl 1 (List.map encI a.Bounds)),.p (pi a.Max)]),(107,.arr 3 (List.map enc_api_Standing out1))]⟩) ?_
          refine lok_c (decide ((0:Int) < y)) ?_ ?_
          · intro b_5
            replace H1:=cpos H1 b_5
            replace H1:=bind_some H1
            obtain ⟨⟨y2,y3⟩,h_2,H1⟩:=H1
            try dsimp only at H1
            replace H1:=bind_some H1
            obtain ⟨⟨y4,y5⟩,h_3,H1⟩:=H1
            try dsimp only at H1
            replace H1:=req_some H1
            obtain ⟨q_4,H1⟩:=H1
            refine lok_rl (Env.of E0 [⟨some 21,15,[.one (.ptr 0 0),.agg [.p (.sl 3 (List.map enc_api_Unit a.Units)),.p (.sl 1 (List.map encI a.Bounds)),.p (pi a.Max)]],[.var [.p (.sl 1 (List.map encI y1.L)),.p (pi y1.At)]],[.one (.p (.sl 3 (List.map enc_api_UnitMark y2)))],[some (.var [.p (.sl 1 (List.map encI y3.L)),.p (pi y3.At)])],True,fun _ => ok_mark_Dice_Marks y1 a (y2,y3) h_2,[]⟩,
      ⟨some 24,16,[.one (.ptr 0 0),.one (.p (.sl 1 (List.map encI ([(0:Int),(0:Int),(20:Int),(50:Int)]))))],[.var [.p (.sl 1 (List.map encI y3.L)),.p (pi y3.At)]],[.one (.p (pi y4))],[some (.var [.p (.sl 1 (List.map encI y5.L)),.p (pi y5.At)])],True,fun _ => ok_mark_Dice_Pick y3 ([(0:Int),(0:Int),(20:Int),(50:Int)]) (y4,y5) h_3,[]⟩]) (⟨29,mkS [(0,.x (.one (.ptr 0 0))),(2,.x (.one (.p (pi n)))),(4,.x (.one (.ptr 104 0))),(7,.x (.one (.vw 107))),(8,.x (.one (.p (pi c))))],mkH [(0,.var [.p (.sl 1 (List.map encI y5.L)),.p (pi y5.At)]),(104,.var [.p (.sl 3 (List.map enc_api_Unit a.Units)),.p (.sl 1 (List.map encI a.Bounds)),.p (pi a.Max)]),(107,.arr 3 (List.map enc_api_Standing (out1 ++ [(api_Standing.mk c y2 y4)])))]⟩) ?_
            try simp only [thenL,blockL,↓reduceIte,reduceCtorEq]
            exact ⟨(y5.L,y5.At,(out1 ++ [(api_Standing.mk c y2 y4)])),H1,imp_au⟩
          · intro b_5
            replace H1:=cneg H1 b_5
            refine lok_skip ?_
            try simp only [thenL,blockL,↓reduceIte,reduceCtorEq]
            exact ⟨(y1.L,y1.At,out1),H1,imp_au⟩
      · intro b_6
        replace H1:=cneg H1 b_6
        refine lok_exit ?_
        try simp only [thenL,blockL,↓reduceIte,reduceCtorEq]
        have e_1:=k_1 _ (Option.some.inj H1).symm
        subst e_1
        try dsimp only at H0
        try simp only [thenL,blockL,↓reduceIte,reduceCtorEq]
        exact ⟨(d3,d4,out1),H0,imp_au⟩
theorem ok_law37_ResultEverybody (t : List Int) (r_ : Bool) (H0 : law37_ResultEverybody t = some r_) : CallOK Try.prog 7 [.one (.p (.sl 1 (List.map encI t)))] [] [.one (.p (.val (.bool r_)))] []:=by
  refine callOK (n:=120) (rs:=[.tmp 2]) (nb:=0) (V:=[]) Try.func7 rfl (by kernel_rfl) rfl rfl rfl rfl (Nat.le_of_ble_eq_true rfl) (by decide) ?_
  unfold law37_ResultEverybody at H0
  refine lok_rt E0 (⟨120,mkS [(0,.x (.one (.p (.sl 1 (List.map encI t)))))],mkH []⟩) ?_
  refine lok_seq ?_
  replace H0:=bind_some H0
  obtain ⟨y,h_0,H0⟩:=H0
  refine lok_rt (Env.of E0 [⟨some 15,10,[.one (.p (.sl 1 (List.map encI t)))],[],[.one (.p (.val (.bool y)))],[],True,fun _ => ok_mark_Light t y h_0,[]⟩]) (⟨120,mkS [(0,.x (.one (.p (.sl 1 (List.map encI t))))),(16,.x (.one (.p (.val (.bool (!y))))))],mkH []⟩) ?_
  refine lok_c (!y) ?_ ?_
  · intro b_19
    replace H0:=cpos H0 b_19
    replace H0:=bind_some H0
    obtain ⟨y1,h_1,H0⟩:=H0
    refine lok_rt (Env.of E0 [⟨some 17,30,[],[],[.one (.p (.val (.bool y1)))],[],True,fun _ => ok_law37_sane y1 h_1,[]⟩]) (⟨120,mkS [(2,.x (.one (.p (.val (.bool y1)))))],mkH []⟩) ?_
    refine lok_ret ?_
    obtain rfl:=Option.some.inj H0
    try simp only [thenL,blockL]
    exact fin_au _ (.inr rfl) [] (⟨120,mkS [(2,.x (.one (.p (.val (.bool y1)))))],mkH []⟩) rfl rfl imp_au
  · intro b_19
    replace H0:=cneg H0 b_19
    refine lok_skip ?_
    try simp only [thenL,blockL,↓reduceIte,reduceCtorEq]
    replace H0:=bind_some H0
    obtain ⟨y2,h_2,H0⟩:=H0
    refine lok_rt (Env.of E0 [⟨some 19,12,[.one (.p (.sl 1 (List.map encI t)))],[],[.one (.ptr 0 0)],[some (.var [.p (.sl 1 (List.map encI y2.L)),.p (pi y2.At)])],True,fun _ => ok_mark_Roll t y2 h_2,[]⟩]) (⟨120,mkS [(3,.x (.one (.ptr 1019 0)))],mkH [(1019,.var [.p (.sl 1 (List.map encI y2.L)),.p (pi y2.At)])]⟩) ?_
    replace H0:=bind_some H0
    obtain ⟨⟨y3,y4⟩,h_3,H0⟩:=H0
    try dsimp only at H0
    replace H0:=bind_some H0
    obtain ⟨⟨y5,y6⟩,h_4,H0⟩:=H0
    try dsimp only at H0
    refine lok_rt (Env.of E0 [⟨some 22,14,[.one (.ptr 0 0),.one (.p (pi (3:Int)))],[.var [.p (.sl 1 (List.map encI y2.L)),.p (pi y2.At)]],[.one (.p (pi y3))],[some (.var [.p (.sl 1 (List.map encI y4.L)),.p (pi y4.At)])],True,fun _ => ok_mark_Dice_Next y2 (3:Int) (y3,y4) h_3,[]⟩,
      ⟨some 24,13,[.one (.ptr 0 0),.one (.p (pi (IntKind.i64.wrap ((1:Int) + y3))))],[.var [.p (.sl 1 (List.map encI y4.L)),.p (pi y4.At)]],[.agg [.p (.sl 3 (List.map enc_api_Unit y5.Units)),.p (.sl 1 (List.map encI y5.Bounds)),.p (pi y5.Max)]],[some (.var [.p (.sl 1 (List.map encI y6.L)),.p (pi y6.At)])],True,fun _ => ok_mark_Dice_Award y4 (IntKind.i64.wrap ((1:Int) + y3)) (y5,y6) h_4,[]⟩]) (⟨120,mkS [(3,.x (.one (.ptr 1019 0))),(4,.x (.one (.ptr 104 0)))],mkH [(104,.var [.p (.sl 3 (List.map enc_api_Unit y5.Units)),.p (.sl 1 (List.map encI y5.Bounds)),.p (pi y5.Max)]),(1019,.var [.p (.sl 1 (List.map encI y6.L)),.p (pi y6.At)])]⟩) ?_
    replace H0:=bind_some H0
    obtain ⟨⟨y7,y8⟩,h_5,H0⟩:=H0
    try dsimp only at H0
    refine lok_rt (Env.of E0 [⟨some 27,31,[.one (.ptr 0 0),.agg [.p (.sl 3 (List.map enc_api_Unit y5.Units)),.p (.sl 1 (List.map encI y5.Bounds)),.p (pi y5.Max)],.one (.p (pi (6:Int)))],[.var [.p (.sl 1 (List.map encI y6.L)),.p (pi y6.At)]],[.one (.p (.sl 3 (List.map enc_api_Standing y7)))],[some (.var [.p (.sl 1 (List.map encI y8.L)),.p (pi y8.At)])],True,fun _ => ok_mark_Dice_Standings y6 y5 (6:Int) (y7,y8) h_5,[]⟩]) (⟨120,mkS [(4,.x (.one (.ptr 104 0))),(5,.x (.one (.p (.sl 3 (List.map enc_api_Standing y7)))))],mkH [(104,.var [.p (.sl 3 (List.map enc_api_Unit y5.Units)),.p (.sl 1 (List.map encI y5.Bounds)),.p (pi y5.Max)])]⟩) ?_
    replace H0:=bind_some H0
    obtain ⟨⟨y9,y10⟩,h_6,H0⟩:=H0
    try dsimp only at H0
    refine lok_rt (Env.of E0 [⟨some 31,32,[.agg [.p (.sl 3 (List.map enc_api_Unit y5.Units)),.p (.sl 1 (List.map encI y5.Bounds)),.p (pi y5.Max)],.one (.p (.sl 3 (List.map enc_api_Standing y7)))],[],[.one (.p (.sl 5 (List.map enc_api_Outcome y9))),.one (.p (pi y10))],[],True,fun _ => ok_result_Compute y5 y7 (y9,y10) h_6,[]⟩]) (⟨120,mkS [(4,.x (.one (.ptr 104 0))),(5,.x (.one (.p (.sl 3 (List.map enc_api_Standing y7))))),(6,.x (.one (.p (.sl 5 (List.map enc_api_Outcome y9))))),(7,.x (.one (.p (pi y10))))],mkH [(104,.var [.p (.sl 3 (List.map enc_api_Unit y5.Units)),.p (.sl 1 (List.map encI y5.Bounds)),.p (pi y5.Max)])]⟩) ?_
    refine lok_seq ?_
    refine lok_rt E0 (⟨120,mkS [(4,.x (.one (.ptr 104 0))),(5,.x (.one (.p (.sl 3 (List.map enc_api_Standing y7))))),(6,.x (.one (.p (.sl 5 (List.map enc_api_Outcome y9))))),(42,.x (.one (.p (.val (.bool ((y10 != (0:Int)) || ((y9.length:Int) != (y7.length:Int))))))))],mkH [(104,.var [.p (.sl 3 (List.map enc_api_Unit y5.Units)),.p (.sl 1 (List.map encI y5.Bounds)),.p (pi y5.Max)])]⟩) ?_
    refine lok_c ((y10 != (0:Int)) || ((y9.length:Int) != (y7.length:Int))) ?_ ?_
    · intro b_18
      replace H0:=cpos H0 b_18
      refine lok_rt E0 (⟨120,mkS [(2,.x (.one (.p (.val (.bool false)))))],mkH []⟩) ?_
      refine lok_ret ?_
      obtain rfl:=Option.some.inj H0
      try simp only [thenL,blockL]
      exact fin_au _ (.inr rfl) [] (⟨120,mkS [(2,.x (.one (.p (.val (.bool false)))))],mkH []⟩) rfl rfl imp_au
    · intro b_18
      replace H0:=cneg H0 b_18
      refine lok_skip ?_
      try simp only [thenL,blockL,↓reduceIte,reduceCtorEq]
      refine lok_join (fun x_ : Unit => law37_ResultEverybody_j1 y7 y9 = some r_) (fun x_ => ⟨120,mkS [(5,.x (.one (.p (.sl 3 (List.map enc_api_Standing y7))))),(6,.x (.one (.p (.sl 5 (List.map enc_api_Outcome y9)))))],mkH []⟩) ?hylaw37_ResultEverybody_j1 ?hxlaw37_ResultEverybody_j1
      case hylaw37_ResultEverybody_j1 =>
        rintro _ H0
        try dsimp only at H0 ⊢
        unfold law37_ResultEverybody_j1 at H0
        replace H0:=bind_some H0
        obtain ⟨y11,h_7,H0⟩:=H0
        replace H0:=bind_some H0
        obtain ⟨y12,h_8,H0⟩:=H0
        replace H0:=bind_some H0
        obtain ⟨y13,h_9,H0⟩:=H0
        replace H0:=req_some H0
        obtain ⟨q_10,H0⟩:=H0
        refine lok_rt (Env.of E0 [⟨some 107,33,[.one (.p (.sl 5 (List.map enc_api_Outcome y9))),.one (.p (pi (0:Int)))],[],[.one (.p (pi y11))],[],True,fun _ => ok_result_Count y9 (0:Int) y11 h_7,[]⟩,
      ⟨some 109,33,[.one (.p (.sl 5 (List.map enc_api_Outcome y9))),.one (.p (pi (1:Int)))],[],[.one (.p (pi y12))],[],True,fun _ => ok_result_Count y9 (1:Int) y12 h_8,[]⟩,
      ⟨some 112,33,[.one (.p (.sl 5 (List.map enc_api_Outcome y9))),.one (.p (pi (2:Int)))],[],[.one (.p (pi y13))],[],True,fun _ => ok_result_Count y9 (2:Int) y13 h_9,[]⟩,
      ⟨some 118,30,[],[],[.one (.p (.val (.bool ((law37_sane).getD default))))],[],(law37_sane).isSome = true,fun h => ok_law37_sane _ (isSome_get h),[]⟩]) (⟨120,mkS [(2,.x (.one (.p (.val (.bool (((IntKind.i64.wrap ((IntKind.i64.wrap (y11 + y12)) + y13)) == (y7.length:Int)) && ((law37_sane).getD default)))))))],mkH []⟩) ?_
        refine lok_ret ?_
        obtain rfl:=Option.some.inj H0
        try simp only [thenL,blockL]
        exact fin_au _ (.inr rfl) [] (⟨120,mkS [(2,.x (.one (.p (.val (.bool (((IntKind.i64.wrap ((IntKind.i64.wrap (y11 + y12)) + y13)) == (y7.length:Int)) && ((law37_sane).getD default)))))))],mkH []⟩) rfl rfl imp_au
      case hxlaw37_ResultEverybody_j1 =>
        refine lok_rt E0 (⟨120,mkS [(4,.x (.one (.ptr 104 0))),(5,.x (.one (.p (.sl 3 (List.map enc_api_Standing y7))))),(6,.x (.one (.p (.sl 5 (List.map enc_api_Outcome y9))))),(43,.x (.one (.p (.sl 5 (List.map enc_api_Outcome y9))))),(44,.x (.one (.p (pi (y9.length:Int))))),(45,.x (.one (.p (pi (0:Int)))))],mkH [(104,.var [.p (.sl 3 (List.map enc_api_Unit y5.Units)),.p (.sl 1 (List.map encI y5.Bounds)),.p (pi y5.Max)])]⟩) ?_
        refine lok_block ?_
        replace H0:=bind_some H0
        obtain ⟨v_11,hv_11,H0⟩:=H0
        refine lok_iter (fun x_ => ⟨120,mkS [(4,.x (.one (.ptr 104 0))),(5,.x (.one (.p (.sl 3 (List.map enc_api_Standing y7))))),(6,.x (.one (.p (.sl 5 (List.map enc_api_Outcome y9))))),(43,.x (.one (.p (.sl 5 (List.map enc_api_Outcome y9))))),(44,.x (.one (.p (pi (y9.length:Int))))),(45,.x (.one (.p (pi x_))))],mkH [(104,.var [.p (.sl 3 (List.map enc_api_Unit y5.Units)),.p (.sl 1 (List.map encI y5.Bounds)),.p (pi y5.Max)])]⟩) hv_11 imp_au ?_
        · rintro v o_1 H1 k_1
          unfold law37_ResultEverybody_l2 at H1
          try dsimp only at H1 ⊢
          refine lok_rt E0 (⟨120,mkS [(4,.x (.one (.ptr 104 0))),(5,.x (.one (.p (.sl 3 (List.map enc_api_Standing y7))))),(6,.x (.one (.p (.sl 5 (List.map enc_api_Outcome y9))))),(43,.x (.one (.p (.sl 5 (List.map enc_api_Outcome y9))))),(44,.x (.one (.p (pi (y9.length:Int))))),(45,.x (.one (.p (pi v)))),(46,.x (.one (.p (.val (.bool (decide (v < (y9.length:Int))))))))],mkH [(104,.var [.p (.sl 3 (List.map enc_api_Unit y5.Units)),.p (.sl 1 (List.map encI y5.Bounds)),.p (pi y5.Max)])]⟩) ?_
          refine lok_seq ?_
          refine lok_c (decide (v < (y9.length:Int))) ?_ ?_
          · intro b_17
            replace H1:=cpos H1 b_17
            refine lok_skip ?_
            try simp only [thenL,blockL,↓reduceIte,reduceCtorEq]
            refine lok_seq ?_
            refine lok_block ?_
            replace H1:=req_some H1
            obtain ⟨q_16,H1⟩:=H1
            refine lok_rt E0 (⟨120,mkS [(4,.x (.one (.ptr 104 0))),(5,.x (.one (.p (.sl 3 (List.map enc_api_Standing y7))))),(6,.x (.one (.p (.sl 5 (List.map enc_api_Outcome y9))))),(8,.x (.one (.p (pi v)))),(9,.x (.one (.ptr 109 0))),(43,.x (.one (.p (.sl 5 (List.map enc_api_Outcome y9))))),(44,.x (.one (.p (pi (y9.length:Int))))),(45,.x (.one (.p (pi v))))],mkH [(104,.var [.p (.sl 3 (List.map enc_api_Unit y5.Units)),.p (.sl 1 (List.map encI y5.Bounds)),.p (pi y5.Max)]),(109,.var [.p (pi ((ix y9 v).Candidate)),.p (pi ((ix y9 v).Kind)),.p (pi ((ix y9 v).Grade)),.p (pi ((ix y9 v).Total)),.p (pi ((ix y9 v).Reason))])]⟩) ?_
            replace H1:=req_some H1
            obtain ⟨q_15,H1⟩:=H1
            replace H1:=bind_some H1
            obtain ⟨⟨y14,y15,y16,y17⟩,h_12,H1⟩:=H1
            try dsimp only at H1
            refine lok_dt (Env.of E0 [⟨some 62,26,[.agg [.p (.sl 3 (List.map enc_api_Unit y5.Units)),.p (.sl 1 (List.map encI y5.Bounds)),.p (pi y5.Max)],.one (.p (.sl 3 (List.map enc_api_UnitMark ((ix y7 v).Units)))),.one (.p (pi ((ix y7 v).Special)))],[],[.one (.p (pi y14)),.one (.p (pi y15)),.one (.p (pi y16)),.one (.p (pi y17))],[],True,fun _ => ok_ref36_Decide y5 ((ix y7 v).Units) ((ix y7 v).Special) (y14,y15,y16,y17) h_12,[]⟩]) 20 (⟨120,mkS [(4,.x (.one (.ptr 104 0))),(5,.x (.one (.p (.sl 3 (List.map enc_api_Standing y7))))),(6,.x (.one (.p (.sl 5 (List.map enc_api_Outcome y9))))),(8,.x (.one (.p (pi v)))),(9,.x (.one (.ptr 109 0))),(10,.x (.one (.p (pi y14)))),(11,.x (.one (.p (pi y15)))),(12,.x (.one (.p (pi y16)))),(13,.x (.one (.p (pi y17)))),(43,.x (.one (.p (.sl 5 (List.map enc_api_Outcome y9))))),(44,.x (.one (.p (pi (y9.length:Int))))),(45,.x (.one (.p (pi v))))],mkH [(104,.var [.p (.sl 3 (List.map enc_api_Unit y5.Units)),.p (.sl 1 (List.map encI y5.Bounds)),.p (pi y5.Max)]),(109,.var [.p (pi ((ix y9 v).Candidate)),.p (pi ((ix y9 v).Kind)),.p (pi ((ix y9 v).Grade)),.p (pi ((ix y9 v).Total)),.p (pi ((ix y9 v).Reason))])]⟩) (by kernel_rfl) (by kernel_rfl) ?_
            replace H1:=req_some H1
            obtain ⟨q_14,H1⟩:=H1
            refine lok_dt E0 36 (⟨120,mkS [(4,.x (.one (.ptr 104 0))),(5,.x (.one (.p (.sl 3 (List.map enc_api_Standing y7))))),(6,.x (.one (.p (.sl 5 (List.map enc_api_Outcome y9))))),(43,.x (.one (.p (.sl 5 (List.map enc_api_Outcome y9))))),(44,.x (.one (.p (pi (y9.length:Int))))),(45,.x (.one (.p (pi v)))),(104,.x (.one (.p (.val (.bool ((((((y17 != (0:Int)) || ((ix y9 v).Candidate != (ix y7 v).Candidate)) || ((ix y9 v).Kind != y14)) || ((ix y9 v).Grade != y15)) || ((ix y9 v).Total != y16)) || (!(((ix y9 v).Reason == (2:Int)) == (y14 == (2:Int))))))))))],mkH [(104,.var [.p (.sl 3 (List.map enc_api_Unit y5.Units)),.p (.sl 1 (List.map encI y5.Bounds)),.p (pi y5.Max)])]⟩) (by kernel_rfl) (by kernel_rfl) ?_
            refine lok_c ((((((y17 != (0:Int)) || ((ix y9 v).Candidate != (ix y7 v).Candidate)) || ((ix y9 v).Kind != y14)) || ((ix y9 v).Grade != y15)) || ((ix y9 v).Total != y16)) || (!(((ix y9 v).Reason == (2:Int)) == (y14 == (2:Int))))) ?_ ?_
            · intro b_13
              replace H1:=cpos H1 b_13
              refine lok_rt E0 (⟨120,mkS [(2,.x (.one (.p (.val (.bool false)))))],mkH []⟩) ?_
              refine lok_ret ?_
              try simp only [thenL,blockL,↓reduceIte,reduceCtorEq]
              have e_1:=k_1 _ (Option.some.inj H1).symm
              subst e_1
              try dsimp only at H0
              obtain rfl:=Option.some.inj H0
              try simp only [thenL,blockL]
              exact fin_au _ (.inr rfl) [] (⟨120,mkS [(2,.x (.one (.p (.val (.bool false)))))],mkH []⟩) rfl rfl imp_au
            · intro b_13
              replace H1:=cneg H1 b_13
              refine lok_skip ?_
              try simp only [thenL,blockL,↓reduceIte,reduceCtorEq]
              refine lok_rl E0 (⟨120,mkS [(4,.x (.one (.ptr 104 0))),(5,.x (.one (.p (.sl 3 (List.map enc_api_Standing y7))))),(6,.x (.one (.p (.sl 5 (List.map enc_api_Outcome y9))))),(43,.x (.one (.p (.sl 5 (List.map enc_api_Outcome y9))))),(44,.x (.one (.p (pi (y9.length:Int))))),(45,.x (.one (.p (pi (IntKind.i64.wrap (v + (1:Int)))))))],mkH [(104,.var [.p (.sl 3 (List.map enc_api_Unit y5.Units)),.p (.sl 1 (List.map encI y5.Bounds)),.p (pi y5.Max)])]⟩) ?_
              try simp only [thenL,blockL,↓reduceIte,reduceCtorEq]
              exact ⟨(IntKind.i64.wrap (v + (1:Int))),(Option.some.inj H1).symm,imp_au⟩
          · intro b_17
            replace H1:=cneg H1 b_17
            refine lok_exit ?_
            try simp only [thenL,blockL,↓reduceIte,reduceCtorEq]
            have e_1:=k_1 _ (Option.some.inj H1).symm
            subst e_1
            try dsimp only at H0
            try simp only [thenL,blockL,↓reduceIte,reduceCtorEq]
            exact ⟨(),H0,imp_au⟩
end Go.LS
