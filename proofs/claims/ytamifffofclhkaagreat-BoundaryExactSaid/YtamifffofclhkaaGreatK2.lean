/-
  The walks: the functions compute what the plain ones say. Condition: the plain function has a value.
-/
import Derived.Test.YtamifffofclhkaaGreatK1
import Derived.Test.YtamifffofclhkaaGreatD2
namespace Go.LS
open Go.Proofs
set_option linter.all false
set_option linter.unusedSimpArgs false
set_option linter.unusedVariables false
set_option maxRecDepth 20000

theorem ok_ratio_wide_compare (a:ratio_wide) (b:ratio_wide) (r_:Int) (H0:ratio_wide_compare a b=some r_):CallOK Tryz.prog 77 [.agg [.p (.val (.int .u64 a.hi)),.p (.val (.int .u64 a.lo))],.agg [.p (.val (.int .u64 b.hi)),.p (.val (.int .u64 b.lo))]] [] [.one (.p (pi r_))] []:=by
  refine callOK (n:=19) (rs:=[.tmp 4]) (nb:=0) (V:=[]) Tryz.func77 rfl (by kernel_rfl) rfl rfl rfl rfl (Nat.le_of_ble_eq_true rfl) (by decide) ?_
  unfold ratio_wide_compare at H0
  refine lok_rt E0 (⟨19,mkS [(2,.x (.one (.ptr 102 0))),(3,.x (.one (.ptr 103 0)))],mkH [(102,.var [.p (.val (.int .u64 a.hi)),.p (.val (.int .u64 a.lo))]),(103,.var [.p (.val (.int .u64 b.hi)),.p (.val (.int .u64 b.lo))])]⟩) ?_
  refine lok_seq ?_
  replace H0:=bind_some H0
  obtain ⟨y,h_0,H0⟩:=H0
  refine lok_rt (Env.of E0 [⟨some 10,99,[.one (.p (.val (.int .u64 a.hi))),.one (.p (.val (.int .u64 b.hi)))],[],[.one (.p (pi y))],[],True,fun _ => ok_cmp_Compare_uint64 a.hi b.hi y h_0,[]⟩]) (⟨19,mkS [(2,.x (.one (.ptr 102 0))),(3,.x (.one (.ptr 103 0))),(5,.x (.one (.p (pi y))))],mkH [(102,.var [.p (.val (.int .u64 a.hi)),.p (.val (.int .u64 a.lo))]),(103,.var [.p (.val (.int .u64 b.hi)),.p (.val (.int .u64 b.lo))])]⟩) ?_
  refine lok_rt E0 (⟨19,mkS [(2,.x (.one (.ptr 102 0))),(3,.x (.one (.ptr 103 0))),(5,.x (.one (.p (pi y)))),(12,.x (.one (.p (.val (.bool (y != (0:Int)))))))],mkH [(102,.var [.p (.val (.int .u64 a.hi)),.p (.val (.int .u64 a.lo))]),(103,.var [.p (.val (.int .u64 b.hi)),.p (.val (.int .u64 b.lo))])]⟩) ?_
  refine lok_c (y != (0:Int)) ?_ ?_
  · intro b_2
    replace H0:=cpos H0 b_2
    refine lok_rt E0 (⟨19,mkS [(4,.x (.one (.p (pi y))))],mkH []⟩) ?_
    refine lok_ret ?_
    obtain rfl:=Option.some.inj H0
    try simp only [thenL,blockL]
    exact fin_au _ (.inr rfl) [] (⟨19,mkS [(4,.x (.one (.p (pi y))))],mkH []⟩) rfl rfl imp_au
  · intro b_2
    replace H0:=cneg H0 b_2
    refine lok_skip ?_
    try simp only [thenL,blockL,↓reduceIte,reduceCtorEq]
    replace H0:=bind_some H0
    obtain ⟨y1,h_1,H0⟩:=H0
    refine lok_rt (Env.of E0 [⟨some 18,99,[.one (.p (.val (.int .u64 a.lo))),.one (.p (.val (.int .u64 b.lo)))],[],[.one (.p (pi y1))],[],True,fun _ => ok_cmp_Compare_uint64 a.lo b.lo y1 h_1,[]⟩]) (⟨19,mkS [(4,.x (.one (.p (pi y1))))],mkH []⟩) ?_
    refine lok_ret ?_
    obtain rfl:=Option.some.inj H0
    try simp only [thenL,blockL]
    exact fin_au _ (.inr rfl) [] (⟨19,mkS [(4,.x (.one (.p (pi y1))))],mkH []⟩) rfl rfl imp_au
set_option maxHeartbeats 4000000 in
theorem ok_ratio_Compare (a:api_Ratio) (b:api_Ratio) (r_:Int) (H0:ratio_Compare a b=some r_):CallOK Tryz.prog 59 [.agg [.p (pi a.Num),.p (pi a.Den)],.agg [.p (pi b.Num),.p (pi b.Den)]] [] [.one (.p (pi r_))] []:=by
  refine callOK (n:=50) (rs:=[.tmp 4]) (nb:=0) (V:=[]) Tryz.func59 rfl (by kernel_rfl) rfl rfl rfl rfl (Nat.le_of_ble_eq_true rfl) (by decide) ?_
  unfold ratio_Compare at H0
  refine lok_rt E0 (⟨50,mkS [(2,.x (.one (.ptr 102 0))),(3,.x (.one (.ptr 103 0)))],mkH [(102,.var [.p (pi a.Num),.p (pi a.Den)]),(103,.var [.p (pi b.Num),.p (pi b.Den)])]⟩) ?_
  refine lok_seq ?_
  replace H0:=bind_some H0
  obtain ⟨y,h_0,H0⟩:=H0
  replace H0:=req_some H0
  obtain ⟨q_9,H0⟩:=H0
  refine lok_rt (Env.of E0 [⟨some 8,58,[.agg [.p (pi a.Num),.p (pi a.Den)]],[],[.one (.p (.val (.bool y)))],[],True,fun _ => ok_ratio_Valid a y h_0,[]⟩,
      ⟨some 12,58,[.agg [.p (pi b.Num),.p (pi b.Den)]],[],[.one (.p (.val (.bool ((ratio_Valid b).getD default))))],[],(ratio_Valid b).isSome=true,fun h => ok_ratio_Valid b _ (isSome_get h),[]⟩]) (⟨50,mkS [(2,.x (.one (.ptr 102 0))),(3,.x (.one (.ptr 103 0))),(14,.x (.one (.p (.val (.bool ((!y)||(!((ratio_Valid b).getD default))))))))],mkH [(102,.var [.p (pi a.Num),.p (pi a.Den)]),(103,.var [.p (pi b.Num),.p (pi b.Den)])]⟩) ?_
  refine lok_c ((!y)||(!((ratio_Valid b).getD default))) ?_ ?_
  · intro b_8
    replace H0:=cpos H0 b_8
    refine lok_rt E0 (⟨50,mkS [(4,.x (.one (.p (pi (0:Int)))))],mkH []⟩) ?_
    refine lok_ret ?_
    obtain rfl:=Option.some.inj H0
    try simp only [thenL,blockL]
    exact fin_au _ (.inr rfl) [] (⟨50,mkS [(4,.x (.one (.p (pi (0:Int)))))],mkH []⟩) rfl rfl imp_au
  · intro b_8
    replace H0:=cneg H0 b_8
    refine lok_skip ?_
    try simp only [thenL,blockL,↓reduceIte,reduceCtorEq]
    replace H0:=bind_some H0
    obtain ⟨y1,h_1,H0⟩:=H0
    replace H0:=bind_some H0
    obtain ⟨y2,h_2,H0⟩:=H0
    refine lok_et (Env.of E0 [⟨some 20,76,[.one (.p (pi a.Num)),.one (.p (.val (.int .u64 (IntKind.u64.wrap b.Den))))],[],[.agg [.p (.val (.bool y1.neg)),.p (.val (.int .u64 y1.abs.hi)),.p (.val (.int .u64 y1.abs.lo))]],[],True,fun _ => ok_ratio_signedProduct a.Num (IntKind.u64.wrap b.Den) y1 h_1,[]⟩,
      ⟨some 26,76,[.one (.p (pi b.Num)),.one (.p (.val (.int .u64 (IntKind.u64.wrap a.Den))))],[],[.agg [.p (.val (.bool y2.neg)),.p (.val (.int .u64 y2.abs.hi)),.p (.val (.int .u64 y2.abs.lo))]],[],True,fun _ => ok_ratio_signedProduct b.Num (IntKind.u64.wrap a.Den) y2 h_2,[]⟩]) 50 [⟨[(2,.x (.one (.ptr 102 0)))],[],[(15,.x (.one (.ptr 102 0)))],[],none⟩,
      ⟨[(15,.x (.one (.ptr 102 0)))],[(102,some (.var [.p (pi a.Num),.p (pi a.Den)]))],[(16,.x (.one (.p (pi a.Num))))],[],none⟩,
      ⟨[(3,.x (.one (.ptr 103 0)))],[],[(17,.x (.one (.ptr 103 1)))],[],none⟩,
      ⟨[(17,.x (.one (.ptr 103 1)))],[(103,some (.var [.p (pi b.Num),.p (pi b.Den)]))],[(18,.x (.one (.p (pi b.Den))))],[],none⟩,
      ⟨[(18,.x (.one (.p (pi b.Den))))],[],[(19,.x (.one (.p (.val (.int .u64 (IntKind.u64.wrap b.Den))))))],[],none⟩,
      ⟨[(16,.x (.one (.p (pi a.Num)))),(19,.x (.one (.p (.val (.int .u64 (IntKind.u64.wrap b.Den))))))],[],[(20,.x (.agg [.p (.val (.bool y1.neg)),.p (.val (.int .u64 y1.abs.hi)),.p (.val (.int .u64 y1.abs.lo))]))],[],none⟩,
      ⟨[(3,.x (.one (.ptr 103 0)))],[],[(21,.x (.one (.ptr 103 0)))],[],none⟩,
      ⟨[(21,.x (.one (.ptr 103 0)))],[(103,some (.var [.p (pi b.Num),.p (pi b.Den)]))],[(22,.x (.one (.p (pi b.Num))))],[],none⟩,
      ⟨[(2,.x (.one (.ptr 102 0)))],[],[(23,.x (.one (.ptr 102 1)))],[],none⟩,
      ⟨[(23,.x (.one (.ptr 102 1)))],[(102,some (.var [.p (pi a.Num),.p (pi a.Den)]))],[(24,.x (.one (.p (pi a.Den))))],[],none⟩,
      ⟨[(24,.x (.one (.p (pi a.Den))))],[],[(25,.x (.one (.p (.val (.int .u64 (IntKind.u64.wrap a.Den))))))],[],none⟩,
      ⟨[(22,.x (.one (.p (pi b.Num)))),(25,.x (.one (.p (.val (.int .u64 (IntKind.u64.wrap a.Den))))))],[],[(26,.x (.agg [.p (.val (.bool y2.neg)),.p (.val (.int .u64 y2.abs.hi)),.p (.val (.int .u64 y2.abs.lo))]))],[],none⟩,
      ⟨[],[(105,none)],[(5,.x (.one (.ptr 105 0)))],[(105,some (.var [.p (.val (.bool false)),.p (.val (.int .u64 (0:Int))),.p (.val (.int .u64 (0:Int)))]))],some 105⟩,
      ⟨[],[(106,none)],[(6,.x (.one (.ptr 106 0)))],[(106,some (.var [.p (.val (.bool false)),.p (.val (.int .u64 (0:Int))),.p (.val (.int .u64 (0:Int)))]))],some 106⟩] (⟨50,mkS [(5,.x (.one (.ptr 105 0))),(6,.x (.one (.ptr 106 0)))],mkH [(105,.var [.p (.val (.bool y1.neg)),.p (.val (.int .u64 y1.abs.hi)),.p (.val (.int .u64 y1.abs.lo))]),(106,.var [.p (.val (.bool y2.neg)),.p (.val (.int .u64 y2.abs.hi)),.p (.val (.int .u64 y2.abs.lo))])]⟩) (by kernel_rfl) (by kernel_rfl) (by kernel_rfl) rfl rfl rfl ?_
    refine lok_seq ?_
    refine lok_block ?_
    refine lok_rt E0 (⟨50,mkS [(5,.x (.one (.ptr 105 0))),(6,.x (.one (.ptr 106 0))),(27,.x (.one (.p (.val (.bool (y1.neg&&y2.neg))))))],mkH [(105,.var [.p (.val (.bool y1.neg)),.p (.val (.int .u64 y1.abs.hi)),.p (.val (.int .u64 y1.abs.lo))]),(106,.var [.p (.val (.bool y2.neg)),.p (.val (.int .u64 y2.abs.hi)),.p (.val (.int .u64 y2.abs.lo))])]⟩) ?_
    refine lok_c (y1.neg&&y2.neg) ?_ ?_
    · intro b_7
      replace H0:=cpos H0 b_7
      replace H0:=bind_some H0
      obtain ⟨y3,h_3,H0⟩:=H0
      refine lok_rt (Env.of E0 [⟨some 38,77,[.agg [.p (.val (.int .u64 y2.abs.hi)),.p (.val (.int .u64 y2.abs.lo))],.agg [.p (.val (.int .u64 y1.abs.hi)),.p (.val (.int .u64 y1.abs.lo))]],[],[.one (.p (pi y3))],[],True,fun _ => ok_ratio_wide_compare y2.abs y1.abs y3 h_3,[]⟩]) (⟨50,mkS [(4,.x (.one (.p (pi y3))))],mkH []⟩) ?_
      refine lok_ret ?_
      obtain rfl:=Option.some.inj H0
      try simp only [thenL,blockL]
      exact fin_au _ (.inr rfl) [] (⟨50,mkS [(4,.x (.one (.p (pi y3))))],mkH []⟩) rfl rfl imp_au
    · intro b_7
      replace H0:=cneg H0 b_7
      refine lok_rt E0 (⟨50,mkS [(5,.x (.one (.ptr 105 0))),(6,.x (.one (.ptr 106 0))),(39,.x (.one (.p (.val (.bool y1.neg)))))],mkH [(105,.var [.p (.val (.bool y1.neg)),.p (.val (.int .u64 y1.abs.hi)),.p (.val (.int .u64 y1.abs.lo))]),(106,.var [.p (.val (.bool y2.neg)),.p (.val (.int .u64 y2.abs.hi)),.p (.val (.int .u64 y2.abs.lo))])]⟩) ?_
      refine lok_c y1.neg ?_ ?_
      · intro b_6
        replace H0:=cpos H0 b_6
        refine lok_rt E0 (⟨50,mkS [(4,.x (.one (.p (pi (-1:Int)))))],mkH []⟩) ?_
        refine lok_ret ?_
        obtain rfl:=Option.some.inj H0
        try simp only [thenL,blockL]
        exact fin_au _ (.inr rfl) [] (⟨50,mkS [(4,.x (.one (.p (pi (-1:Int)))))],mkH []⟩) rfl rfl imp_au
      · intro b_6
        replace H0:=cneg H0 b_6
        refine lok_rt E0 (⟨50,mkS [(5,.x (.one (.ptr 105 0))),(6,.x (.one (.ptr 106 0))),(42,.x (.one (.p (.val (.bool y2.neg)))))],mkH [(105,.var [.p (.val (.bool y1.neg)),.p (.val (.int .u64 y1.abs.hi)),.p (.val (.int .u64 y1.abs.lo))]),(106,.var [.p (.val (.bool y2.neg)),.p (.val (.int .u64 y2.abs.hi)),.p (.val (.int .u64 y2.abs.lo))])]⟩) ?_
        refine lok_c y2.neg ?_ ?_
        · intro b_5
          replace H0:=cpos H0 b_5
          refine lok_rt E0 (⟨50,mkS [(4,.x (.one (.p (pi (1:Int)))))],mkH []⟩) ?_
          refine lok_ret ?_
          obtain rfl:=Option.some.inj H0
          try simp only [thenL,blockL]
          exact fin_au _ (.inr rfl) [] (⟨50,mkS [(4,.x (.one (.p (pi (1:Int)))))],mkH []⟩) rfl rfl imp_au
        · intro b_5
          replace H0:=cneg H0 b_5
          refine lok_skip ?_
          try simp only [thenL,blockL,↓reduceIte,reduceCtorEq]
          replace H0:=bind_some H0
          obtain ⟨y4,h_4,H0⟩:=H0
          refine lok_rt (Env.of E0 [⟨some 49,77,[.agg [.p (.val (.int .u64 y1.abs.hi)),.p (.val (.int .u64 y1.abs.lo))],.agg [.p (.val (.int .u64 y2.abs.hi)),.p (.val (.int .u64 y2.abs.lo))]],[],[.one (.p (pi y4))],[],True,fun _ => ok_ratio_wide_compare y1.abs y2.abs y4 h_4,[]⟩]) (⟨50,mkS [(4,.x (.one (.p (pi y4))))],mkH []⟩) ?_
          refine lok_ret ?_
          obtain rfl:=Option.some.inj H0
          try simp only [thenL,blockL]
          exact fin_au _ (.inr rfl) [] (⟨50,mkS [(4,.x (.one (.p (pi y4))))],mkH []⟩) rfl rfl imp_au
theorem ok_boundary_compareShare (part:Int) (all:Int) (share:api_Ratio) (r_:Int) (H0:boundary_compareShare part all share=some r_):CallOK Tryz.prog 43 [.one (.p (pi part)),.one (.p (pi all)),.agg [.p (pi share.Num),.p (pi share.Den)]] [] [.one (.p (pi r_))] []:=by
  refine callOK (n:=18) (rs:=[.tmp 6]) (nb:=0) (V:=[]) Tryz.func43 rfl (by kernel_rfl) rfl rfl rfl rfl (Nat.le_of_ble_eq_true rfl) (by decide) ?_
  unfold boundary_compareShare at H0
  refine lok_rt E0 (⟨18,mkS [(0,.x (.one (.p (pi part)))),(1,.x (.one (.p (pi all)))),(5,.x (.one (.ptr 105 0)))],mkH [(105,.var [.p (pi share.Num),.p (pi share.Den)])]⟩) ?_
  replace H0:=bind_some H0
  obtain ⟨⟨y,y1⟩,h_0,H0⟩:=H0
  try dsimp only at H0
  refine lok_rt (Env.of E0 [⟨some 12,35,[.one (.p (pi part)),.one (.p (pi all))],[],[.agg [.p (pi y.Num),.p (pi y.Den)],.one (.p (pi y1))],[],True,fun _ => ok_ratio_New part all (y,y1) h_0,[]⟩]) (⟨18,mkS [(5,.x (.one (.ptr 105 0))),(7,.x (.one (.ptr 107 0)))],mkH [(105,.var [.p (pi share.Num),.p (pi share.Den)]),(107,.var [.p (pi y.Num),.p (pi y.Den)])]⟩) ?_
  replace H0:=bind_some H0
  obtain ⟨y2,h_1,H0⟩:=H0
  refine lok_rt (Env.of E0 [⟨some 17,59,[.agg [.p (pi y.Num),.p (pi y.Den)],.agg [.p (pi share.Num),.p (pi share.Den)]],[],[.one (.p (pi y2))],[],True,fun _ => ok_ratio_Compare y share y2 h_1,[]⟩]) (⟨18,mkS [(6,.x (.one (.p (pi y2))))],mkH []⟩) ?_
  refine lok_ret ?_
  obtain rfl:=Option.some.inj H0
  try simp only [thenL,blockL]
  exact fin_au _ (.inr rfl) [] (⟨18,mkS [(6,.x (.one (.p (pi y2))))],mkH []⟩) rfl rfl imp_au
theorem ok_boundary_nearest (d:api_Distribution) (share:api_Ratio) (r_:Int) (H0:boundary_nearest d share=some r_):CallOK Tryz.prog 36 [.agg [.p (.sl 1 (List.map encI d.Counts))],.agg [.p (pi share.Num),.p (pi share.Den)]] [] [.one (.p (pi r_))] []:=by
  refine callOK (n:=42) (rs:=[.tmp 4]) (nb:=0) (V:=[]) Tryz.func36 rfl (by kernel_rfl) rfl rfl rfl rfl (Nat.le_of_ble_eq_true rfl) (by decide) ?_
  unfold boundary_nearest at H0
  refine lok_rt E0 (⟨42,mkS [(2,.x (.one (.ptr 102 0))),(3,.x (.one (.ptr 103 0)))],mkH [(102,.var [.p (.sl 1 (List.map encI d.Counts))]),(103,.var [.p (pi share.Num),.p (pi share.Den)])]⟩) ?_
  replace H0:=bind_some H0
  obtain ⟨y,h_0,H0⟩:=H0
  refine lok_rt (Env.of E0 [⟨some 10,34,[.agg [.p (.sl 1 (List.map encI d.Counts))]],[],[.one (.p (.sl 1 (List.map encI y)))],[],True,fun _ => ok_boundary_reaching d y h_0,[]⟩]) (⟨42,mkS [(3,.x (.one (.ptr 103 0))),(5,.x (.one (.p (.sl 1 (List.map encI y)))))],mkH [(103,.var [.p (pi share.Num),.p (pi share.Den)])]⟩) ?_
  refine lok_rt E0 (⟨42,mkS [(3,.x (.one (.ptr 103 0))),(5,.x (.one (.p (.sl 1 (List.map encI y))))),(6,.x (.one (.p (pi (0:Int)))))],mkH [(103,.var [.p (pi share.Num),.p (pi share.Den)])]⟩) ?_
  refine lok_join (fun x_:Int => boundary_nearest_j1 x_=some r_) (fun x_ => ⟨42,mkS [(6,.x (.one (.p (pi x_))))],mkH []⟩) ?hyboundary_nearest_j1 ?hxboundary_nearest_j1
  case hyboundary_nearest_j1 =>
    rintro best H0
    try dsimp only at H0 ⊢
    unfold boundary_nearest_j1 at H0
    refine lok_rt E0 (⟨42,mkS [(4,.x (.one (.p (pi best))))],mkH []⟩) ?_
    refine lok_ret ?_
    obtain rfl:=Option.some.inj H0
    try simp only [thenL,blockL]
    exact fin_au _ (.inr rfl) [] (⟨42,mkS [(4,.x (.one (.p (pi best))))],mkH []⟩) rfl rfl imp_au
  case hxboundary_nearest_j1 =>
    refine lok_rt E0 (⟨42,mkS [(3,.x (.one (.ptr 103 0))),(5,.x (.one (.p (.sl 1 (List.map encI y))))),(6,.x (.one (.p (pi (0:Int))))),(11,.x (.one (.p (.sl 1 (List.map encI y))))),(12,.x (.one (.p (pi (y.length:Int))))),(13,.x (.one (.p (pi (0:Int)))))],mkH [(103,.var [.p (pi share.Num),.p (pi share.Den)])]⟩) ?_
    refine lok_block ?_
    replace H0:=bind_some H0
    obtain ⟨v_1,hv_1,H0⟩:=H0
    refine lok_iter (fun x_ => ⟨42,mkS [(3,.x (.one (.ptr 103 0))),(5,.x (.one (.p (.sl 1 (List.map encI y))))),(6,.x (.one (.p (pi x_.1)))),(11,.x (.one (.p (.sl 1 (List.map encI y))))),(12,.x (.one (.p (pi (y.length:Int))))),(13,.x (.one (.p (pi x_.2))))],mkH [(103,.var [.p (pi share.Num),.p (pi share.Den)])]⟩) hv_1 imp_au ?_
    · rintro ⟨best1,v⟩ o_1 H1 k_1
      unfold boundary_nearest_l3 at H1
      try dsimp only at H1 ⊢
      refine lok_rt E0 (⟨42,mkS [(3,.x (.one (.ptr 103 0))),(5,.x (.one (.p (.sl 1 (List.map encI y))))),(6,.x (.one (.p (pi best1)))),(11,.x (.one (.p (.sl 1 (List.map encI y))))),(12,.x (.one (.p (pi (y.length:Int))))),(13,.x (.one (.p (pi v)))),(14,.x (.one (.p (.val (.bool (decide (v<(y.length:Int))))))))],mkH [(103,.var [.p (pi share.Num),.p (pi share.Den)])]⟩) ?_
      refine lok_seq ?_
      refine lok_c (decide (v<(y.length:Int))) ?_ ?_
      · intro b_8
        replace H1:=cpos H1 b_8
        refine lok_skip ?_
        try simp only [thenL,blockL,↓reduceIte,reduceCtorEq]
        refine lok_join (fun x_:Int => boundary_nearest_j2 v x_=some o_1) (fun x_ => ⟨42,mkS [(3,.x (.one (.ptr 103 0))),(5,.x (.one (.p (.sl 1 (List.map encI y))))),(6,.x (.one (.p (pi x_)))),(11,.x (.one (.p (.sl 1 (List.map encI y))))),(12,.x (.one (.p (pi (y.length:Int))))),(13,.x (.one (.p (pi v))))],mkH [(103,.var [.p (pi share.Num),.p (pi share.Den)])]⟩) ?hyboundary_nearest_j2 ?hxboundary_nearest_j2
        case hyboundary_nearest_j2 =>
          rintro best3 H1
          try dsimp only at H1 ⊢
          unfold boundary_nearest_j2 at H1
          refine lok_rl E0 (⟨42,mkS [(3,.x (.one (.ptr 103 0))),(5,.x (.one (.p (.sl 1 (List.map encI y))))),(6,.x (.one (.p (pi best3)))),(11,.x (.one (.p (.sl 1 (List.map encI y))))),(12,.x (.one (.p (pi (y.length:Int))))),(13,.x (.one (.p (pi (IntKind.i64.wrap (v+(1:Int)))))))],mkH [(103,.var [.p (pi share.Num),.p (pi share.Den)])]⟩) ?_
          try simp only [thenL,blockL,↓reduceIte,reduceCtorEq]
          exact ⟨(best3,(IntKind.i64.wrap (v+(1:Int)))),(Option.some.inj H1).symm,imp_au⟩
        case hxboundary_nearest_j2 =>
          refine lok_block ?_
          replace H1:=req_some H1
          obtain ⟨q_7,H1⟩:=H1
          refine lok_rt E0 (⟨42,mkS [(3,.x (.one (.ptr 103 0))),(5,.x (.one (.p (.sl 1 (List.map encI y))))),(6,.x (.one (.p (pi best1)))),(7,.x (.one (.p (pi v)))),(8,.x (.one (.p (pi (ix y v))))),(11,.x (.one (.p (.sl 1 (List.map encI y))))),(12,.x (.one (.p (pi (y.length:Int))))),(13,.x (.one (.p (pi v))))],mkH [(103,.var [.p (pi share.Num),.p (pi share.Den)])]⟩) ?_
          replace H1:=req_some H1
          obtain ⟨⟨q_3,q_4,q_5,q_6⟩,H1⟩:=H1
          refine lok_dt (Env.of E0 [⟨some 36,43,[.one (.p (pi (IntKind.i64.wrap ((ix y v)+(ix y best1))))),.one (.p (pi (IntKind.i64.wrap ((2:Int)*(ix y (0:Int)))))),.agg [.p (pi share.Num),.p (pi share.Den)]],[],[.one (.p (pi ((boundary_compareShare (IntKind.i64.wrap ((ix y v)+(ix y best1))) (IntKind.i64.wrap ((2:Int)*(ix y (0:Int)))) share).getD default)))],[],(boundary_compareShare (IntKind.i64.wrap ((ix y v)+(ix y best1))) (IntKind.i64.wrap ((2:Int)*(ix y (0:Int)))) share).isSome=true,fun h => ok_boundary_compareShare (IntKind.i64.wrap ((ix y v)+(ix y best1))) (IntKind.i64.wrap ((2:Int)*(ix y (0:Int)))) share _ (isSome_get h),[]⟩]) 18 (⟨42,mkS [(3,.x (.one (.ptr 103 0))),(5,.x (.one (.p (.sl 1 (List.map encI y))))),(6,.x (.one (.p (pi best1)))),(7,.x (.one (.p (pi v)))),(11,.x (.one (.p (.sl 1 (List.map encI y))))),(12,.x (.one (.p (pi (y.length:Int))))),(13,.x (.one (.p (pi v)))),(38,.x (.one (.p (.val (.bool ((decide ((ix y v)<(ix y best1)))&&(decide ((0:Int)<((boundary_compareShare (IntKind.i64.wrap ((ix y v)+(ix y best1))) (IntKind.i64.wrap ((2:Int)*(ix y (0:Int)))) share).getD default)))))))))],mkH [(103,.var [.p (pi share.Num),.p (pi share.Den)])]⟩) (by kernel_rfl) (by kernel_rfl) ?_
          refine lok_c ((decide ((ix y v)<(ix y best1)))&&(decide ((0:Int)<((boundary_compareShare (IntKind.i64.wrap ((ix y v)+(ix y best1))) (IntKind.i64.wrap ((2:Int)*(ix y (0:Int)))) share).getD default)))) ?_ ?_
          · intro b_2
            replace H1:=cpos H1 b_2
            refine lok_rl E0 (⟨42,mkS [(3,.x (.one (.ptr 103 0))),(5,.x (.one (.p (.sl 1 (List.map encI y))))),(6,.x (.one (.p (pi v)))),(11,.x (.one (.p (.sl 1 (List.map encI y))))),(12,.x (.one (.p (pi (y.length:Int))))),(13,.x (.one (.p (pi v))))],mkH [(103,.var [.p (pi share.Num),.p (pi share.Den)])]⟩) ?_
            try simp only [thenL,blockL,↓reduceIte,reduceCtorEq]
            exact ⟨v,H1,imp_au⟩
          · intro b_2
            replace H1:=cneg H1 b_2
            refine lok_skip ?_
            try simp only [thenL,blockL,↓reduceIte,reduceCtorEq]
            exact ⟨best1,H1,imp_au⟩
      · intro b_8
        replace H1:=cneg H1 b_8
        refine lok_exit ?_
        try simp only [thenL,blockL,↓reduceIte,reduceCtorEq]
        have e_1:=k_1 _ (Option.some.inj H1).symm
        subst e_1
        try dsimp only at H0
        try simp only [thenL,blockL,↓reduceIte,reduceCtorEq]
        exact ⟨best1,H0,imp_au⟩
set_option maxHeartbeats 4000000 in
theorem ok_boundary_Reference (d:api_Distribution) (reference:api_Distribution) (b:List Int) (r_:(List Int) × Int) (H0:boundary_Reference d reference b=some r_):CallOK Tryz.prog 16 [.agg [.p (.sl 1 (List.map encI d.Counts))],.agg [.p (.sl 1 (List.map encI reference.Counts))],.one (.p (.sl 1 (List.map encI b)))] [] [.one (.p (.sl 1 (List.map encI r_.1))),.one (.p (pi r_.2))] []:=by
  refine callOK (n:=87) (rs:=[.tmp 6,.tmp 7]) (nb:=0) (V:=[]) Tryz.func16 rfl (by kernel_rfl) rfl rfl rfl rfl (Nat.le_of_ble_eq_true rfl) (by decide) ?_
  unfold boundary_Reference at H0
  refine lok_rt E0 (⟨87,mkS [(2,.x (.one (.p (.sl 1 (List.map encI b))))),(3,.x (.one (.ptr 103 0))),(4,.x (.one (.ptr 104 0)))],mkH [(103,.var [.p (.sl 1 (List.map encI d.Counts))]),(104,.var [.p (.sl 1 (List.map encI reference.Counts))])]⟩) ?_
  refine lok_seq ?_
  replace H0:=bind_some H0
  obtain ⟨y,h_0,H0⟩:=H0
  replace H0:=req_some H0
  obtain ⟨q_23,H0⟩:=H0
  refine lok_rt (Env.of E0 [⟨some 16,30,[.agg [.p (.sl 1 (List.map encI d.Counts))]],[],[.one (.p (.val (.bool y)))],[],True,fun _ => ok_distribution_Valid d y h_0,[]⟩,
      ⟨some 20,30,[.agg [.p (.sl 1 (List.map encI reference.Counts))]],[],[.one (.p (.val (.bool ((distribution_Valid reference).getD default))))],[],(distribution_Valid reference).isSome=true,fun h => ok_distribution_Valid reference _ (isSome_get h),[]⟩]) (⟨87,mkS [(2,.x (.one (.p (.sl 1 (List.map encI b))))),(3,.x (.one (.ptr 103 0))),(4,.x (.one (.ptr 104 0))),(22,.x (.one (.p (.val (.bool ((!y)||(!((distribution_Valid reference).getD default))))))))],mkH [(103,.var [.p (.sl 1 (List.map encI d.Counts))]),(104,.var [.p (.sl 1 (List.map encI reference.Counts))])]⟩) ?_
  refine lok_c ((!y)||(!((distribution_Valid reference).getD default))) ?_ ?_
  · intro b_22
    replace H0:=cpos H0 b_22
    refine lok_rt E0 (⟨87,mkS [(6,.x (.one (.vw 106))),(7,.x (.one (.p (pi (1:Int)))))],mkH [(106,.arr 1 (List.map encI ([]:List Int)))]⟩) ?_
    refine lok_ret ?_
    obtain rfl:=Option.some.inj H0
    try simp only [thenL,blockL]
    exact fin_au _ (.inr rfl) [] (⟨87,mkS [(6,.x (.one (.p (.sl 1 (List.map encI ([]:List Int)))))),(7,.x (.one (.p (pi (1:Int)))))],mkH []⟩) rfl rfl (Imp.trans (imp_frz 106 1 (List.map encI ([]:List Int))) imp_au)
  · intro b_22
    replace H0:=cneg H0 b_22
    refine lok_skip ?_
    try simp only [thenL,blockL,↓reduceIte,reduceCtorEq]
    refine lok_seq ?_
    replace H0:=bind_some H0
    obtain ⟨y1,h_1,H0⟩:=H0
    replace H0:=req_some H0
    obtain ⟨q_21,H0⟩:=H0
    refine lok_rt (Env.of E0 [⟨some 24,33,[.agg [.p (.sl 1 (List.map encI d.Counts))]],[],[.one (.p (pi y1))],[],True,fun _ => ok_distribution_Count d y1 h_1,[]⟩,
      ⟨some 28,33,[.agg [.p (.sl 1 (List.map encI reference.Counts))]],[],[.one (.p (pi ((distribution_Count reference).getD default)))],[],(distribution_Count reference).isSome=true,fun h => ok_distribution_Count reference _ (isSome_get h),[]⟩]) (⟨87,mkS [(2,.x (.one (.p (.sl 1 (List.map encI b))))),(3,.x (.one (.ptr 103 0))),(4,.x (.one (.ptr 104 0))),(30,.x (.one (.p (.val (.bool ((y1==(0:Int))||(((distribution_Count reference).getD default)==(0:Int))))))))],mkH [(103,.var [.p (.sl 1 (List.map encI d.Counts))]),(104,.var [.p (.sl 1 (List.map encI reference.Counts))])]⟩) ?_
    refine lok_c ((y1==(0:Int))||(((distribution_Count reference).getD default)==(0:Int))) ?_ ?_
    · intro b_20
      replace H0:=cpos H0 b_20
      refine lok_rt E0 (⟨87,mkS [(6,.x (.one (.vw 106))),(7,.x (.one (.p (pi (10:Int)))))],mkH [(106,.arr 1 (List.map encI ([]:List Int)))]⟩) ?_
      refine lok_ret ?_
      obtain rfl:=Option.some.inj H0
      try simp only [thenL,blockL]
      exact fin_au _ (.inr rfl) [] (⟨87,mkS [(6,.x (.one (.p (.sl 1 (List.map encI ([]:List Int)))))),(7,.x (.one (.p (pi (10:Int)))))],mkH []⟩) rfl rfl (Imp.trans (imp_frz 106 1 (List.map encI ([]:List Int))) imp_au)
    · intro b_20
      replace H0:=cneg H0 b_20
      refine lok_skip ?_
      try simp only [thenL,blockL,↓reduceIte,reduceCtorEq]
      refine lok_seq ?_
      replace H0:=bind_some H0
      obtain ⟨y2,h_2,H0⟩:=H0
      replace H0:=bind_some H0
      obtain ⟨y3,h_3,H0⟩:=H0
      refine lok_rt (Env.of E0 [⟨some 33,31,[.agg [.p (.sl 1 (List.map encI reference.Counts))]],[],[.one (.p (pi y2))],[],True,fun _ => ok_boundary_greatest reference y2 h_2,[]⟩,
      ⟨some 34,10,[.one (.p (.sl 1 (List.map encI b))),.one (.p (pi y2))],[],[.one (.p (pi y3))],[],True,fun _ => ok_boundary_Check b y2 y3 h_3,[]⟩]) (⟨87,mkS [(2,.x (.one (.p (.sl 1 (List.map encI b))))),(3,.x (.one (.ptr 103 0))),(4,.x (.one (.ptr 104 0))),(8,.x (.one (.p (pi y3))))],mkH [(103,.var [.p (.sl 1 (List.map encI d.Counts))]),(104,.var [.p (.sl 1 (List.map encI reference.Counts))])]⟩) ?_
      refine lok_rt E0 (⟨87,mkS [(2,.x (.one (.p (.sl 1 (List.map encI b))))),(3,.x (.one (.ptr 103 0))),(4,.x (.one (.ptr 104 0))),(8,.x (.one (.p (pi y3)))),(36,.x (.one (.p (.val (.bool (y3 != (0:Int)))))))],mkH [(103,.var [.p (.sl 1 (List.map encI d.Counts))]),(104,.var [.p (.sl 1 (List.map encI reference.Counts))])]⟩) ?_
      refine lok_c (y3 != (0:Int)) ?_ ?_
      · intro b_19
        replace H0:=cpos H0 b_19
        refine lok_rt E0 (⟨87,mkS [(6,.x (.one (.vw 106))),(7,.x (.one (.p (pi y3))))],mkH [(106,.arr 1 (List.map encI ([]:List Int)))]⟩) ?_
        refine lok_ret ?_
        obtain rfl:=Option.some.inj H0
        try simp only [thenL,blockL]
        exact fin_au _ (.inr rfl) [] (⟨87,mkS [(6,.x (.one (.p (.sl 1 (List.map encI ([]:List Int)))))),(7,.x (.one (.p (pi y3))))],mkH []⟩) rfl rfl (Imp.trans (imp_frz 106 1 (List.map encI ([]:List Int))) imp_au)
      · intro b_19
        replace H0:=cneg H0 b_19
        refine lok_skip ?_
        try simp only [thenL,blockL,↓reduceIte,reduceCtorEq]
        replace H0:=bind_some H0
        obtain ⟨y4,h_4,H0⟩:=H0
        refine lok_rt (Env.of E0 [⟨some 39,34,[.agg [.p (.sl 1 (List.map encI reference.Counts))]],[],[.one (.p (.sl 1 (List.map encI y4)))],[],True,fun _ => ok_boundary_reaching reference y4 h_4,[]⟩]) (⟨87,mkS [(2,.x (.one (.p (.sl 1 (List.map encI b))))),(3,.x (.one (.ptr 103 0))),(9,.x (.one (.p (.sl 1 (List.map encI y4)))))],mkH [(103,.var [.p (.sl 1 (List.map encI d.Counts))])]⟩) ?_
        replace H0:=req_some H0
        obtain ⟨q_18,H0⟩:=H0
        refine lok_rt E0 (⟨87,mkS [(2,.x (.one (.p (.sl 1 (List.map encI b))))),(3,.x (.one (.ptr 103 0))),(9,.x (.one (.p (.sl 1 (List.map encI y4))))),(10,.x (.one (.vw 142)))],mkH [(103,.var [.p (.sl 1 (List.map encI d.Counts))]),(142,.arr 1 (List.map encI (rep (b.length:Int) (0:Int))))]⟩) ?_
        refine lok_join (fun x_:(List Int) => boundary_Reference_j1 x_=some r_) (fun x_ => ⟨87,mkS [(10,.x (.one (.vw 142)))],mkH [(142,.arr 1 (List.map encI x_))]⟩) ?hyboundary_Reference_j1 ?hxboundary_Reference_j1
        case hyboundary_Reference_j1 =>
          rintro w H0
          try dsimp only at H0 ⊢
          unfold boundary_Reference_j1 at H0
          refine lok_rt E0 (⟨87,mkS [(6,.x (.one (.vw 142))),(7,.x (.one (.p (pi (0:Int)))))],mkH [(142,.arr 1 (List.map encI w))]⟩) ?_
          refine lok_ret ?_
          obtain rfl:=Option.some.inj H0
          try simp only [thenL,blockL]
          exact fin_au _ (.inr rfl) [] (⟨87,mkS [(6,.x (.one (.p (.sl 1 (List.map encI w))))),(7,.x (.one (.p (pi (0:Int)))))],mkH []⟩) rfl rfl (Imp.trans (imp_frz 142 1 (List.map encI w)) imp_au)
        case hxboundary_Reference_j1 =>
          refine lok_rt E0 (⟨87,mkS [(3,.x (.one (.ptr 103 0))),(9,.x (.one (.p (.sl 1 (List.map encI y4))))),(10,.x (.one (.vw 142))),(43,.x (.one (.p (.sl 1 (List.map encI b))))),(44,.x (.one (.p (pi (b.length:Int))))),(45,.x (.one (.p (pi (0:Int)))))],mkH [(103,.var [.p (.sl 1 (List.map encI d.Counts))]),(142,.arr 1 (List.map encI (rep (b.length:Int) (0:Int))))]⟩) ?_
          refine lok_block ?_
          replace H0:=bind_some H0
          obtain ⟨v_5,hv_5,H0⟩:=H0
          refine lok_iter (fun x_ => ⟨87,mkS [(3,.x (.one (.ptr 103 0))),(9,.x (.one (.p (.sl 1 (List.map encI y4))))),(10,.x (.one (.vw 142))),(43,.x (.one (.p (.sl 1 (List.map encI b))))),(44,.x (.one (.p (pi (b.length:Int))))),(45,.x (.one (.p (pi x_.1))))],mkH [(103,.var [.p (.sl 1 (List.map encI d.Counts))]),(142,.arr 1 (List.map encI x_.2))]⟩) hv_5 imp_au ?_
          · rintro ⟨v,w1⟩ o_1 H1 k_1
            unfold boundary_Reference_l3 at H1
            try dsimp only at H1 ⊢
            refine lok_rt E0 (⟨87,mkS [(3,.x (.one (.ptr 103 0))),(9,.x (.one (.p (.sl 1 (List.map encI y4))))),(10,.x (.one (.vw 142))),(43,.x (.one (.p (.sl 1 (List.map encI b))))),(44,.x (.one (.p (pi (b.length:Int))))),(45,.x (.one (.p (pi v)))),(46,.x (.one (.p (.val (.bool (decide (v<(b.length:Int))))))))],mkH [(103,.var [.p (.sl 1 (List.map encI d.Counts))]),(142,.arr 1 (List.map encI w1))]⟩) ?_
            refine lok_seq ?_
            refine lok_c (decide (v<(b.length:Int))) ?_ ?_
            · intro b_17
              replace H1:=cpos H1 b_17
              refine lok_skip ?_
              try simp only [thenL,blockL,↓reduceIte,reduceCtorEq]
              refine lok_join (fun x_:(List Int) => boundary_Reference_j2 v x_=some o_1) (fun x_ => ⟨87,mkS [(3,.x (.one (.ptr 103 0))),(9,.x (.one (.p (.sl 1 (List.map encI y4))))),(10,.x (.one (.vw 142))),(43,.x (.one (.p (.sl 1 (List.map encI b))))),(44,.x (.one (.p (pi (b.length:Int))))),(45,.x (.one (.p (pi v))))],mkH [(103,.var [.p (.sl 1 (List.map encI d.Counts))]),(142,.arr 1 (List.map encI x_))]⟩) ?hyboundary_Reference_j2 ?hxboundary_Reference_j2
              case hyboundary_Reference_j2 =>
                rintro w3 H1
                try dsimp only at H1 ⊢
                unfold boundary_Reference_j2 at H1
                refine lok_rl E0 (⟨87,mkS [(3,.x (.one (.ptr 103 0))),(9,.x (.one (.p (.sl 1 (List.map encI y4))))),(10,.x (.one (.vw 142))),(43,.x (.one (.p (.sl 1 (List.map encI b))))),(44,.x (.one (.p (pi (b.length:Int))))),(45,.x (.one (.p (pi (IntKind.i64.wrap (v+(1:Int)))))))],mkH [(103,.var [.p (.sl 1 (List.map encI d.Counts))]),(142,.arr 1 (List.map encI w3))]⟩) ?_
                try simp only [thenL,blockL,↓reduceIte,reduceCtorEq]
                exact ⟨((IntKind.i64.wrap (v+(1:Int))),w3),(Option.some.inj H1).symm,imp_au⟩
              case hxboundary_Reference_j2 =>
                refine lok_block ?_
                replace H1:=req_some H1
                obtain ⟨q_16,H1⟩:=H1
                refine lok_rt E0 (⟨87,mkS [(3,.x (.one (.ptr 103 0))),(9,.x (.one (.p (.sl 1 (List.map encI y4))))),(10,.x (.one (.vw 142))),(11,.x (.one (.p (pi v)))),(12,.x (.one (.p (pi (ix b v))))),(43,.x (.one (.p (.sl 1 (List.map encI b))))),(44,.x (.one (.p (pi (b.length:Int))))),(45,.x (.one (.p (pi v))))],mkH [(103,.var [.p (.sl 1 (List.map encI d.Counts))]),(142,.arr 1 (List.map encI w1))]⟩) ?_
                replace H1:=req_some H1
                obtain ⟨⟨q_14,q_15⟩,H1⟩:=H1
                replace H1:=bind_some H1
                obtain ⟨⟨y5,y6⟩,h_6,H1⟩:=H1
                try dsimp only at H1
                refine lok_et (Env.of E0 [⟨some 58,35,[.one (.p (pi (ix y4 (ix b v)))),.one (.p (pi (ix y4 (0:Int))))],[],[.agg [.p (pi y5.Num),.p (pi y5.Den)],.one (.p (pi y6))],[],True,fun _ => ok_ratio_New (ix y4 (ix b v)) (ix y4 (0:Int)) (y5,y6) h_6,[]⟩]) 87 [⟨[(9,.x (.one (.p (.sl 1 (List.map encI y4)))))],[],[(51,.x (.one (.p (.sl 1 (List.map encI y4)))))],[],none⟩,
      ⟨[(12,.x (.one (.p (pi (ix b v)))))],[],[(52,.x (.one (.p (pi (ix b v)))))],[],none⟩,
      ⟨[(51,.x (.one (.p (.sl 1 (List.map encI y4))))),(52,.x (.one (.p (pi (ix b v)))))],[],[(53,.x (.one (.ep [pi (ix y4 (ix b v))])))],[],none⟩,
      ⟨[(53,.x (.one (.ep [pi (ix y4 (ix b v))])))],[],[(54,.x (.one (.p (pi (ix y4 (ix b v))))))],[],none⟩,
      ⟨[(9,.x (.one (.p (.sl 1 (List.map encI y4)))))],[],[(55,.x (.one (.p (.sl 1 (List.map encI y4)))))],[],none⟩,
      ⟨[(55,.x (.one (.p (.sl 1 (List.map encI y4)))))],[],[(56,.x (.one (.ep [pi (ix y4 (0:Int))])))],[],none⟩,
      ⟨[(56,.x (.one (.ep [pi (ix y4 (0:Int))])))],[],[(57,.x (.one (.p (pi (ix y4 (0:Int))))))],[],none⟩,
      ⟨[(54,.x (.one (.p (pi (ix y4 (ix b v)))))),(57,.x (.one (.p (pi (ix y4 (0:Int))))))],[],[(58,.tup [.agg [.p (pi y5.Num),.p (pi y5.Den)],.one (.p (pi y6))])],[],none⟩,
      ⟨[(58,.tup [.agg [.p (pi y5.Num),.p (pi y5.Den)],.one (.p (pi y6))])],[],[(50,.tup [.agg [.p (pi y5.Num),.p (pi y5.Den)],.one (.p (pi y6))])],[],none⟩,
      ⟨[(50,.tup [.agg [.p (pi y5.Num),.p (pi y5.Den)],.one (.p (pi y6))])],[],[(59,.x (.agg [.p (pi y5.Num),.p (pi y5.Den)]))],[],none⟩,
      ⟨[(50,.tup [.agg [.p (pi y5.Num),.p (pi y5.Den)],.one (.p (pi y6))])],[],[(60,.x (.one (.p (pi y6))))],[],none⟩,
      ⟨[],[(113,none)],[(13,.x (.one (.ptr 113 0)))],[(113,some (.var [.p (pi (0:Int)),.p (pi (0:Int))]))],some 113⟩,
      ⟨[(13,.x (.one (.ptr 113 0))),(59,.x (.agg [.p (pi y5.Num),.p (pi y5.Den)]))],[(113,some (.var [.p (pi (0:Int)),.p (pi (0:Int))]))],[],[(113,some (.var [.p (pi y5.Num),.p (pi y5.Den)]))],none⟩] (⟨87,mkS [(3,.x (.one (.ptr 103 0))),(9,.x (.one (.p (.sl 1 (List.map encI y4))))),(10,.x (.one (.vw 142))),(11,.x (.one (.p (pi v)))),(13,.x (.one (.ptr 113 0))),(14,.x (.one (.p (pi y6)))),(43,.x (.one (.p (.sl 1 (List.map encI b))))),(44,.x (.one (.p (pi (b.length:Int))))),(45,.x (.one (.p (pi v))))],mkH [(103,.var [.p (.sl 1 (List.map encI d.Counts))]),(113,.var [.p (pi y5.Num),.p (pi y5.Den)]),(142,.arr 1 (List.map encI w1))]⟩) (by kernel_rfl) (by kernel_rfl) (by kernel_rfl) rfl rfl rfl ?_
                refine lok_seq ?_
                refine lok_rt E0 (⟨87,mkS [(3,.x (.one (.ptr 103 0))),(9,.x (.one (.p (.sl 1 (List.map encI y4))))),(10,.x (.one (.vw 142))),(11,.x (.one (.p (pi v)))),(13,.x (.one (.ptr 113 0))),(14,.x (.one (.p (pi y6)))),(43,.x (.one (.p (.sl 1 (List.map encI b))))),(44,.x (.one (.p (pi (b.length:Int))))),(45,.x (.one (.p (pi v)))),(62,.x (.one (.p (.val (.bool (y6 != (0:Int)))))))],mkH [(103,.var [.p (.sl 1 (List.map encI d.Counts))]),(113,.var [.p (pi y5.Num),.p (pi y5.Den)]),(142,.arr 1 (List.map encI w1))]⟩) ?_
                refine lok_c (y6 != (0:Int)) ?_ ?_
                · intro b_13
                  replace H1:=cpos H1 b_13
                  refine lok_rt E0 (⟨87,mkS [(6,.x (.one (.vw 106))),(7,.x (.one (.p (pi y6))))],mkH [(106,.arr 1 (List.map encI ([]:List Int)))]⟩) ?_
                  refine lok_ret ?_
                  try simp only [thenL,blockL,↓reduceIte,reduceCtorEq]
                  have e_1:=k_1 _ (Option.some.inj H1).symm
                  subst e_1
                  try dsimp only at H0
                  obtain rfl:=Option.some.inj H0
                  try simp only [thenL,blockL]
                  exact fin_au _ (.inr rfl) [] (⟨87,mkS [(6,.x (.one (.p (.sl 1 (List.map encI ([]:List Int)))))),(7,.x (.one (.p (pi y6))))],mkH []⟩) rfl rfl (Imp.trans (imp_frz 106 1 (List.map encI ([]:List Int))) imp_au)
                · intro b_13
                  replace H1:=cneg H1 b_13
                  refine lok_skip ?_
                  try simp only [thenL,blockL,↓reduceIte,reduceCtorEq]
                  replace H1:=bind_some H1
                  obtain ⟨y7,h_7,H1⟩:=H1
                  replace H1:=req_some H1
                  obtain ⟨q_12,H1⟩:=H1
                  refine lok_rt (Env.of E0 [⟨some 68,36,[.agg [.p (.sl 1 (List.map encI d.Counts))],.agg [.p (pi y5.Num),.p (pi y5.Den)]],[],[.one (.p (pi y7))],[],True,fun _ => ok_boundary_nearest d y5 y7 h_7,[]⟩]) (⟨87,mkS [(3,.x (.one (.ptr 103 0))),(9,.x (.one (.p (.sl 1 (List.map encI y4))))),(10,.x (.one (.vw 142))),(11,.x (.one (.p (pi v)))),(43,.x (.one (.p (.sl 1 (List.map encI b))))),(44,.x (.one (.p (pi (b.length:Int))))),(45,.x (.one (.p (pi v))))],mkH [(103,.var [.p (.sl 1 (List.map encI d.Counts))]),(142,.arr 1 (List.map encI (setI w1 v y7)))]⟩) ?_
                  refine lok_rt E0 (⟨87,mkS [(3,.x (.one (.ptr 103 0))),(9,.x (.one (.p (.sl 1 (List.map encI y4))))),(10,.x (.one (.vw 142))),(11,.x (.one (.p (pi v)))),(43,.x (.one (.p (.sl 1 (List.map encI b))))),(44,.x (.one (.p (pi (b.length:Int))))),(45,.x (.one (.p (pi v)))),(71,.x (.one (.p (.val (.bool (decide ((0:Int)<v)))))))],mkH [(103,.var [.p (.sl 1 (List.map encI d.Counts))]),(142,.arr 1 (List.map encI (setI w1 v y7)))]⟩) ?_
                  refine lok_c (decide ((0:Int)<v)) ?_ ?_
                  · intro b_11
                    replace H1:=cpos H1 b_11
                    replace H1:=req_some H1
                    obtain ⟨⟨q_9,q_10⟩,H1⟩:=H1
                    replace H1:=bindV_some H1
                    obtain ⟨w4,a_8,H1⟩:=H1
                    refine lok_dlg E0 12 a_8 (⟨87,mkS [(3,.x (.one (.ptr 103 0))),(9,.x (.one (.p (.sl 1 (List.map encI y4))))),(10,.x (.one (.vw 142))),(43,.x (.one (.p (.sl 1 (List.map encI b))))),(44,.x (.one (.p (pi (b.length:Int))))),(45,.x (.one (.p (pi v))))],mkH [(103,.var [.p (.sl 1 (List.map encI d.Counts))]),(142,.arr 1 (List.map encI w4))]⟩) (by kernel_rfl) (by kernel_rfl) ?_
                    try simp only [thenL,blockL,↓reduceIte,reduceCtorEq]
                    exact ⟨w4,H1,imp_au⟩
                  · intro b_11
                    replace H1:=cneg H1 b_11
                    refine lok_skip ?_
                    try simp only [thenL,blockL,↓reduceIte,reduceCtorEq]
                    exact ⟨(setI w1 v y7),H1,imp_au⟩
            · intro b_17
              replace H1:=cneg H1 b_17
              refine lok_exit ?_
              try simp only [thenL,blockL,↓reduceIte,reduceCtorEq]
              have e_1:=k_1 _ (Option.some.inj H1).symm
              subst e_1
              try dsimp only at H0
              try simp only [thenL,blockL,↓reduceIte,reduceCtorEq]
              exact ⟨w1,H0,imp_au⟩
theorem ok_ref32_Below (d:api_Distribution) (score:Int) (r_:Int) (H0:ref32_Below d score=some r_):CallOK Tryz.prog 50 [.agg [.p (.sl 1 (List.map encI d.Counts))],.one (.p (pi score))] [] [.one (.p (pi r_))] []:=by
  refine callOK (n:=31) (rs:=[.tmp 4]) (nb:=0) (V:=[]) Tryz.func50 rfl (by kernel_rfl) rfl rfl rfl rfl (Nat.le_of_ble_eq_true rfl) (by decide) ?_
  unfold ref32_Below at H0
  refine lok_rt E0 (⟨31,mkS [(1,.x (.one (.p (pi score)))),(2,.x (.one (.ptr 102 0)))],mkH [(102,.var [.p (.sl 1 (List.map encI d.Counts))])]⟩) ?_
  refine lok_rt E0 (⟨31,mkS [(1,.x (.one (.p (pi score)))),(2,.x (.one (.ptr 102 0))),(5,.x (.one (.p (pi (0:Int)))))],mkH [(102,.var [.p (.sl 1 (List.map encI d.Counts))])]⟩) ?_
  refine lok_join (fun x_:Int => ref32_Below_j1 x_=some r_) (fun x_ => ⟨31,mkS [(5,.x (.one (.p (pi x_))))],mkH []⟩) ?hyref32_Below_j1 ?hxref32_Below_j1
  case hyref32_Below_j1 =>
    rintro n H0
    try dsimp only at H0 ⊢
    unfold ref32_Below_j1 at H0
    refine lok_rt E0 (⟨31,mkS [(4,.x (.one (.p (pi n))))],mkH []⟩) ?_
    refine lok_ret ?_
    obtain rfl:=Option.some.inj H0
    try simp only [thenL,blockL]
    exact fin_au _ (.inr rfl) [] (⟨31,mkS [(4,.x (.one (.p (pi n))))],mkH []⟩) rfl rfl imp_au
  case hxref32_Below_j1 =>
    refine lok_rt E0 (⟨31,mkS [(1,.x (.one (.p (pi score)))),(2,.x (.one (.ptr 102 0))),(5,.x (.one (.p (pi (0:Int))))),(6,.x (.one (.p (pi (0:Int)))))],mkH [(102,.var [.p (.sl 1 (List.map encI d.Counts))])]⟩) ?_
    refine lok_block ?_
    replace H0:=bind_some H0
    obtain ⟨v_0,hv_0,H0⟩:=H0
    refine lok_iter (fun x_ => ⟨31,mkS [(1,.x (.one (.p (pi score)))),(2,.x (.one (.ptr 102 0))),(5,.x (.one (.p (pi x_.1)))),(6,.x (.one (.p (pi x_.2))))],mkH [(102,.var [.p (.sl 1 (List.map encI d.Counts))])]⟩) hv_0 imp_au ?_
    · rintro ⟨n1,i⟩ o_1 H1 k_1
      unfold ref32_Below_l2 at H1
      try dsimp only at H1 ⊢
      refine lok_seq ?_
      replace H1:=req_some H1
      obtain ⟨q_3,H1⟩:=H1
      refine lok_rt (Env.of E0 [⟨some 19,32,[.agg [.p (.sl 1 (List.map encI d.Counts))]],[],[.one (.p (.val (.bool ((ref32_Valid d).getD default))))],[],(ref32_Valid d).isSome=true,fun h => ok_ref32_Valid d _ (isSome_get h),[]⟩]) (⟨31,mkS [(1,.x (.one (.p (pi score)))),(2,.x (.one (.ptr 102 0))),(5,.x (.one (.p (pi n1)))),(6,.x (.one (.p (pi i)))),(20,.x (.one (.p (.val (.bool (((decide (i<(d.Counts.length:Int)))&&(decide (i<score)))&&((ref32_Valid d).getD default)))))))],mkH [(102,.var [.p (.sl 1 (List.map encI d.Counts))])]⟩) ?_
      refine lok_c (((decide (i<(d.Counts.length:Int)))&&(decide (i<score)))&&((ref32_Valid d).getD default)) ?_ ?_
      · intro b_2
        replace H1:=cpos H1 b_2
        refine lok_skip ?_
        try simp only [thenL,blockL,↓reduceIte,reduceCtorEq]
        refine lok_seq ?_
        refine lok_block ?_
        replace H1:=req_some H1
        obtain ⟨q_1,H1⟩:=H1
        refine lok_rl E0 (⟨31,mkS [(1,.x (.one (.p (pi score)))),(2,.x (.one (.ptr 102 0))),(5,.x (.one (.p (pi (IntKind.i64.wrap (n1+(ix d.Counts i))))))),(6,.x (.one (.p (pi i))))],mkH [(102,.var [.p (.sl 1 (List.map encI d.Counts))])]⟩) ?_
        try simp only [thenL,blockL,↓reduceIte,reduceCtorEq]
        refine lok_rl E0 (⟨31,mkS [(1,.x (.one (.p (pi score)))),(2,.x (.one (.ptr 102 0))),(5,.x (.one (.p (pi (IntKind.i64.wrap (n1+(ix d.Counts i))))))),(6,.x (.one (.p (pi (IntKind.i64.wrap (i+(1:Int)))))))],mkH [(102,.var [.p (.sl 1 (List.map encI d.Counts))])]⟩) ?_
        try simp only [thenL,blockL,↓reduceIte,reduceCtorEq]
        exact ⟨((IntKind.i64.wrap (n1+(ix d.Counts i))),(IntKind.i64.wrap (i+(1:Int)))),(Option.some.inj H1).symm,imp_au⟩
      · intro b_2
        replace H1:=cneg H1 b_2
        refine lok_exit ?_
        try simp only [thenL,blockL,↓reduceIte,reduceCtorEq]
        have e_1:=k_1 _ (Option.some.inj H1).symm
        subst e_1
        try dsimp only at H0
        try simp only [thenL,blockL,↓reduceIte,reduceCtorEq]
        exact ⟨n1,H0,imp_au⟩
theorem ok_ref32_Count (d:api_Distribution) (r_:Int) (H0:ref32_Count d=some r_):CallOK Tryz.prog 37 [.agg [.p (.sl 1 (List.map encI d.Counts))]] [] [.one (.p (pi r_))] []:=by
  refine callOK (n:=8) (rs:=[.tmp 2]) (nb:=0) (V:=[]) Tryz.func37 rfl (by kernel_rfl) rfl rfl rfl rfl (Nat.le_of_ble_eq_true rfl) (by decide) ?_
  unfold ref32_Count at H0
  refine lok_rt E0 (⟨8,mkS [(1,.x (.one (.ptr 101 0)))],mkH [(101,.var [.p (.sl 1 (List.map encI d.Counts))])]⟩) ?_
  replace H0:=bind_some H0
  obtain ⟨y,h_0,H0⟩:=H0
  refine lok_rt (Env.of E0 [⟨some 7,50,[.agg [.p (.sl 1 (List.map encI d.Counts))],.one (.p (pi (d.Counts.length:Int)))],[],[.one (.p (pi y))],[],True,fun _ => ok_ref32_Below d (d.Counts.length:Int) y h_0,[]⟩]) (⟨8,mkS [(2,.x (.one (.p (pi y))))],mkH []⟩) ?_
  refine lok_ret ?_
  obtain rfl:=Option.some.inj H0
  try simp only [thenL,blockL]
  exact fin_au _ (.inr rfl) [] (⟨8,mkS [(2,.x (.one (.p (pi y))))],mkH []⟩) rfl rfl imp_au
theorem ok_ref01_Twice (a:ref01_Wide) (r_:ref01_Wide) (H0:ref01_Twice a=some r_):CallOK Tryz.prog 82 [.agg [.p (.val (.int .u64 a.Hi)),.p (.val (.int .u64 a.Lo))]] [] [.agg [.p (.val (.int .u64 r_.Hi)),.p (.val (.int .u64 r_.Lo))]] []:=by
  refine callOK (n:=14) (rs:=[.cell 2 83]) (nb:=0) (V:=[]) Tryz.func82 rfl (by kernel_rfl) rfl rfl rfl rfl (Nat.le_of_ble_eq_true rfl) (by decide) ?_
  unfold ref01_Twice at H0
  refine lok_rt E0 (⟨14,mkS [(1,.x (.one (.ptr 101 0))),(2,.x (.one (.ptr 102 0)))],mkH [(101,.var [.p (.val (.int .u64 a.Hi)),.p (.val (.int .u64 a.Lo))]),(102,.var [.p (.val (.int .u64 (0:Int))),.p (.val (.int .u64 (0:Int)))])]⟩) ?_
  refine lok_rt E0 (⟨14,mkS [(2,.x (.one (.ptr 102 0)))],mkH [(102,.var [.p (.val (.int .u64 (bOr .u64 (bShl .u64 a.Hi (1:Int)) (bShr .u64 a.Lo (63:Int))))),.p (.val (.int .u64 (bShl .u64 a.Lo (1:Int))))])]⟩) ?_
  refine lok_ret ?_
  obtain rfl:=Option.some.inj H0
  try simp only [thenL,blockL]
  exact fin_au _ (.inr rfl) [] (⟨14,mkS [(2,.x (.one (.ptr 102 0)))],mkH [(102,.var [.p (.val (.int .u64 (bOr .u64 (bShl .u64 a.Hi (1:Int)) (bShr .u64 a.Lo (63:Int))))),.p (.val (.int .u64 (bShl .u64 a.Lo (1:Int))))])]⟩) rfl rfl imp_au
theorem ok_ref01_Order (a:ref01_Wide) (b:ref01_Wide) (r_:Int) (H0:ref01_Order a b=some r_):CallOK Tryz.prog 83 [.agg [.p (.val (.int .u64 a.Hi)),.p (.val (.int .u64 a.Lo))],.agg [.p (.val (.int .u64 b.Hi)),.p (.val (.int .u64 b.Lo))]] [] [.one (.p (pi r_))] []:=by
  refine callOK (n:=27) (rs:=[.tmp 4]) (nb:=0) (V:=[]) Tryz.func83 rfl (by kernel_rfl) rfl rfl rfl rfl (Nat.le_of_ble_eq_true rfl) (by decide) ?_
  unfold ref01_Order at H0
  refine lok_rt E0 (⟨27,mkS [(2,.x (.one (.ptr 102 0))),(3,.x (.one (.ptr 103 0)))],mkH [(102,.var [.p (.val (.int .u64 a.Hi)),.p (.val (.int .u64 a.Lo))]),(103,.var [.p (.val (.int .u64 b.Hi)),.p (.val (.int .u64 b.Lo))])]⟩) ?_
  refine lok_seq ?_
  refine lok_rt E0 (⟨27,mkS [(2,.x (.one (.ptr 102 0))),(3,.x (.one (.ptr 103 0))),(23,.x (.one (.p (.val (.bool ((decide (a.Hi<b.Hi))||((a.Hi==b.Hi)&&(decide (a.Lo<b.Lo)))))))))],mkH [(102,.var [.p (.val (.int .u64 a.Hi)),.p (.val (.int .u64 a.Lo))]),(103,.var [.p (.val (.int .u64 b.Hi)),.p (.val (.int .u64 b.Lo))])]⟩) ?_
  refine lok_c ((decide (a.Hi<b.Hi))||((a.Hi==b.Hi)&&(decide (a.Lo<b.Lo)))) ?_ ?_
  · intro b_1
    replace H0:=cpos H0 b_1
    refine lok_rt E0 (⟨27,mkS [(4,.x (.one (.p (pi (-1:Int)))))],mkH []⟩) ?_
    refine lok_ret ?_
    obtain rfl:=Option.some.inj H0
    try simp only [thenL,blockL]
    exact fin_au _ (.inr rfl) [] (⟨27,mkS [(4,.x (.one (.p (pi (-1:Int)))))],mkH []⟩) rfl rfl imp_au
  · intro b_1
    replace H0:=cneg H0 b_1
    refine lok_skip ?_
    try simp only [thenL,blockL,↓reduceIte,reduceCtorEq]
    refine lok_seq ?_
    refine lok_rt E0 (⟨27,mkS [(26,.x (.one (.p (.val (.bool ((a.Hi==b.Hi)&&(a.Lo==b.Lo)))))))],mkH []⟩) ?_
    refine lok_c ((a.Hi==b.Hi)&&(a.Lo==b.Lo)) ?_ ?_
    · intro b_0
      replace H0:=cpos H0 b_0
      refine lok_rt E0 (⟨27,mkS [(4,.x (.one (.p (pi (0:Int)))))],mkH []⟩) ?_
      refine lok_ret ?_
      obtain rfl:=Option.some.inj H0
      try simp only [thenL,blockL]
      exact fin_au _ (.inr rfl) [] (⟨27,mkS [(4,.x (.one (.p (pi (0:Int)))))],mkH []⟩) rfl rfl imp_au
    · intro b_0
      replace H0:=cneg H0 b_0
      refine lok_skip ?_
      try simp only [thenL,blockL,↓reduceIte,reduceCtorEq]
      refine lok_rt E0 (⟨27,mkS [(4,.x (.one (.p (pi (1:Int)))))],mkH []⟩) ?_
      refine lok_ret ?_
      obtain rfl:=Option.some.inj H0
      try simp only [thenL,blockL]
      exact fin_au _ (.inr rfl) [] (⟨27,mkS [(4,.x (.one (.p (pi (1:Int)))))],mkH []⟩) rfl rfl imp_au
theorem ok_bits_Sub64 (x y borrow:Int) (r_:Int × Int) (H0:bits_Sub64 x y borrow=some r_):CallOK Tryz.prog 103 [.int .u64 x,.int .u64 y,.int .u64 borrow] [] [.int .u64 r_.1,.int .u64 r_.2] [] :=
  okSub64 Tryz.func103 (by kernel_rfl) (by kernel_rfl) (by kernel_rfl) (by kernel_rfl) _ _ _ r_ H0
theorem ok_ref01_Minus (a:ref01_Wide) (b:ref01_Wide) (r_:ref01_Wide) (H0:ref01_Minus a b=some r_):CallOK Tryz.prog 84 [.agg [.p (.val (.int .u64 a.Hi)),.p (.val (.int .u64 a.Lo))],.agg [.p (.val (.int .u64 b.Hi)),.p (.val (.int .u64 b.Lo))]] [] [.agg [.p (.val (.int .u64 r_.Hi)),.p (.val (.int .u64 r_.Lo))]] []:=by
  refine callOK (n:=29) (rs:=[.cell 4 83]) (nb:=0) (V:=[]) Tryz.func84 rfl (by kernel_rfl) rfl rfl rfl rfl (Nat.le_of_ble_eq_true rfl) (by decide) ?_
  unfold ref01_Minus at H0
  refine lok_rt E0 (⟨29,mkS [(2,.x (.one (.ptr 102 0))),(3,.x (.one (.ptr 103 0))),(4,.x (.one (.ptr 104 0)))],mkH [(102,.var [.p (.val (.int .u64 a.Hi)),.p (.val (.int .u64 a.Lo))]),(103,.var [.p (.val (.int .u64 b.Hi)),.p (.val (.int .u64 b.Lo))]),(104,.var [.p (.val (.int .u64 (0:Int))),.p (.val (.int .u64 (0:Int)))])]⟩) ?_
  replace H0:=bind_some H0
  obtain ⟨⟨y,y1⟩,h_0,H0⟩:=H0
  try dsimp only at H0
  refine lok_rt (Env.of E0 [⟨some 14,103,[.one (.p (.val (.int .u64 a.Lo))),.one (.p (.val (.int .u64 b.Lo))),.one (.p (.val (.int .u64 (0:Int))))],[],[.one (.p (.val (.int .u64 y))),.one (.p (.val (.int .u64 y1)))],[],True,fun _ => ok_bits_Sub64 a.Lo b.Lo (0:Int) (y,y1) h_0,[]⟩]) (⟨29,mkS [(2,.x (.one (.ptr 102 0))),(3,.x (.one (.ptr 103 0))),(4,.x (.one (.ptr 104 0))),(5,.x (.one (.p (.val (.int .u64 y))))),(6,.x (.one (.p (.val (.int .u64 y1)))))],mkH [(102,.var [.p (.val (.int .u64 a.Hi)),.p (.val (.int .u64 a.Lo))]),(103,.var [.p (.val (.int .u64 b.Hi)),.p (.val (.int .u64 b.Lo))]),(104,.var [.p (.val (.int .u64 (0:Int))),.p (.val (.int .u64 (0:Int)))])]⟩) ?_
  replace H0:=bind_some H0
  obtain ⟨⟨y2,y3⟩,h_1,H0⟩:=H0
  try dsimp only at H0
  refine lok_rt (Env.of E0 [⟨some 23,103,[.one (.p (.val (.int .u64 a.Hi))),.one (.p (.val (.int .u64 b.Hi))),.one (.p (.val (.int .u64 y1)))],[],[.one (.p (.val (.int .u64 y2))),.one (.p (.val (.int .u64 y3)))],[],True,fun _ => ok_bits_Sub64 a.Hi b.Hi y1 (y2,y3) h_1,[]⟩]) (⟨29,mkS [(4,.x (.one (.ptr 104 0))),(5,.x (.one (.p (.val (.int .u64 y))))),(7,.x (.one (.p (.val (.int .u64 y2)))))],mkH [(104,.var [.p (.val (.int .u64 (0:Int))),.p (.val (.int .u64 (0:Int)))])]⟩) ?_
  refine lok_rt E0 (⟨29,mkS [(4,.x (.one (.ptr 104 0)))],mkH [(104,.var [.p (.val (.int .u64 y2)),.p (.val (.int .u64 y))])]⟩) ?_
  refine lok_ret ?_
  obtain rfl:=Option.some.inj H0
  try simp only [thenL,blockL]
  exact fin_au _ (.inr rfl) [] (⟨29,mkS [(4,.x (.one (.ptr 104 0)))],mkH [(104,.var [.p (.val (.int .u64 y2)),.p (.val (.int .u64 y))])]⟩) rfl rfl imp_au
set_option maxHeartbeats 4000000 in
theorem ok_ref01_Divide (a:ref01_Wide) (b:ref01_Wide) (r_:ref01_Wide × ref01_Wide) (H0:ref01_Divide a b=some r_):CallOK Tryz.prog 68 [.agg [.p (.val (.int .u64 a.Hi)),.p (.val (.int .u64 a.Lo))],.agg [.p (.val (.int .u64 b.Hi)),.p (.val (.int .u64 b.Lo))]] [] [.agg [.p (.val (.int .u64 r_.1.Hi)),.p (.val (.int .u64 r_.1.Lo))],.agg [.p (.val (.int .u64 r_.2.Hi)),.p (.val (.int .u64 r_.2.Lo))]] []:=by
  refine callOK (n:=82) (rs:=[.cell 4 83,.cell 5 83]) (nb:=0) (V:=[]) Tryz.func68 rfl (by kernel_rfl) rfl rfl rfl rfl (Nat.le_of_ble_eq_true rfl) (by decide) ?_
  unfold ref01_Divide at H0
  refine lok_rt E0 (⟨82,mkS [(2,.x (.one (.ptr 102 0))),(3,.x (.one (.ptr 103 0))),(4,.x (.one (.ptr 104 0))),(5,.x (.one (.ptr 105 0)))],mkH [(102,.var [.p (.val (.int .u64 a.Hi)),.p (.val (.int .u64 a.Lo))]),(103,.var [.p (.val (.int .u64 b.Hi)),.p (.val (.int .u64 b.Lo))]),(104,.var [.p (.val (.int .u64 (0:Int))),.p (.val (.int .u64 (0:Int)))]),(105,.var [.p (.val (.int .u64 (0:Int))),.p (.val (.int .u64 (0:Int)))])]⟩) ?_
  refine lok_seq ?_
  refine lok_rt E0 (⟨82,mkS [(2,.x (.one (.ptr 102 0))),(3,.x (.one (.ptr 103 0))),(4,.x (.one (.ptr 104 0))),(5,.x (.one (.ptr 105 0))),(18,.x (.one (.p (.val (.bool ((a.Hi==(0:Int))&&(b.Hi==(0:Int))))))))],mkH [(102,.var [.p (.val (.int .u64 a.Hi)),.p (.val (.int .u64 a.Lo))]),(103,.var [.p (.val (.int .u64 b.Hi)),.p (.val (.int .u64 b.Lo))]),(104,.var [.p (.val (.int .u64 (0:Int))),.p (.val (.int .u64 (0:Int)))]),(105,.var [.p (.val (.int .u64 (0:Int))),.p (.val (.int .u64 (0:Int)))])]⟩) ?_
  refine lok_c ((a.Hi==(0:Int))&&(b.Hi==(0:Int))) ?_ ?_
  · intro b_13
    replace H0:=cpos H0 b_13
    replace H0:=req_some H0
    obtain ⟨q_0,H0⟩:=H0
    refine lok_et E0 82 [⟨[(2,.x (.one (.ptr 102 0)))],[],[(19,.x (.one (.ptr 102 1)))],[],none⟩,
      ⟨[(19,.x (.one (.ptr 102 1)))],[(102,some (.var [.p (.val (.int .u64 a.Hi)),.p (.val (.int .u64 a.Lo))]))],[(20,.x (.one (.p (.val (.int .u64 a.Lo)))))],[],none⟩,
      ⟨[(3,.x (.one (.ptr 103 0)))],[],[(21,.x (.one (.ptr 103 1)))],[],none⟩,
      ⟨[(21,.x (.one (.ptr 103 1)))],[(103,some (.var [.p (.val (.int .u64 b.Hi)),.p (.val (.int .u64 b.Lo))]))],[(22,.x (.one (.p (.val (.int .u64 b.Lo)))))],[],none⟩,
      ⟨[(20,.x (.one (.p (.val (.int .u64 a.Lo))))),(22,.x (.one (.p (.val (.int .u64 b.Lo)))))],[],[(23,.x (.one (.p (.val (.int .u64 (IntKind.u64.wrap (Int.tdiv a.Lo b.Lo)))))))],[],none⟩,
      ⟨[(23,.x (.one (.p (.val (.int .u64 (IntKind.u64.wrap (Int.tdiv a.Lo b.Lo)))))))],[],[(24,.x (.agg [.p (.val (.int .u64 (0:Int))),.p (.val (.int .u64 (IntKind.u64.wrap (Int.tdiv a.Lo b.Lo))))]))],[],none⟩,
      ⟨[(2,.x (.one (.ptr 102 0)))],[],[(25,.x (.one (.ptr 102 1)))],[],none⟩,
      ⟨[(25,.x (.one (.ptr 102 1)))],[(102,some (.var [.p (.val (.int .u64 a.Hi)),.p (.val (.int .u64 a.Lo))]))],[(26,.x (.one (.p (.val (.int .u64 a.Lo)))))],[],none⟩,
      ⟨[(3,.x (.one (.ptr 103 0)))],[],[(27,.x (.one (.ptr 103 1)))],[],none⟩,
      ⟨[(27,.x (.one (.ptr 103 1)))],[(103,some (.var [.p (.val (.int .u64 b.Hi)),.p (.val (.int .u64 b.Lo))]))],[(28,.x (.one (.p (.val (.int .u64 b.Lo)))))],[],none⟩,
      ⟨[(26,.x (.one (.p (.val (.int .u64 a.Lo))))),(28,.x (.one (.p (.val (.int .u64 b.Lo)))))],[],[(29,.x (.one (.p (.val (.int .u64 (Int.tmod a.Lo b.Lo))))))],[],none⟩,
      ⟨[(29,.x (.one (.p (.val (.int .u64 (Int.tmod a.Lo b.Lo))))))],[],[(30,.x (.agg [.p (.val (.int .u64 (0:Int))),.p (.val (.int .u64 (Int.tmod a.Lo b.Lo)))]))],[],none⟩,
      ⟨[(4,.x (.one (.ptr 104 0))),(24,.x (.agg [.p (.val (.int .u64 (0:Int))),.p (.val (.int .u64 (IntKind.u64.wrap (Int.tdiv a.Lo b.Lo))))]))],[(104,some (.var [.p (.val (.int .u64 (0:Int))),.p (.val (.int .u64 (0:Int)))]))],[],[(104,some (.var [.p (.val (.int .u64 (0:Int))),.p (.val (.int .u64 (IntKind.u64.wrap (Int.tdiv a.Lo b.Lo))))]))],none⟩] (⟨82,mkS [(4,.x (.one (.ptr 104 0))),(5,.x (.one (.ptr 105 0)))],mkH [(104,.var [.p (.val (.int .u64 (0:Int))),.p (.val (.int .u64 (IntKind.u64.wrap (Int.tdiv a.Lo b.Lo))))]),(105,.var [.p (.val (.int .u64 (0:Int))),.p (.val (.int .u64 (Int.tmod a.Lo b.Lo)))])]⟩) (by kernel_rfl) (by kernel_rfl) (by kernel_rfl) rfl rfl rfl ?_
    refine lok_ret ?_
    obtain rfl:=Option.some.inj H0
    try simp only [thenL,blockL]
    exact fin_au _ (.inr rfl) [] (⟨82,mkS [(4,.x (.one (.ptr 104 0))),(5,.x (.one (.ptr 105 0)))],mkH [(104,.var [.p (.val (.int .u64 (0:Int))),.p (.val (.int .u64 (IntKind.u64.wrap (Int.tdiv a.Lo b.Lo))))]),(105,.var [.p (.val (.int .u64 (0:Int))),.p (.val (.int .u64 (Int.tmod a.Lo b.Lo)))])]⟩) rfl rfl imp_au
  · intro b_13
    replace H0:=cneg H0 b_13
    refine lok_skip ?_
    try simp only [thenL,blockL,↓reduceIte,reduceCtorEq]
    refine lok_rt E0 (⟨82,mkS [(2,.x (.one (.ptr 102 0))),(3,.x (.one (.ptr 103 0))),(4,.x (.one (.ptr 104 0))),(5,.x (.one (.ptr 105 0))),(6,.x (.one (.ptr 106 0))),(7,.x (.one (.ptr 107 0)))],mkH [(102,.var [.p (.val (.int .u64 a.Hi)),.p (.val (.int .u64 a.Lo))]),(103,.var [.p (.val (.int .u64 b.Hi)),.p (.val (.int .u64 b.Lo))]),(104,.var [.p (.val (.int .u64 (0:Int))),.p (.val (.int .u64 (0:Int)))]),(105,.var [.p (.val (.int .u64 (0:Int))),.p (.val (.int .u64 (0:Int)))]),(106,.var [.p (.val (.int .u64 (0:Int))),.p (.val (.int .u64 (0:Int)))]),(107,.var [.p (.val (.int .u64 (0:Int))),.p (.val (.int .u64 (0:Int)))])]⟩) ?_
    refine lok_join (fun x_:Int × Int × Int × Int => ref01_Divide_j1 x_.1 x_.2.1 x_.2.2.1 x_.2.2.2=some r_) (fun x_ => ⟨82,mkS [(4,.x (.one (.ptr 104 0))),(5,.x (.one (.ptr 105 0))),(6,.x (.one (.ptr 106 0))),(7,.x (.one (.ptr 107 0)))],mkH [(104,.var [.p (.val (.int .u64 (0:Int))),.p (.val (.int .u64 (0:Int)))]),(105,.var [.p (.val (.int .u64 (0:Int))),.p (.val (.int .u64 (0:Int)))]),(106,.var [.p (.val (.int .u64 x_.1)),.p (.val (.int .u64 x_.2.1))]),(107,.var [.p (.val (.int .u64 x_.2.2.1)),.p (.val (.int .u64 x_.2.2.2))])]⟩) ?hyref01_Divide_j1 ?hxref01_Divide_j1
    case hyref01_Divide_j1 =>
      rintro ⟨q,q1,r,r1⟩ H0
      try dsimp only at H0 ⊢
      unfold ref01_Divide_j1 at H0
      refine lok_et E0 82 [⟨[(6,.x (.one (.ptr 106 0)))],[(106,some (.var [.p (.val (.int .u64 q)),.p (.val (.int .u64 q1))]))],[(80,.x (.agg [.p (.val (.int .u64 q)),.p (.val (.int .u64 q1))]))],[],none⟩,
      ⟨[(7,.x (.one (.ptr 107 0)))],[(107,some (.var [.p (.val (.int .u64 r)),.p (.val (.int .u64 r1))]))],[(81,.x (.agg [.p (.val (.int .u64 r)),.p (.val (.int .u64 r1))]))],[],none⟩,
      ⟨[(4,.x (.one (.ptr 104 0))),(80,.x (.agg [.p (.val (.int .u64 q)),.p (.val (.int .u64 q1))]))],[(104,some (.var [.p (.val (.int .u64 (0:Int))),.p (.val (.int .u64 (0:Int)))]))],[],[(104,some (.var [.p (.val (.int .u64 q)),.p (.val (.int .u64 q1))]))],none⟩] (⟨82,mkS [(4,.x (.one (.ptr 104 0))),(5,.x (.one (.ptr 105 0)))],mkH [(104,.var [.p (.val (.int .u64 q)),.p (.val (.int .u64 q1))]),(105,.var [.p (.val (.int .u64 r)),.p (.val (.int .u64 r1))])]⟩) (by kernel_rfl) (by kernel_rfl) (by kernel_rfl) rfl rfl rfl ?_
      refine lok_ret ?_
      obtain rfl:=Option.some.inj H0
      try simp only [thenL,blockL]
      exact fin_au _ (.inr rfl) [] (⟨82,mkS [(4,.x (.one (.ptr 104 0))),(5,.x (.one (.ptr 105 0)))],mkH [(104,.var [.p (.val (.int .u64 q)),.p (.val (.int .u64 q1))]),(105,.var [.p (.val (.int .u64 r)),.p (.val (.int .u64 r1))])]⟩) rfl rfl imp_au
    case hxref01_Divide_j1 =>
      refine lok_rt E0 (⟨82,mkS [(2,.x (.one (.ptr 102 0))),(3,.x (.one (.ptr 103 0))),(4,.x (.one (.ptr 104 0))),(5,.x (.one (.ptr 105 0))),(6,.x (.one (.ptr 106 0))),(7,.x (.one (.ptr 107 0))),(8,.x (.one (.p (pi (127:Int)))))],mkH [(102,.var [.p (.val (.int .u64 a.Hi)),.p (.val (.int .u64 a.Lo))]),(103,.var [.p (.val (.int .u64 b.Hi)),.p (.val (.int .u64 b.Lo))]),(104,.var [.p (.val (.int .u64 (0:Int))),.p (.val (.int .u64 (0:Int)))]),(105,.var [.p (.val (.int .u64 (0:Int))),.p (.val (.int .u64 (0:Int)))]),(106,.var [.p (.val (.int .u64 (0:Int))),.p (.val (.int .u64 (0:Int)))]),(107,.var [.p (.val (.int .u64 (0:Int))),.p (.val (.int .u64 (0:Int)))])]⟩) ?_
      refine lok_block ?_
      replace H0:=bind_some H0
      obtain ⟨v_1,hv_1,H0⟩:=H0
      refine lok_iter (fun x_ => ⟨82,mkS [(2,.x (.one (.ptr 102 0))),(3,.x (.one (.ptr 103 0))),(4,.x (.one (.ptr 104 0))),(5,.x (.one (.ptr 105 0))),(6,.x (.one (.ptr 106 0))),(7,.x (.one (.ptr 107 0))),(8,.x (.one (.p (pi x_.1))))],mkH [(102,.var [.p (.val (.int .u64 a.Hi)),.p (.val (.int .u64 a.Lo))]),(103,.var [.p (.val (.int .u64 b.Hi)),.p (.val (.int .u64 b.Lo))]),(104,.var [.p (.val (.int .u64 (0:Int))),.p (.val (.int .u64 (0:Int)))]),(105,.var [.p (.val (.int .u64 (0:Int))),.p (.val (.int .u64 (0:Int)))]),(106,.var [.p (.val (.int .u64 x_.2.1)),.p (.val (.int .u64 x_.2.2.1))]),(107,.var [.p (.val (.int .u64 x_.2.2.2.1)),.p (.val (.int .u64 x_.2.2.2.2))])]⟩) hv_1 imp_au ?_
      · rintro ⟨i,q2,q3,r2,r3⟩ o_1 H1 k_1
        unfold ref01_Divide_l4 at H1
        try dsimp only at H1 ⊢
        refine lok_seq ?_
        refine lok_rt E0 (⟨82,mkS [(2,.x (.one (.ptr 102 0))),(3,.x (.one (.ptr 103 0))),(4,.x (.one (.ptr 104 0))),(5,.x (.one (.ptr 105 0))),(6,.x (.one (.ptr 106 0))),(7,.x (.one (.ptr 107 0))),(8,.x (.one (.p (pi i)))),(34,.x (.one (.p (.val (.bool (decide ((0:Int)≤i)))))))],mkH [(102,.var [.p (.val (.int .u64 a.Hi)),.p (.val (.int .u64 a.Lo))]),(103,.var [.p (.val (.int .u64 b.Hi)),.p (.val (.int .u64 b.Lo))]),(104,.var [.p (.val (.int .u64 (0:Int))),.p (.val (.int .u64 (0:Int)))]),(105,.var [.p (.val (.int .u64 (0:Int))),.p (.val (.int .u64 (0:Int)))]),(106,.var [.p (.val (.int .u64 q2)),.p (.val (.int .u64 q3))]),(107,.var [.p (.val (.int .u64 r2)),.p (.val (.int .u64 r3))])]⟩) ?_
        refine lok_c (decide ((0:Int)≤i)) ?_ ?_
        · intro b_12
          replace H1:=cpos H1 b_12
          refine lok_skip ?_
          try simp only [thenL,blockL,↓reduceIte,reduceCtorEq]
          refine lok_join (fun x_:Int × Int × Int × Int => ref01_Divide_j2 i x_.1 x_.2.1 x_.2.2.1 x_.2.2.2=some o_1) (fun x_ => ⟨82,mkS [(2,.x (.one (.ptr 102 0))),(3,.x (.one (.ptr 103 0))),(4,.x (.one (.ptr 104 0))),(5,.x (.one (.ptr 105 0))),(6,.x (.one (.ptr 106 0))),(7,.x (.one (.ptr 107 0))),(8,.x (.one (.p (pi i))))],mkH [(102,.var [.p (.val (.int .u64 a.Hi)),.p (.val (.int .u64 a.Lo))]),(103,.var [.p (.val (.int .u64 b.Hi)),.p (.val (.int .u64 b.Lo))]),(104,.var [.p (.val (.int .u64 (0:Int))),.p (.val (.int .u64 (0:Int)))]),(105,.var [.p (.val (.int .u64 (0:Int))),.p (.val (.int .u64 (0:Int)))]),(106,.var [.p (.val (.int .u64 x_.1)),.p (.val (.int .u64 x_.2.1))]),(107,.var [.p (.val (.int .u64 x_.2.2.1)),.p (.val (.int .u64 x_.2.2.2))])]⟩) ?hyref01_Divide_j2 ?hxref01_Divide_j2
          case hyref01_Divide_j2 =>
            rintro ⟨q6,q7,r6,r7⟩ H1
            try dsimp only at H1 ⊢
            unfold ref01_Divide_j2 at H1
            refine lok_rl E0 (⟨82,mkS [(2,.x (.one (.ptr 102 0))),(3,.x (.one (.ptr 103 0))),(4,.x (.one (.ptr 104 0))),(5,.x (.one (.ptr 105 0))),(6,.x (.one (.ptr 106 0))),(7,.x (.one (.ptr 107 0))),(8,.x (.one (.p (pi (IntKind.i64.wrap (i-(1:Int)))))))],mkH [(102,.var [.p (.val (.int .u64 a.Hi)),.p (.val (.int .u64 a.Lo))]),(103,.var [.p (.val (.int .u64 b.Hi)),.p (.val (.int .u64 b.Lo))]),(104,.var [.p (.val (.int .u64 (0:Int))),.p (.val (.int .u64 (0:Int)))]),(105,.var [.p (.val (.int .u64 (0:Int))),.p (.val (.int .u64 (0:Int)))]),(106,.var [.p (.val (.int .u64 q6)),.p (.val (.int .u64 q7))]),(107,.var [.p (.val (.int .u64 r6)),.p (.val (.int .u64 r7))])]⟩) ?_
            try simp only [thenL,blockL,↓reduceIte,reduceCtorEq]
            exact ⟨((IntKind.i64.wrap (i-(1:Int))),q6,q7,r6,r7),(Option.some.inj H1).symm,imp_au⟩
          case hxref01_Divide_j2 =>
            refine lok_block ?_
            replace H1:=req_some H1
            obtain ⟨q_11,H1⟩:=H1
            replace H1:=bindV_some H1
            obtain ⟨bit,a_2,H1⟩:=H1
            refine lok_rtg E0 a_2 (⟨82,mkS [(2,.x (.one (.ptr 102 0))),(3,.x (.one (.ptr 103 0))),(4,.x (.one (.ptr 104 0))),(5,.x (.one (.ptr 105 0))),(6,.x (.one (.ptr 106 0))),(7,.x (.one (.ptr 107 0))),(8,.x (.one (.p (pi i)))),(9,.x (.one (.p (.val (.int .u64 bit)))))],mkH [(102,.var [.p (.val (.int .u64 a.Hi)),.p (.val (.int .u64 a.Lo))]),(103,.var [.p (.val (.int .u64 b.Hi)),.p (.val (.int .u64 b.Lo))]),(104,.var [.p (.val (.int .u64 (0:Int))),.p (.val (.int .u64 (0:Int)))]),(105,.var [.p (.val (.int .u64 (0:Int))),.p (.val (.int .u64 (0:Int)))]),(106,.var [.p (.val (.int .u64 q2)),.p (.val (.int .u64 q3))]),(107,.var [.p (.val (.int .u64 r2)),.p (.val (.int .u64 r3))])]⟩) ?_
            refine lok_join (fun x_:Int => ref01_Divide_j3 b i q2 q3 r2 r3 x_=some o_1) (fun x_ => ⟨82,mkS [(2,.x (.one (.ptr 102 0))),(3,.x (.one (.ptr 103 0))),(4,.x (.one (.ptr 104 0))),(5,.x (.one (.ptr 105 0))),(6,.x (.one (.ptr 106 0))),(7,.x (.one (.ptr 107 0))),(8,.x (.one (.p (pi i)))),(9,.x (.one (.p (.val (.int .u64 x_)))))],mkH [(102,.var [.p (.val (.int .u64 a.Hi)),.p (.val (.int .u64 a.Lo))]),(103,.var [.p (.val (.int .u64 b.Hi)),.p (.val (.int .u64 b.Lo))]),(104,.var [.p (.val (.int .u64 (0:Int))),.p (.val (.int .u64 (0:Int)))]),(105,.var [.p (.val (.int .u64 (0:Int))),.p (.val (.int .u64 (0:Int)))]),(106,.var [.p (.val (.int .u64 q2)),.p (.val (.int .u64 q3))]),(107,.var [.p (.val (.int .u64 r2)),.p (.val (.int .u64 r3))])]⟩) ?hyref01_Divide_j3 ?hxref01_Divide_j3
            case hyref01_Divide_j3 =>
              rintro bit1 H1
              try dsimp only at H1 ⊢
              unfold ref01_Divide_j3 at H1
              refine lok_rt E0 (⟨82,mkS [(2,.x (.one (.ptr 102 0))),(3,.x (.one (.ptr 103 0))),(4,.x (.one (.ptr 104 0))),(5,.x (.one (.ptr 105 0))),(6,.x (.one (.ptr 106 0))),(7,.x (.one (.ptr 107 0))),(8,.x (.one (.p (pi i)))),(9,.x (.one (.p (.val (.int .u64 bit1))))),(10,.x (.one (.p (.val (.bool ((bShr .u64 r2 (63:Int))==(1:Int)))))))],mkH [(102,.var [.p (.val (.int .u64 a.Hi)),.p (.val (.int .u64 a.Lo))]),(103,.var [.p (.val (.int .u64 b.Hi)),.p (.val (.int .u64 b.Lo))]),(104,.var [.p (.val (.int .u64 (0:Int))),.p (.val (.int .u64 (0:Int)))]),(105,.var [.p (.val (.int .u64 (0:Int))),.p (.val (.int .u64 (0:Int)))]),(106,.var [.p (.val (.int .u64 q2)),.p (.val (.int .u64 q3))]),(107,.var [.p (.val (.int .u64 r2)),.p (.val (.int .u64 r3))])]⟩) ?_
              replace H1:=bind_some H1
              obtain ⟨y,h_3,H1⟩:=H1
              refine lok_rt (Env.of E0 [⟨some 58,82,[.agg [.p (.val (.int .u64 r2)),.p (.val (.int .u64 r3))]],[],[.agg [.p (.val (.int .u64 y.Hi)),.p (.val (.int .u64 y.Lo))]],[],True,fun _ => ok_ref01_Twice (ref01_Wide.mk r2 r3) y h_3,[]⟩]) (⟨82,mkS [(2,.x (.one (.ptr 102 0))),(3,.x (.one (.ptr 103 0))),(4,.x (.one (.ptr 104 0))),(5,.x (.one (.ptr 105 0))),(6,.x (.one (.ptr 106 0))),(7,.x (.one (.ptr 107 0))),(8,.x (.one (.p (pi i)))),(9,.x (.one (.p (.val (.int .u64 bit1))))),(10,.x (.one (.p (.val (.bool ((bShr .u64 r2 (63:Int))==(1:Int)))))))],mkH [(102,.var [.p (.val (.int .u64 a.Hi)),.p (.val (.int .u64 a.Lo))]),(103,.var [.p (.val (.int .u64 b.Hi)),.p (.val (.int .u64 b.Lo))]),(104,.var [.p (.val (.int .u64 (0:Int))),.p (.val (.int .u64 (0:Int)))]),(105,.var [.p (.val (.int .u64 (0:Int))),.p (.val (.int .u64 (0:Int)))]),(106,.var [.p (.val (.int .u64 q2)),.p (.val (.int .u64 q3))]),(107,.var [.p (.val (.int .u64 y.Hi)),.p (.val (.int .u64 y.Lo))])]⟩) ?_
              refine lok_rt E0 (⟨82,mkS [(2,.x (.one (.ptr 102 0))),(3,.x (.one (.ptr 103 0))),(4,.x (.one (.ptr 104 0))),(5,.x (.one (.ptr 105 0))),(6,.x (.one (.ptr 106 0))),(7,.x (.one (.ptr 107 0))),(8,.x (.one (.p (pi i)))),(10,.x (.one (.p (.val (.bool ((bShr .u64 r2 (63:Int))==(1:Int)))))))],mkH [(102,.var [.p (.val (.int .u64 a.Hi)),.p (.val (.int .u64 a.Lo))]),(103,.var [.p (.val (.int .u64 b.Hi)),.p (.val (.int .u64 b.Lo))]),(104,.var [.p (.val (.int .u64 (0:Int))),.p (.val (.int .u64 (0:Int)))]),(105,.var [.p (.val (.int .u64 (0:Int))),.p (.val (.int .u64 (0:Int)))]),(106,.var [.p (.val (.int .u64 q2)),.p (.val (.int .u64 q3))]),(107,.var [.p (.val (.int .u64 y.Hi)),.p (.val (.int .u64 (bOr .u64 y.Lo bit1)))])]⟩) ?_
              replace H1:=bind_some H1
              obtain ⟨y1,h_4,H1⟩:=H1
              refine lok_rt (Env.of E0 [⟨some 65,82,[.agg [.p (.val (.int .u64 q2)),.p (.val (.int .u64 q3))]],[],[.agg [.p (.val (.int .u64 y1.Hi)),.p (.val (.int .u64 y1.Lo))]],[],True,fun _ => ok_ref01_Twice (ref01_Wide.mk q2 q3) y1 h_4,[]⟩]) (⟨82,mkS [(2,.x (.one (.ptr 102 0))),(3,.x (.one (.ptr 103 0))),(4,.x (.one (.ptr 104 0))),(5,.x (.one (.ptr 105 0))),(6,.x (.one (.ptr 106 0))),(7,.x (.one (.ptr 107 0))),(8,.x (.one (.p (pi i)))),(10,.x (.one (.p (.val (.bool ((bShr .u64 r2 (63:Int))==(1:Int)))))))],mkH [(102,.var [.p (.val (.int .u64 a.Hi)),.p (.val (.int .u64 a.Lo))]),(103,.var [.p (.val (.int .u64 b.Hi)),.p (.val (.int .u64 b.Lo))]),(104,.var [.p (.val (.int .u64 (0:Int))),.p (.val (.int .u64 (0:Int)))]),(105,.var [.p (.val (.int .u64 (0:Int))),.p (.val (.int .u64 (0:Int)))]),(106,.var [.p (.val (.int .u64 y1.Hi)),.p (.val (.int .u64 y1.Lo))]),(107,.var [.p (.val (.int .u64 y.Hi)),.p (.val (.int .u64 (bOr .u64 y.Lo bit1)))])]⟩) ?_
              replace H1:=req_some H1
              obtain ⟨q_7,H1⟩:=H1
              refine lok_rt (Env.of E0 [⟨some 70,83,[.agg [.p (.val (.int .u64 y.Hi)),.p (.val (.int .u64 (bOr .u64 y.Lo bit1)))],.agg [.p (.val (.int .u64 b.Hi)),.p (.val (.int .u64 b.Lo))]],[],[.one (.p (pi ((ref01_Order (ref01_Wide.mk y.Hi (bOr .u64 y.Lo bit1)) b).getD default)))],[],(ref01_Order (ref01_Wide.mk y.Hi (bOr .u64 y.Lo bit1)) b).isSome=true,fun h => ok_ref01_Order (ref01_Wide.mk y.Hi (bOr .u64 y.Lo bit1)) b _ (isSome_get h),[]⟩]) (⟨82,mkS [(2,.x (.one (.ptr 102 0))),(3,.x (.one (.ptr 103 0))),(4,.x (.one (.ptr 104 0))),(5,.x (.one (.ptr 105 0))),(6,.x (.one (.ptr 106 0))),(7,.x (.one (.ptr 107 0))),(8,.x (.one (.p (pi i)))),(72,.x (.one (.p (.val (.bool (((bShr .u64 r2 (63:Int))==(1:Int))||(decide ((0:Int)≤((ref01_Order (ref01_Wide.mk y.Hi (bOr .u64 y.Lo bit1)) b).getD default)))))))))],mkH [(102,.var [.p (.val (.int .u64 a.Hi)),.p (.val (.int .u64 a.Lo))]),(103,.var [.p (.val (.int .u64 b.Hi)),.p (.val (.int .u64 b.Lo))]),(104,.var [.p (.val (.int .u64 (0:Int))),.p (.val (.int .u64 (0:Int)))]),(105,.var [.p (.val (.int .u64 (0:Int))),.p (.val (.int .u64 (0:Int)))]),(106,.var [.p (.val (.int .u64 y1.Hi)),.p (.val (.int .u64 y1.Lo))]),(107,.var [.p (.val (.int .u64 y.Hi)),.p (.val (.int .u64 (bOr .u64 y.Lo bit1)))])]⟩) ?_
              refine lok_c (((bShr .u64 r2 (63:Int))==(1:Int))||(decide ((0:Int)≤((ref01_Order (ref01_Wide.mk y.Hi (bOr .u64 y.Lo bit1)) b).getD default)))) ?_ ?_
              · intro b_6
                replace H1:=cpos H1 b_6
                replace H1:=bind_some H1
                obtain ⟨y2,h_5,H1⟩:=H1
                refine lok_rt (Env.of E0 [⟨some 75,84,[.agg [.p (.val (.int .u64 y.Hi)),.p (.val (.int .u64 (bOr .u64 y.Lo bit1)))],.agg [.p (.val (.int .u64 b.Hi)),.p (.val (.int .u64 b.Lo))]],[],[.agg [.p (.val (.int .u64 y2.Hi)),.p (.val (.int .u64 y2.Lo))]],[],True,fun _ => ok_ref01_Minus (ref01_Wide.mk y.Hi (bOr .u64 y.Lo bit1)) b y2 h_5,[]⟩]) (⟨82,mkS [(2,.x (.one (.ptr 102 0))),(3,.x (.one (.ptr 103 0))),(4,.x (.one (.ptr 104 0))),(5,.x (.one (.ptr 105 0))),(6,.x (.one (.ptr 106 0))),(7,.x (.one (.ptr 107 0))),(8,.x (.one (.p (pi i))))],mkH [(102,.var [.p (.val (.int .u64 a.Hi)),.p (.val (.int .u64 a.Lo))]),(103,.var [.p (.val (.int .u64 b.Hi)),.p (.val (.int .u64 b.Lo))]),(104,.var [.p (.val (.int .u64 (0:Int))),.p (.val (.int .u64 (0:Int)))]),(105,.var [.p (.val (.int .u64 (0:Int))),.p (.val (.int .u64 (0:Int)))]),(106,.var [.p (.val (.int .u64 y1.Hi)),.p (.val (.int .u64 y1.Lo))]),(107,.var [.p (.val (.int .u64 y2.Hi)),.p (.val (.int .u64 y2.Lo))])]⟩) ?_
                refine lok_rl E0 (⟨82,mkS [(2,.x (.one (.ptr 102 0))),(3,.x (.one (.ptr 103 0))),(4,.x (.one (.ptr 104 0))),(5,.x (.one (.ptr 105 0))),(6,.x (.one (.ptr 106 0))),(7,.x (.one (.ptr 107 0))),(8,.x (.one (.p (pi i))))],mkH [(102,.var [.p (.val (.int .u64 a.Hi)),.p (.val (.int .u64 a.Lo))]),(103,.var [.p (.val (.int .u64 b.Hi)),.p (.val (.int .u64 b.Lo))]),(104,.var [.p (.val (.int .u64 (0:Int))),.p (.val (.int .u64 (0:Int)))]),(105,.var [.p (.val (.int .u64 (0:Int))),.p (.val (.int .u64 (0:Int)))]),(106,.var [.p (.val (.int .u64 y1.Hi)),.p (.val (.int .u64 (bOr .u64 y1.Lo (1:Int))))]),(107,.var [.p (.val (.int .u64 y2.Hi)),.p (.val (.int .u64 y2.Lo))])]⟩) ?_
                try simp only [thenL,blockL,↓reduceIte,reduceCtorEq]
                exact ⟨(y1.Hi,(bOr .u64 y1.Lo (1:Int)),y2.Hi,y2.Lo),H1,imp_au⟩
              · intro b_6
                replace H1:=cneg H1 b_6
                refine lok_skip ?_
                try simp only [thenL,blockL,↓reduceIte,reduceCtorEq]
                exact ⟨(y1.Hi,y1.Lo,y.Hi,(bOr .u64 y.Lo bit1)),H1,imp_au⟩
            case hxref01_Divide_j3 =>
              refine lok_rt E0 (⟨82,mkS [(2,.x (.one (.ptr 102 0))),(3,.x (.one (.ptr 103 0))),(4,.x (.one (.ptr 104 0))),(5,.x (.one (.ptr 105 0))),(6,.x (.one (.ptr 106 0))),(7,.x (.one (.ptr 107 0))),(8,.x (.one (.p (pi i)))),(9,.x (.one (.p (.val (.int .u64 bit))))),(45,.x (.one (.p (.val (.bool (decide ((64:Int)≤i)))))))],mkH [(102,.var [.p (.val (.int .u64 a.Hi)),.p (.val (.int .u64 a.Lo))]),(103,.var [.p (.val (.int .u64 b.Hi)),.p (.val (.int .u64 b.Lo))]),(104,.var [.p (.val (.int .u64 (0:Int))),.p (.val (.int .u64 (0:Int)))]),(105,.var [.p (.val (.int .u64 (0:Int))),.p (.val (.int .u64 (0:Int)))]),(106,.var [.p (.val (.int .u64 q2)),.p (.val (.int .u64 q3))]),(107,.var [.p (.val (.int .u64 r2)),.p (.val (.int .u64 r3))])]⟩) ?_
              refine lok_c (decide ((64:Int)≤i)) ?_ ?_
              · intro b_10
                replace H1:=cpos H1 b_10
                replace H1:=req_some H1
                obtain ⟨q_9,H1⟩:=H1
                replace H1:=bindV_some H1
                obtain ⟨bit2,a_8,H1⟩:=H1
                refine lok_rlg E0 a_8 (⟨82,mkS [(2,.x (.one (.ptr 102 0))),(3,.x (.one (.ptr 103 0))),(4,.x (.one (.ptr 104 0))),(5,.x (.one (.ptr 105 0))),(6,.x (.one (.ptr 106 0))),(7,.x (.one (.ptr 107 0))),(8,.x (.one (.p (pi i)))),(9,.x (.one (.p (.val (.int .u64 bit2)))))],mkH [(102,.var [.p (.val (.int .u64 a.Hi)),.p (.val (.int .u64 a.Lo))]),(103,.var [.p (.val (.int .u64 b.Hi)),.p (.val (.int .u64 b.Lo))]),(104,.var [.p (.val (.int .u64 (0:Int))),.p (.val (.int .u64 (0:Int)))]),(105,.var [.p (.val (.int .u64 (0:Int))),.p (.val (.int .u64 (0:Int)))]),(106,.var [.p (.val (.int .u64 q2)),.p (.val (.int .u64 q3))]),(107,.var [.p (.val (.int .u64 r2)),.p (.val (.int .u64 r3))])]⟩) ?_
                try simp only [thenL,blockL,↓reduceIte,reduceCtorEq]
                exact ⟨bit2,H1,imp_au⟩
              · intro b_10
                replace H1:=cneg H1 b_10
                refine lok_skip ?_
                try simp only [thenL,blockL,↓reduceIte,reduceCtorEq]
                exact ⟨bit,H1,imp_au⟩
        · intro b_12
          replace H1:=cneg H1 b_12
          refine lok_exit ?_
          try simp only [thenL,blockL,↓reduceIte,reduceCtorEq]
          have e_1:=k_1 _ (Option.some.inj H1).symm
          subst e_1
          try dsimp only at H0
          try simp only [thenL,blockL,↓reduceIte,reduceCtorEq]
          exact ⟨(q2,q3,r2,r3),H0,imp_au⟩
theorem ok_ref01_Divisor (a:ref01_Wide) (b:ref01_Wide) (r_:ref01_Wide) (H0:ref01_Divisor a b=some r_):CallOK Tryz.prog 67 [.agg [.p (.val (.int .u64 a.Hi)),.p (.val (.int .u64 a.Lo))],.agg [.p (.val (.int .u64 b.Hi)),.p (.val (.int .u64 b.Lo))]] [] [.agg [.p (.val (.int .u64 r_.Hi)),.p (.val (.int .u64 r_.Lo))]] []:=by
  refine callOK (n:=19) (rs:=[.cell 4 83]) (nb:=0) (V:=[]) Tryz.func67 rfl (by kernel_rfl) rfl rfl rfl rfl (Nat.le_of_ble_eq_true rfl) (by decide) ?_
  unfold ref01_Divisor at H0
  refine lok_rt E0 (⟨19,mkS [(2,.x (.one (.ptr 102 0))),(3,.x (.one (.ptr 103 0))),(4,.x (.one (.ptr 104 0)))],mkH [(102,.var [.p (.val (.int .u64 a.Hi)),.p (.val (.int .u64 a.Lo))]),(103,.var [.p (.val (.int .u64 b.Hi)),.p (.val (.int .u64 b.Lo))]),(104,.var [.p (.val (.int .u64 (0:Int))),.p (.val (.int .u64 (0:Int)))])]⟩) ?_
  refine lok_join (fun x_:Int × Int => ref01_Divisor_j1 x_.1 x_.2=some r_) (fun x_ => ⟨19,mkS [(2,.x (.one (.ptr 102 0))),(4,.x (.one (.ptr 104 0)))],mkH [(102,.var [.p (.val (.int .u64 x_.1)),.p (.val (.int .u64 x_.2))]),(104,.var [.p (.val (.int .u64 (0:Int))),.p (.val (.int .u64 (0:Int)))])]⟩) ?hyref01_Divisor_j1 ?hxref01_Divisor_j1
  case hyref01_Divisor_j1 =>
    rintro ⟨a1,a2⟩ H0
    try dsimp only at H0 ⊢
    unfold ref01_Divisor_j1 at H0
    refine lok_rt E0 (⟨19,mkS [(4,.x (.one (.ptr 104 0)))],mkH [(104,.var [.p (.val (.int .u64 a1)),.p (.val (.int .u64 a2))])]⟩) ?_
    refine lok_ret ?_
    obtain rfl:=Option.some.inj H0
    try simp only [thenL,blockL]
    exact fin_au _ (.inr rfl) [] (⟨19,mkS [(4,.x (.one (.ptr 104 0)))],mkH [(104,.var [.p (.val (.int .u64 a1)),.p (.val (.int .u64 a2))])]⟩) rfl rfl imp_au
  case hxref01_Divisor_j1 =>
    refine lok_block ?_
    replace H0:=bind_some H0
    obtain ⟨v_0,hv_0,H0⟩:=H0
    refine lok_iter (fun x_ => ⟨19,mkS [(2,.x (.one (.ptr 102 0))),(3,.x (.one (.ptr 103 0))),(4,.x (.one (.ptr 104 0)))],mkH [(102,.var [.p (.val (.int .u64 x_.1)),.p (.val (.int .u64 x_.2.1))]),(103,.var [.p (.val (.int .u64 x_.2.2.1)),.p (.val (.int .u64 x_.2.2.2))]),(104,.var [.p (.val (.int .u64 (0:Int))),.p (.val (.int .u64 (0:Int)))])]⟩) hv_0 imp_au ?_
    · rintro ⟨a3,a4,b1,b2⟩ o_1 H1 k_1
      unfold ref01_Divisor_l2 at H1
      try dsimp only at H1 ⊢
      refine lok_seq ?_
      refine lok_rt E0 (⟨19,mkS [(2,.x (.one (.ptr 102 0))),(3,.x (.one (.ptr 103 0))),(4,.x (.one (.ptr 104 0))),(9,.x (.one (.p (.val (.bool (!((b1==(0:Int))&&(b2==(0:Int)))))))))],mkH [(102,.var [.p (.val (.int .u64 a3)),.p (.val (.int .u64 a4))]),(103,.var [.p (.val (.int .u64 b1)),.p (.val (.int .u64 b2))]),(104,.var [.p (.val (.int .u64 (0:Int))),.p (.val (.int .u64 (0:Int)))])]⟩) ?_
      refine lok_c (!((b1==(0:Int))&&(b2==(0:Int)))) ?_ ?_
      · intro b_2
        replace H1:=cpos H1 b_2
        refine lok_skip ?_
        try simp only [thenL,blockL,↓reduceIte,reduceCtorEq]
        refine lok_block ?_
        replace H1:=bind_some H1
        obtain ⟨⟨y,y1⟩,h_1,H1⟩:=H1
        try dsimp only at H1
        refine lok_rt (Env.of E0 [⟨some 13,68,[.agg [.p (.val (.int .u64 a3)),.p (.val (.int .u64 a4))],.agg [.p (.val (.int .u64 b1)),.p (.val (.int .u64 b2))]],[],[.agg [.p (.val (.int .u64 y.Hi)),.p (.val (.int .u64 y.Lo))],.agg [.p (.val (.int .u64 y1.Hi)),.p (.val (.int .u64 y1.Lo))]],[],True,fun _ => ok_ref01_Divide (ref01_Wide.mk a3 a4) (ref01_Wide.mk b1 b2) (y,y1) h_1,[]⟩]) (⟨19,mkS [(2,.x (.one (.ptr 102 0))),(3,.x (.one (.ptr 103 0))),(4,.x (.one (.ptr 104 0))),(6,.x (.one (.ptr 106 0)))],mkH [(102,.var [.p (.val (.int .u64 a3)),.p (.val (.int .u64 a4))]),(103,.var [.p (.val (.int .u64 b1)),.p (.val (.int .u64 b2))]),(104,.var [.p (.val (.int .u64 (0:Int))),.p (.val (.int .u64 (0:Int)))]),(106,.var [.p (.val (.int .u64 y1.Hi)),.p (.val (.int .u64 y1.Lo))])]⟩) ?_
        refine lok_el E0 19 [⟨[(3,.x (.one (.ptr 103 0)))],[(103,some (.var [.p (.val (.int .u64 b1)),.p (.val (.int .u64 b2))]))],[(16,.x (.agg [.p (.val (.int .u64 b1)),.p (.val (.int .u64 b2))]))],[],none⟩,
      ⟨[(6,.x (.one (.ptr 106 0)))],[(106,some (.var [.p (.val (.int .u64 y1.Hi)),.p (.val (.int .u64 y1.Lo))]))],[(17,.x (.agg [.p (.val (.int .u64 y1.Hi)),.p (.val (.int .u64 y1.Lo))]))],[],none⟩,
      ⟨[(2,.x (.one (.ptr 102 0))),(16,.x (.agg [.p (.val (.int .u64 b1)),.p (.val (.int .u64 b2))]))],[(102,some (.var [.p (.val (.int .u64 a3)),.p (.val (.int .u64 a4))]))],[],[(102,some (.var [.p (.val (.int .u64 b1)),.p (.val (.int .u64 b2))]))],none⟩] (⟨19,mkS [(2,.x (.one (.ptr 102 0))),(3,.x (.one (.ptr 103 0))),(4,.x (.one (.ptr 104 0)))],mkH [(102,.var [.p (.val (.int .u64 b1)),.p (.val (.int .u64 b2))]),(103,.var [.p (.val (.int .u64 y1.Hi)),.p (.val (.int .u64 y1.Lo))]),(104,.var [.p (.val (.int .u64 (0:Int))),.p (.val (.int .u64 (0:Int)))])]⟩) (by kernel_rfl) (by kernel_rfl) (by kernel_rfl) rfl rfl rfl ?_
        try simp only [thenL,blockL,↓reduceIte,reduceCtorEq]
        exact ⟨(b1,b2,y1.Hi,y1.Lo),(Option.some.inj H1).symm,imp_au⟩
      · intro b_2
        replace H1:=cneg H1 b_2
        refine lok_exit ?_
        try simp only [thenL,blockL,↓reduceIte,reduceCtorEq]
        have e_1:=k_1 _ (Option.some.inj H1).symm
        subst e_1
        try dsimp only at H0
        try simp only [thenL,blockL,↓reduceIte,reduceCtorEq]
        exact ⟨(a3,a4),H0,imp_au⟩
theorem ok_ref01_Reduce (negative:Bool) (num:ref01_Wide) (den:ref01_Wide) (r_:api_Ratio × Int) (H0:ref01_Reduce negative num den=some r_):CallOK Tryz.prog 51 [.one (.p (.val (.bool negative))),.agg [.p (.val (.int .u64 num.Hi)),.p (.val (.int .u64 num.Lo))],.agg [.p (.val (.int .u64 den.Hi)),.p (.val (.int .u64 den.Lo))]] [] [.agg [.p (pi r_.1.Num),.p (pi r_.1.Den)],.one (.p (pi r_.2))] []:=by
  refine callOK (n:=61) (rs:=[.cell 6 26,.tmp 7]) (nb:=0) (V:=[]) Tryz.func51 rfl (by kernel_rfl) rfl rfl rfl rfl (Nat.le_of_ble_eq_true rfl) (by decide) ?_
  unfold ref01_Reduce at H0
  refine lok_rt E0 (⟨61,mkS [(0,.x (.one (.p (.val (.bool negative))))),(4,.x (.one (.ptr 104 0))),(5,.x (.one (.ptr 105 0))),(6,.x (.one (.ptr 106 0)))],mkH [(104,.var [.p (.val (.int .u64 num.Hi)),.p (.val (.int .u64 num.Lo))]),(105,.var [.p (.val (.int .u64 den.Hi)),.p (.val (.int .u64 den.Lo))]),(106,.var [.p (pi (0:Int)),.p (pi (0:Int))])]⟩) ?_
  replace H0:=bind_some H0
  obtain ⟨y,h_0,H0⟩:=H0
  refine lok_rt (Env.of E0 [⟨some 16,67,[.agg [.p (.val (.int .u64 num.Hi)),.p (.val (.int .u64 num.Lo))],.agg [.p (.val (.int .u64 den.Hi)),.p (.val (.int .u64 den.Lo))]],[],[.agg [.p (.val (.int .u64 y.Hi)),.p (.val (.int .u64 y.Lo))]],[],True,fun _ => ok_ref01_Divisor num den y h_0,[]⟩]) (⟨61,mkS [(0,.x (.one (.p (.val (.bool negative))))),(4,.x (.one (.ptr 104 0))),(5,.x (.one (.ptr 105 0))),(6,.x (.one (.ptr 106 0))),(8,.x (.one (.ptr 108 0)))],mkH [(104,.var [.p (.val (.int .u64 num.Hi)),.p (.val (.int .u64 num.Lo))]),(105,.var [.p (.val (.int .u64 den.Hi)),.p (.val (.int .u64 den.Lo))]),(106,.var [.p (pi (0:Int)),.p (pi (0:Int))]),(108,.var [.p (.val (.int .u64 y.Hi)),.p (.val (.int .u64 y.Lo))])]⟩) ?_
  replace H0:=bind_some H0
  obtain ⟨⟨y1,y2⟩,h_1,H0⟩:=H0
  try dsimp only at H0
  refine lok_rt (Env.of E0 [⟨some 20,68,[.agg [.p (.val (.int .u64 num.Hi)),.p (.val (.int .u64 num.Lo))],.agg [.p (.val (.int .u64 y.Hi)),.p (.val (.int .u64 y.Lo))]],[],[.agg [.p (.val (.int .u64 y1.Hi)),.p (.val (.int .u64 y1.Lo))],.agg [.p (.val (.int .u64 y2.Hi)),.p (.val (.int .u64 y2.Lo))]],[],True,fun _ => ok_ref01_Divide num y (y1,y2) h_1,[]⟩]) (⟨61,mkS [(0,.x (.one (.p (.val (.bool negative))))),(5,.x (.one (.ptr 105 0))),(6,.x (.one (.ptr 106 0))),(8,.x (.one (.ptr 108 0))),(9,.x (.one (.ptr 109 0)))],mkH [(105,.var [.p (.val (.int .u64 den.Hi)),.p (.val (.int .u64 den.Lo))]),(106,.var [.p (pi (0:Int)),.p (pi (0:Int))]),(108,.var [.p (.val (.int .u64 y.Hi)),.p (.val (.int .u64 y.Lo))]),(109,.var [.p (.val (.int .u64 y1.Hi)),.p (.val (.int .u64 y1.Lo))])]⟩) ?_
  replace H0:=bind_some H0
  obtain ⟨⟨y3,y4⟩,h_2,H0⟩:=H0
  try dsimp only at H0
  refine lok_rt (Env.of E0 [⟨some 26,68,[.agg [.p (.val (.int .u64 den.Hi)),.p (.val (.int .u64 den.Lo))],.agg [.p (.val (.int .u64 y.Hi)),.p (.val (.int .u64 y.Lo))]],[],[.agg [.p (.val (.int .u64 y3.Hi)),.p (.val (.int .u64 y3.Lo))],.agg [.p (.val (.int .u64 y4.Hi)),.p (.val (.int .u64 y4.Lo))]],[],True,fun _ => ok_ref01_Divide den y (y3,y4) h_2,[]⟩]) (⟨61,mkS [(0,.x (.one (.p (.val (.bool negative))))),(6,.x (.one (.ptr 106 0))),(9,.x (.one (.ptr 109 0))),(11,.x (.one (.ptr 111 0)))],mkH [(106,.var [.p (pi (0:Int)),.p (pi (0:Int))]),(109,.var [.p (.val (.int .u64 y1.Hi)),.p (.val (.int .u64 y1.Lo))]),(111,.var [.p (.val (.int .u64 y3.Hi)),.p (.val (.int .u64 y3.Lo))])]⟩) ?_
  refine lok_seq ?_
  refine lok_rt E0 (⟨61,mkS [(0,.x (.one (.p (.val (.bool negative))))),(6,.x (.one (.ptr 106 0))),(9,.x (.one (.ptr 109 0))),(11,.x (.one (.ptr 111 0))),(46,.x (.one (.p (.val (.bool ((((decide ((0:Int)<y1.Hi))||(decide ((0:Int)<y3.Hi)))||(decide ((1152921504606846976:Int)<y1.Lo)))||(decide ((1152921504606846976:Int)<y3.Lo))))))))],mkH [(106,.var [.p (pi (0:Int)),.p (pi (0:Int))]),(109,.var [.p (.val (.int .u64 y1.Hi)),.p (.val (.int .u64 y1.Lo))]),(111,.var [.p (.val (.int .u64 y3.Hi)),.p (.val (.int .u64 y3.Lo))])]⟩) ?_
  refine lok_c ((((decide ((0:Int)<y1.Hi))||(decide ((0:Int)<y3.Hi)))||(decide ((1152921504606846976:Int)<y1.Lo)))||(decide ((1152921504606846976:Int)<y3.Lo))) ?_ ?_
  · intro b_4
    replace H0:=cpos H0 b_4
    refine lok_rt E0 (⟨61,mkS [(6,.x (.one (.ptr 106 0))),(7,.x (.one (.p (pi (6:Int)))))],mkH [(106,.var [.p (pi (0:Int)),.p (pi (0:Int))])]⟩) ?_
    refine lok_ret ?_
    obtain rfl:=Option.some.inj H0
    try simp only [thenL,blockL]
    exact fin_au _ (.inr rfl) [] (⟨61,mkS [(6,.x (.one (.ptr 106 0))),(7,.x (.one (.p (pi (6:Int)))))],mkH [(106,.var [.p (pi (0:Int)),.p (pi (0:Int))])]⟩) rfl rfl imp_au
  · intro b_4
    replace H0:=cneg H0 b_4
    refine lok_skip ?_
    try simp only [thenL,blockL,↓reduceIte,reduceCtorEq]
    refine lok_rt E0 (⟨61,mkS [(0,.x (.one (.p (.val (.bool negative))))),(6,.x (.one (.ptr 106 0))),(13,.x (.one (.ptr 113 0)))],mkH [(106,.var [.p (pi (0:Int)),.p (pi (0:Int))]),(113,.var [.p (pi (IntKind.i64.wrap y1.Lo)),.p (pi (IntKind.i64.wrap y3.Lo))])]⟩) ?_
    refine lok_join (fun x_:Int => ref01_Reduce_j1 y3 x_=some r_) (fun x_ => ⟨61,mkS [(6,.x (.one (.ptr 106 0))),(13,.x (.one (.ptr 113 0)))],mkH [(106,.var [.p (pi (0:Int)),.p (pi (0:Int))]),(113,.var [.p (pi x_),.p (pi (IntKind.i64.wrap y3.Lo))])]⟩) ?hyref01_Reduce_j1 ?hxref01_Reduce_j1
    case hyref01_Reduce_j1 =>
      rintro out H0
      try dsimp only at H0 ⊢
      unfold ref01_Reduce_j1 at H0
      refine lok_rt E0 (⟨61,mkS [(6,.x (.one (.ptr 106 0))),(7,.x (.one (.p (pi (0:Int)))))],mkH [(106,.var [.p (pi out),.p (pi (IntKind.i64.wrap y3.Lo))])]⟩) ?_
      refine lok_ret ?_
      obtain rfl:=Option.some.inj H0
      try simp only [thenL,blockL]
      exact fin_au _ (.inr rfl) [] (⟨61,mkS [(6,.x (.one (.ptr 106 0))),(7,.x (.one (.p (pi (0:Int)))))],mkH [(106,.var [.p (pi out),.p (pi (IntKind.i64.wrap y3.Lo))])]⟩) rfl rfl imp_au
    case hxref01_Reduce_j1 =>
      refine lok_rt E0 (⟨61,mkS [(6,.x (.one (.ptr 106 0))),(13,.x (.one (.ptr 113 0))),(55,.x (.one (.p (.val (.bool negative)))))],mkH [(106,.var [.p (pi (0:Int)),.p (pi (0:Int))]),(113,.var [.p (pi (IntKind.i64.wrap y1.Lo)),.p (pi (IntKind.i64.wrap y3.Lo))])]⟩) ?_
      refine lok_c negative ?_ ?_
      · intro b_3
        replace H0:=cpos H0 b_3
        refine lok_rl E0 (⟨61,mkS [(6,.x (.one (.ptr 106 0))),(13,.x (.one (.ptr 113 0)))],mkH [(106,.var [.p (pi (0:Int)),.p (pi (0:Int))]),(113,.var [.p (pi (IntKind.i64.wrap (0-(IntKind.i64.wrap y1.Lo)))),.p (pi (IntKind.i64.wrap y3.Lo))])]⟩) ?_
        try simp only [thenL,blockL,↓reduceIte,reduceCtorEq]
        exact ⟨(IntKind.i64.wrap (0-(IntKind.i64.wrap y1.Lo))),H0,imp_au⟩
      · intro b_3
        replace H0:=cneg H0 b_3
        refine lok_skip ?_
        try simp only [thenL,blockL,↓reduceIte,reduceCtorEq]
        exact ⟨(IntKind.i64.wrap y1.Lo),H0,imp_au⟩
theorem ok_ref01_Size (n:Int) (r_:Int) (H0:ref01_Size n=some r_):CallOK Tryz.prog 52 [.one (.p (pi n))] [] [.one (.p (.val (.int .u64 r_)))] []:=by
  refine callOK (n:=12) (rs:=[.tmp 2]) (nb:=0) (V:=[]) Tryz.func52 rfl (by kernel_rfl) rfl rfl rfl rfl (Nat.le_of_ble_eq_true rfl) (by decide) ?_
  unfold ref01_Size at H0
  refine lok_rt E0 (⟨12,mkS [(0,.x (.one (.p (pi n))))],mkH []⟩) ?_
  refine lok_seq ?_
  refine lok_rt E0 (⟨12,mkS [(0,.x (.one (.p (pi n)))),(4,.x (.one (.p (.val (.bool (decide (n<(0:Int))))))))],mkH []⟩) ?_
  refine lok_c (decide (n<(0:Int))) ?_ ?_
  · intro b_1
    replace H0:=cpos H0 b_1
    replace H0:=bindV_some H0
    obtain ⟨v,a_0,H0⟩:=H0
    refine lok_rtg E0 a_0 (⟨12,mkS [(2,.x (.one (.p (.val (.int .u64 v)))))],mkH []⟩) ?_
    refine lok_ret ?_
    obtain rfl:=Option.some.inj H0
    try simp only [thenL,blockL]
    exact fin_au _ (.inr rfl) [] (⟨12,mkS [(2,.x (.one (.p (.val (.int .u64 v)))))],mkH []⟩) rfl rfl imp_au
  · intro b_1
    replace H0:=cneg H0 b_1
    refine lok_skip ?_
    try simp only [thenL,blockL,↓reduceIte,reduceCtorEq]
    refine lok_rt E0 (⟨12,mkS [(2,.x (.one (.p (.val (.int .u64 (IntKind.u64.wrap n))))))],mkH []⟩) ?_
    refine lok_ret ?_
    obtain rfl:=Option.some.inj H0
    try simp only [thenL,blockL]
    exact fin_au _ (.inr rfl) [] (⟨12,mkS [(2,.x (.one (.p (.val (.int .u64 (IntKind.u64.wrap n))))))],mkH []⟩) rfl rfl imp_au
theorem ok_ref01_New (num:Int) (den:Int) (r_:api_Ratio × Int) (H0:ref01_New num den=some r_):CallOK Tryz.prog 38 [.one (.p (pi num)),.one (.p (pi den))] [] [.agg [.p (pi r_.1.Num),.p (pi r_.1.Den)],.one (.p (pi r_.2))] []:=by
  refine callOK (n:=23) (rs:=[.cell 4 26,.tmp 5]) (nb:=0) (V:=[]) Tryz.func38 rfl (by kernel_rfl) rfl rfl rfl rfl (Nat.le_of_ble_eq_true rfl) (by decide) ?_
  unfold ref01_New at H0
  refine lok_rt E0 (⟨23,mkS [(0,.x (.one (.p (pi num)))),(1,.x (.one (.p (pi den)))),(4,.x (.one (.ptr 104 0)))],mkH [(104,.var [.p (pi (0:Int)),.p (pi (0:Int))])]⟩) ?_
  refine lok_seq ?_
  refine lok_rt E0 (⟨23,mkS [(0,.x (.one (.p (pi num)))),(1,.x (.one (.p (pi den)))),(4,.x (.one (.ptr 104 0))),(7,.x (.one (.p (.val (.bool (den==(0:Int)))))))],mkH [(104,.var [.p (pi (0:Int)),.p (pi (0:Int))])]⟩) ?_
  refine lok_c (den==(0:Int)) ?_ ?_
  · intro b_3
    replace H0:=cpos H0 b_3
    refine lok_rt E0 (⟨23,mkS [(4,.x (.one (.ptr 104 0))),(5,.x (.one (.p (pi (2:Int)))))],mkH [(104,.var [.p (pi (0:Int)),.p (pi (0:Int))])]⟩) ?_
    refine lok_ret ?_
    obtain rfl:=Option.some.inj H0
    try simp only [thenL,blockL]
    exact fin_au _ (.inr rfl) [] (⟨23,mkS [(4,.x (.one (.ptr 104 0))),(5,.x (.one (.p (pi (2:Int)))))],mkH [(104,.var [.p (pi (0:Int)),.p (pi (0:Int))])]⟩) rfl rfl imp_au
  · intro b_3
    replace H0:=cneg H0 b_3
    refine lok_skip ?_
    try simp only [thenL,blockL,↓reduceIte,reduceCtorEq]
    replace H0:=bind_some H0
    obtain ⟨y,h_0,H0⟩:=H0
    replace H0:=bind_some H0
    obtain ⟨y1,h_1,H0⟩:=H0
    replace H0:=bind_some H0
    obtain ⟨⟨y2,y3⟩,h_2,H0⟩:=H0
    try dsimp only at H0
    refine lok_rt (Env.of E0 [⟨some 15,52,[.one (.p (pi num))],[],[.one (.p (.val (.int .u64 y)))],[],True,fun _ => ok_ref01_Size num y h_0,[]⟩,
      ⟨some 18,52,[.one (.p (pi den))],[],[.one (.p (.val (.int .u64 y1)))],[],True,fun _ => ok_ref01_Size den y1 h_1,[]⟩,
      ⟨some 20,51,[.one (.p (.val (.bool (!((decide (num<(0:Int)))==(decide (den<(0:Int)))))))),.agg [.p (.val (.int .u64 (0:Int))),.p (.val (.int .u64 y))],.agg [.p (.val (.int .u64 (0:Int))),.p (.val (.int .u64 y1))]],[],[.agg [.p (pi y2.Num),.p (pi y2.Den)],.one (.p (pi y3))],[],True,fun _ => ok_ref01_Reduce (!((decide (num<(0:Int)))==(decide (den<(0:Int))))) (ref01_Wide.mk (0:Int) y) (ref01_Wide.mk (0:Int) y1) (y2,y3) h_2,[]⟩]) (⟨23,mkS [(4,.x (.one (.ptr 104 0))),(5,.x (.one (.p (pi y3))))],mkH [(104,.var [.p (pi y2.Num),.p (pi y2.Den)])]⟩) ?_
    refine lok_ret ?_
    obtain rfl:=Option.some.inj H0
    try simp only [thenL,blockL]
    exact fin_au _ (.inr rfl) [] (⟨23,mkS [(4,.x (.one (.ptr 104 0))),(5,.x (.one (.p (pi y3))))],mkH [(104,.var [.p (pi y2.Num),.p (pi y2.Den)])]⟩) rfl rfl imp_au
theorem ok_ref35_reached (d:api_Distribution) (b:Int) (r_:Int) (H0:ref35_reached d b=some r_):CallOK Tryz.prog 39 [.agg [.p (.sl 1 (List.map encI d.Counts))],.one (.p (pi b))] [] [.one (.p (pi r_))] []:=by
  refine callOK (n:=11) (rs:=[.tmp 4]) (nb:=0) (V:=[]) Tryz.func39 rfl (by kernel_rfl) rfl rfl rfl rfl (Nat.le_of_ble_eq_true rfl) (by decide) ?_
  unfold ref35_reached at H0
  refine lok_rt E0 (⟨11,mkS [(1,.x (.one (.p (pi b)))),(2,.x (.one (.ptr 102 0)))],mkH [(102,.var [.p (.sl 1 (List.map encI d.Counts))])]⟩) ?_
  replace H0:=bind_some H0
  obtain ⟨y,h_0,H0⟩:=H0
  replace H0:=bind_some H0
  obtain ⟨y1,h_1,H0⟩:=H0
  refine lok_dt (Env.of E0 [⟨some 6,37,[.agg [.p (.sl 1 (List.map encI d.Counts))]],[],[.one (.p (pi y))],[],True,fun _ => ok_ref32_Count d y h_0,[]⟩,
      ⟨some 9,50,[.agg [.p (.sl 1 (List.map encI d.Counts))],.one (.p (pi b))],[],[.one (.p (pi y1))],[],True,fun _ => ok_ref32_Below d b y1 h_1,[]⟩]) 4 (⟨11,mkS [(4,.x (.one (.p (pi (IntKind.i64.wrap (y-y1))))))],mkH []⟩) (by kernel_rfl) (by kernel_rfl) ?_
  refine lok_ret ?_
  obtain rfl:=Option.some.inj H0
  try simp only [thenL,blockL]
  exact fin_au _ (.inr rfl) [] (⟨11,mkS [(4,.x (.one (.p (pi (IntKind.i64.wrap (y-y1))))))],mkH []⟩) rfl rfl imp_au
theorem ok_ref01_Valid (a:api_Ratio) (r_:Bool) (H0:ref01_Valid a=some r_):CallOK Tryz.prog 60 [.agg [.p (pi a.Num),.p (pi a.Den)]] [] [.one (.p (.val (.bool r_)))] []:=by
  refine callOK (n:=32) (rs:=[.tmp 2]) (nb:=0) (V:=[]) Tryz.func60 rfl (by kernel_rfl) rfl rfl rfl rfl (Nat.le_of_ble_eq_true rfl) (by decide) ?_
  unfold ref01_Valid at H0
  refine lok_rt E0 (⟨32,mkS [(1,.x (.one (.ptr 101 0)))],mkH [(101,.var [.p (pi a.Num),.p (pi a.Den)])]⟩) ?_
  refine lok_seq ?_
  refine lok_rt E0 (⟨32,mkS [(1,.x (.one (.ptr 101 0))),(20,.x (.one (.p (.val (.bool ((((decide (a.Den<(1:Int)))||(decide ((1152921504606846976:Int)<a.Den)))||(decide (a.Num<(-1152921504606846976:Int))))||(decide ((1152921504606846976:Int)<a.Num))))))))],mkH [(101,.var [.p (pi a.Num),.p (pi a.Den)])]⟩) ?_
  refine lok_c ((((decide (a.Den<(1:Int)))||(decide ((1152921504606846976:Int)<a.Den)))||(decide (a.Num<(-1152921504606846976:Int))))||(decide ((1152921504606846976:Int)<a.Num))) ?_ ?_
  · intro b_3
    replace H0:=cpos H0 b_3
    refine lok_rt E0 (⟨32,mkS [(2,.x (.one (.p (.val (.bool false)))))],mkH []⟩) ?_
    refine lok_ret ?_
    obtain rfl:=Option.some.inj H0
    try simp only [thenL,blockL]
    exact fin_au _ (.inr rfl) [] (⟨32,mkS [(2,.x (.one (.p (.val (.bool false)))))],mkH []⟩) rfl rfl imp_au
  · intro b_3
    replace H0:=cneg H0 b_3
    refine lok_skip ?_
    try simp only [thenL,blockL,↓reduceIte,reduceCtorEq]
    replace H0:=bind_some H0
    obtain ⟨y,h_0,H0⟩:=H0
    replace H0:=bind_some H0
    obtain ⟨y1,h_1,H0⟩:=H0
    replace H0:=bind_some H0
    obtain ⟨y2,h_2,H0⟩:=H0
    refine lok_dt (Env.of E0 [⟨some 23,52,[.one (.p (pi a.Num))],[],[.one (.p (.val (.int .u64 y)))],[],True,fun _ => ok_ref01_Size a.Num y h_0,[]⟩,
      ⟨some 27,52,[.one (.p (pi a.Den))],[],[.one (.p (.val (.int .u64 y1)))],[],True,fun _ => ok_ref01_Size a.Den y1 h_1,[]⟩,
      ⟨some 29,67,[.agg [.p (.val (.int .u64 (0:Int))),.p (.val (.int .u64 y))],.agg [.p (.val (.int .u64 (0:Int))),.p (.val (.int .u64 y1))]],[],[.agg [.p (.val (.int .u64 y2.Hi)),.p (.val (.int .u64 y2.Lo))]],[],True,fun _ => ok_ref01_Divisor (ref01_Wide.mk (0:Int) y) (ref01_Wide.mk (0:Int) y1) y2 h_2,[]⟩]) 10 (⟨32,mkS [(2,.x (.one (.p (.val (.bool ((y2.Hi==(0:Int))&&(y2.Lo==(1:Int))))))))],mkH []⟩) (by kernel_rfl) (by kernel_rfl) ?_
    refine lok_ret ?_
    obtain rfl:=Option.some.inj H0
    try simp only [thenL,blockL]
    exact fin_au _ (.inr rfl) [] (⟨32,mkS [(2,.x (.one (.p (.val (.bool ((y2.Hi==(0:Int))&&(y2.Lo==(1:Int))))))))],mkH []⟩) rfl rfl imp_au
theorem ok_ref32_Outside (share:api_Ratio) (r_:Bool) (H0:ref32_Outside share=some r_):CallOK Tryz.prog 61 [.agg [.p (pi share.Num),.p (pi share.Den)]] [] [.one (.p (.val (.bool r_)))] []:=by
  refine callOK (n:=13) (rs:=[.tmp 2]) (nb:=0) (V:=[]) Tryz.func61 rfl (by kernel_rfl) rfl rfl rfl rfl (Nat.le_of_ble_eq_true rfl) (by decide) ?_
  unfold ref32_Outside at H0
  refine lok_rt E0 (⟨13,mkS [(1,.x (.one (.ptr 101 0)))],mkH [(101,.var [.p (pi share.Num),.p (pi share.Den)])]⟩) ?_
  refine lok_rt E0 (⟨13,mkS [(2,.x (.one (.p (.val (.bool ((decide (share.Num<(0:Int)))||(decide (share.Den<share.Num))))))))],mkH []⟩) ?_
  refine lok_ret ?_
  obtain rfl:=Option.some.inj H0
  try simp only [thenL,blockL]
  exact fin_au _ (.inr rfl) [] (⟨13,mkS [(2,.x (.one (.p (.val (.bool ((decide (share.Num<(0:Int)))||(decide (share.Den<share.Num))))))))],mkH []⟩) rfl rfl imp_au
theorem ok_ref35_wrong (d:api_Distribution) (share:api_Ratio) (r_:Int) (H0:ref35_wrong d share=some r_):CallOK Tryz.prog 44 [.agg [.p (.sl 1 (List.map encI d.Counts))],.agg [.p (pi share.Num),.p (pi share.Den)]] [] [.one (.p (pi r_))] []:=by
  refine callOK (n:=21) (rs:=[.tmp 4]) (nb:=0) (V:=[]) Tryz.func44 rfl (by kernel_rfl) rfl rfl rfl rfl (Nat.le_of_ble_eq_true rfl) (by decide) ?_
  unfold ref35_wrong at H0
  refine lok_rt E0 (⟨21,mkS [(2,.x (.one (.ptr 102 0))),(3,.x (.one (.ptr 103 0)))],mkH [(102,.var [.p (.sl 1 (List.map encI d.Counts))]),(103,.var [.p (pi share.Num),.p (pi share.Den)])]⟩) ?_
  refine lok_seq ?_
  refine lok_block ?_
  replace H0:=bind_some H0
  obtain ⟨y,h_0,H0⟩:=H0
  replace H0:=req_some H0
  obtain ⟨q_6,H0⟩:=H0
  refine lok_rt (Env.of E0 [⟨some 7,32,[.agg [.p (.sl 1 (List.map encI d.Counts))]],[],[.one (.p (.val (.bool y)))],[],True,fun _ => ok_ref32_Valid d y h_0,[]⟩,
      ⟨some 11,60,[.agg [.p (pi share.Num),.p (pi share.Den)]],[],[.one (.p (.val (.bool ((ref01_Valid share).getD default))))],[],(ref01_Valid share).isSome=true,fun h => ok_ref01_Valid share _ (isSome_get h),[]⟩]) (⟨21,mkS [(2,.x (.one (.ptr 102 0))),(3,.x (.one (.ptr 103 0))),(5,.x (.one (.p (.val (.bool ((!y)||(!((ref01_Valid share).getD default))))))))],mkH [(102,.var [.p (.sl 1 (List.map encI d.Counts))]),(103,.var [.p (pi share.Num),.p (pi share.Den)])]⟩) ?_
  refine lok_c ((!y)||(!((ref01_Valid share).getD default))) ?_ ?_
  · intro b_5
    replace H0:=cpos H0 b_5
    refine lok_rt E0 (⟨21,mkS [(4,.x (.one (.p (pi (1:Int)))))],mkH []⟩) ?_
    refine lok_ret ?_
    obtain rfl:=Option.some.inj H0
    try simp only [thenL,blockL]
    exact fin_au _ (.inr rfl) [] (⟨21,mkS [(4,.x (.one (.p (pi (1:Int)))))],mkH []⟩) rfl rfl imp_au
  · intro b_5
    replace H0:=cneg H0 b_5
    replace H0:=bind_some H0
    obtain ⟨y1,h_1,H0⟩:=H0
    refine lok_rt (Env.of E0 [⟨some 16,37,[.agg [.p (.sl 1 (List.map encI d.Counts))]],[],[.one (.p (pi y1))],[],True,fun _ => ok_ref32_Count d y1 h_1,[]⟩]) (⟨21,mkS [(3,.x (.one (.ptr 103 0))),(14,.x (.one (.p (.val (.bool (y1==(0:Int)))))))],mkH [(103,.var [.p (pi share.Num),.p (pi share.Den)])]⟩) ?_
    refine lok_c (y1==(0:Int)) ?_ ?_
    · intro b_4
      replace H0:=cpos H0 b_4
      refine lok_rt E0 (⟨21,mkS [(4,.x (.one (.p (pi (10:Int)))))],mkH []⟩) ?_
      refine lok_ret ?_
      obtain rfl:=Option.some.inj H0
      try simp only [thenL,blockL]
      exact fin_au _ (.inr rfl) [] (⟨21,mkS [(4,.x (.one (.p (pi (10:Int)))))],mkH []⟩) rfl rfl imp_au
    · intro b_4
      replace H0:=cneg H0 b_4
      replace H0:=bind_some H0
      obtain ⟨y2,h_2,H0⟩:=H0
      refine lok_rt (Env.of E0 [⟨some 20,61,[.agg [.p (pi share.Num),.p (pi share.Den)]],[],[.one (.p (.val (.bool y2)))],[],True,fun _ => ok_ref32_Outside share y2 h_2,[]⟩]) (⟨21,mkS [(18,.x (.one (.p (.val (.bool y2)))))],mkH []⟩) ?_
      refine lok_c y2 ?_ ?_
      · intro b_3
        replace H0:=cpos H0 b_3
        refine lok_rt E0 (⟨21,mkS [(4,.x (.one (.p (pi (2:Int)))))],mkH []⟩) ?_
        refine lok_ret ?_
        obtain rfl:=Option.some.inj H0
        try simp only [thenL,blockL]
        exact fin_au _ (.inr rfl) [] (⟨21,mkS [(4,.x (.one (.p (pi (2:Int)))))],mkH []⟩) rfl rfl imp_au
      · intro b_3
        replace H0:=cneg H0 b_3
        refine lok_skip ?_
        try simp only [thenL,blockL,↓reduceIte,reduceCtorEq]
        refine lok_rt E0 (⟨21,mkS [(4,.x (.one (.p (pi (0:Int)))))],mkH []⟩) ?_
        refine lok_ret ?_
        obtain rfl:=Option.some.inj H0
        try simp only [thenL,blockL]
        exact fin_au _ (.inr rfl) [] (⟨21,mkS [(4,.x (.one (.p (pi (0:Int)))))],mkH []⟩) rfl rfl imp_au
theorem ok_bits_Add64 (x y carry:Int) (r_:Int × Int) (H0:bits_Add64 x y carry=some r_):CallOK Tryz.prog 109 [.int .u64 x,.int .u64 y,.int .u64 carry] [] [.int .u64 r_.1,.int .u64 r_.2] [] :=
  okAdd64 Tryz.func109 (by kernel_rfl) (by kernel_rfl) (by kernel_rfl) (by kernel_rfl) _ _ _ r_ H0
theorem ok_ref01_Plus (a:ref01_Wide) (b:ref01_Wide) (r_:ref01_Wide) (H0:ref01_Plus a b=some r_):CallOK Tryz.prog 100 [.agg [.p (.val (.int .u64 a.Hi)),.p (.val (.int .u64 a.Lo))],.agg [.p (.val (.int .u64 b.Hi)),.p (.val (.int .u64 b.Lo))]] [] [.agg [.p (.val (.int .u64 r_.Hi)),.p (.val (.int .u64 r_.Lo))]] []:=by
  refine callOK (n:=29) (rs:=[.cell 4 83]) (nb:=0) (V:=[]) Tryz.func100 rfl (by kernel_rfl) rfl rfl rfl rfl (Nat.le_of_ble_eq_true rfl) (by decide) ?_
  unfold ref01_Plus at H0
  refine lok_rt E0 (⟨29,mkS [(2,.x (.one (.ptr 102 0))),(3,.x (.one (.ptr 103 0))),(4,.x (.one (.ptr 104 0)))],mkH [(102,.var [.p (.val (.int .u64 a.Hi)),.p (.val (.int .u64 a.Lo))]),(103,.var [.p (.val (.int .u64 b.Hi)),.p (.val (.int .u64 b.Lo))]),(104,.var [.p (.val (.int .u64 (0:Int))),.p (.val (.int .u64 (0:Int)))])]⟩) ?_
  replace H0:=bind_some H0
  obtain ⟨⟨y,y1⟩,h_0,H0⟩:=H0
  try dsimp only at H0
  refine lok_rt (Env.of E0 [⟨some 14,109,[.one (.p (.val (.int .u64 a.Lo))),.one (.p (.val (.int .u64 b.Lo))),.one (.p (.val (.int .u64 (0:Int))))],[],[.one (.p (.val (.int .u64 y))),.one (.p (.val (.int .u64 y1)))],[],True,fun _ => ok_bits_Add64 a.Lo b.Lo (0:Int) (y,y1) h_0,[]⟩]) (⟨29,mkS [(2,.x (.one (.ptr 102 0))),(3,.x (.one (.ptr 103 0))),(4,.x (.one (.ptr 104 0))),(5,.x (.one (.p (.val (.int .u64 y))))),(6,.x (.one (.p (.val (.int .u64 y1)))))],mkH [(102,.var [.p (.val (.int .u64 a.Hi)),.p (.val (.int .u64 a.Lo))]),(103,.var [.p (.val (.int .u64 b.Hi)),.p (.val (.int .u64 b.Lo))]),(104,.var [.p (.val (.int .u64 (0:Int))),.p (.val (.int .u64 (0:Int)))])]⟩) ?_
  replace H0:=bind_some H0
  obtain ⟨⟨y2,y3⟩,h_1,H0⟩:=H0
  try dsimp only at H0
  refine lok_rt (Env.of E0 [⟨some 23,109,[.one (.p (.val (.int .u64 a.Hi))),.one (.p (.val (.int .u64 b.Hi))),.one (.p (.val (.int .u64 y1)))],[],[.one (.p (.val (.int .u64 y2))),.one (.p (.val (.int .u64 y3)))],[],True,fun _ => ok_bits_Add64 a.Hi b.Hi y1 (y2,y3) h_1,[]⟩]) (⟨29,mkS [(4,.x (.one (.ptr 104 0))),(5,.x (.one (.p (.val (.int .u64 y))))),(7,.x (.one (.p (.val (.int .u64 y2)))))],mkH [(104,.var [.p (.val (.int .u64 (0:Int))),.p (.val (.int .u64 (0:Int)))])]⟩) ?_
  refine lok_rt E0 (⟨29,mkS [(4,.x (.one (.ptr 104 0)))],mkH [(104,.var [.p (.val (.int .u64 y2)),.p (.val (.int .u64 y))])]⟩) ?_
  refine lok_ret ?_
  obtain rfl:=Option.some.inj H0
  try simp only [thenL,blockL]
  exact fin_au _ (.inr rfl) [] (⟨29,mkS [(4,.x (.one (.ptr 104 0)))],mkH [(104,.var [.p (.val (.int .u64 y2)),.p (.val (.int .u64 y))])]⟩) rfl rfl imp_au
theorem ok_ref01_total (x:Bool) (a:ref01_Wide) (y:Bool) (b:ref01_Wide) (r_:Bool × ref01_Wide) (H0:ref01_total x a y b=some r_):CallOK Tryz.prog 78 [.one (.p (.val (.bool x))),.agg [.p (.val (.int .u64 a.Hi)),.p (.val (.int .u64 a.Lo))],.one (.p (.val (.bool y))),.agg [.p (.val (.int .u64 b.Hi)),.p (.val (.int .u64 b.Lo))]] [] [.one (.p (.val (.bool r_.1))),.agg [.p (.val (.int .u64 r_.2.Hi)),.p (.val (.int .u64 r_.2.Lo))]] []:=by
  refine callOK (n:=29) (rs:=[.tmp 8,.cell 9 83]) (nb:=0) (V:=[]) Tryz.func78 rfl (by kernel_rfl) rfl rfl rfl rfl (Nat.le_of_ble_eq_true rfl) (by decide) ?_
  unfold ref01_total at H0
  refine lok_rt E0 (⟨29,mkS [(0,.x (.one (.p (.val (.bool x))))),(2,.x (.one (.p (.val (.bool y))))),(5,.x (.one (.ptr 105 0))),(7,.x (.one (.ptr 107 0))),(9,.x (.one (.ptr 109 0)))],mkH [(105,.var [.p (.val (.int .u64 a.Hi)),.p (.val (.int .u64 a.Lo))]),(107,.var [.p (.val (.int .u64 b.Hi)),.p (.val (.int .u64 b.Lo))]),(109,.var [.p (.val (.int .u64 (0:Int))),.p (.val (.int .u64 (0:Int)))])]⟩) ?_
  refine lok_seq ?_
  refine lok_rt E0 (⟨29,mkS [(0,.x (.one (.p (.val (.bool x))))),(2,.x (.one (.p (.val (.bool y))))),(5,.x (.one (.ptr 105 0))),(7,.x (.one (.ptr 107 0))),(9,.x (.one (.ptr 109 0))),(12,.x (.one (.p (.val (.bool (x==y))))))],mkH [(105,.var [.p (.val (.int .u64 a.Hi)),.p (.val (.int .u64 a.Lo))]),(107,.var [.p (.val (.int .u64 b.Hi)),.p (.val (.int .u64 b.Lo))]),(109,.var [.p (.val (.int .u64 (0:Int))),.p (.val (.int .u64 (0:Int)))])]⟩) ?_
  refine lok_c (x==y) ?_ ?_
  · intro b_5
    replace H0:=cpos H0 b_5
    replace H0:=bind_some H0
    obtain ⟨y1,h_0,H0⟩:=H0
    refine lok_rt (Env.of E0 [⟨some 16,100,[.agg [.p (.val (.int .u64 a.Hi)),.p (.val (.int .u64 a.Lo))],.agg [.p (.val (.int .u64 b.Hi)),.p (.val (.int .u64 b.Lo))]],[],[.agg [.p (.val (.int .u64 y1.Hi)),.p (.val (.int .u64 y1.Lo))]],[],True,fun _ => ok_ref01_Plus a b y1 h_0,[]⟩]) (⟨29,mkS [(8,.x (.one (.p (.val (.bool x))))),(9,.x (.one (.ptr 109 0)))],mkH [(109,.var [.p (.val (.int .u64 y1.Hi)),.p (.val (.int .u64 y1.Lo))])]⟩) ?_
    refine lok_ret ?_
    obtain rfl:=Option.some.inj H0
    try simp only [thenL,blockL]
    exact fin_au _ (.inr rfl) [] (⟨29,mkS [(8,.x (.one (.p (.val (.bool x))))),(9,.x (.one (.ptr 109 0)))],mkH [(109,.var [.p (.val (.int .u64 y1.Hi)),.p (.val (.int .u64 y1.Lo))])]⟩) rfl rfl imp_au
  · intro b_5
    replace H0:=cneg H0 b_5
    refine lok_skip ?_
    try simp only [thenL,blockL,↓reduceIte,reduceCtorEq]
    refine lok_seq ?_
    replace H0:=bind_some H0
    obtain ⟨y2,h_1,H0⟩:=H0
    refine lok_rt (Env.of E0 [⟨some 19,83,[.agg [.p (.val (.int .u64 a.Hi)),.p (.val (.int .u64 a.Lo))],.agg [.p (.val (.int .u64 b.Hi)),.p (.val (.int .u64 b.Lo))]],[],[.one (.p (pi y2))],[],True,fun _ => ok_ref01_Order a b y2 h_1,[]⟩]) (⟨29,mkS [(0,.x (.one (.p (.val (.bool x))))),(2,.x (.one (.p (.val (.bool y))))),(5,.x (.one (.ptr 105 0))),(7,.x (.one (.ptr 107 0))),(9,.x (.one (.ptr 109 0))),(20,.x (.one (.p (.val (.bool (decide ((0:Int)≤y2)))))))],mkH [(105,.var [.p (.val (.int .u64 a.Hi)),.p (.val (.int .u64 a.Lo))]),(107,.var [.p (.val (.int .u64 b.Hi)),.p (.val (.int .u64 b.Lo))]),(109,.var [.p (.val (.int .u64 (0:Int))),.p (.val (.int .u64 (0:Int)))])]⟩) ?_
    refine lok_c (decide ((0:Int)≤y2)) ?_ ?_
    · intro b_4
      replace H0:=cpos H0 b_4
      replace H0:=bind_some H0
      obtain ⟨y3,h_2,H0⟩:=H0
      refine lok_rt (Env.of E0 [⟨some 24,84,[.agg [.p (.val (.int .u64 a.Hi)),.p (.val (.int .u64 a.Lo))],.agg [.p (.val (.int .u64 b.Hi)),.p (.val (.int .u64 b.Lo))]],[],[.agg [.p (.val (.int .u64 y3.Hi)),.p (.val (.int .u64 y3.Lo))]],[],True,fun _ => ok_ref01_Minus a b y3 h_2,[]⟩]) (⟨29,mkS [(8,.x (.one (.p (.val (.bool x))))),(9,.x (.one (.ptr 109 0)))],mkH [(109,.var [.p (.val (.int .u64 y3.Hi)),.p (.val (.int .u64 y3.Lo))])]⟩) ?_
      refine lok_ret ?_
      obtain rfl:=Option.some.inj H0
      try simp only [thenL,blockL]
      exact fin_au _ (.inr rfl) [] (⟨29,mkS [(8,.x (.one (.p (.val (.bool x))))),(9,.x (.one (.ptr 109 0)))],mkH [(109,.var [.p (.val (.int .u64 y3.Hi)),.p (.val (.int .u64 y3.Lo))])]⟩) rfl rfl imp_au
    · intro b_4
      replace H0:=cneg H0 b_4
      refine lok_skip ?_
      try simp only [thenL,blockL,↓reduceIte,reduceCtorEq]
      replace H0:=bind_some H0
      obtain ⟨y4,h_3,H0⟩:=H0
      refine lok_rt (Env.of E0 [⟨some 28,84,[.agg [.p (.val (.int .u64 b.Hi)),.p (.val (.int .u64 b.Lo))],.agg [.p (.val (.int .u64 a.Hi)),.p (.val (.int .u64 a.Lo))]],[],[.agg [.p (.val (.int .u64 y4.Hi)),.p (.val (.int .u64 y4.Lo))]],[],True,fun _ => ok_ref01_Minus b a y4 h_3,[]⟩]) (⟨29,mkS [(8,.x (.one (.p (.val (.bool y))))),(9,.x (.one (.ptr 109 0)))],mkH [(109,.var [.p (.val (.int .u64 y4.Hi)),.p (.val (.int .u64 y4.Lo))])]⟩) ?_
      refine lok_ret ?_
      obtain rfl:=Option.some.inj H0
      try simp only [thenL,blockL]
      exact fin_au _ (.inr rfl) [] (⟨29,mkS [(8,.x (.one (.p (.val (.bool y))))),(9,.x (.one (.ptr 109 0)))],mkH [(109,.var [.p (.val (.int .u64 y4.Hi)),.p (.val (.int .u64 y4.Lo))])]⟩) rfl rfl imp_au
theorem ok_ref01_Product (a:Int) (b:Int) (r_:ref01_Wide) (H0:ref01_Product a b=some r_):CallOK Tryz.prog 79 [.one (.p (.val (.int .u64 a))),.one (.p (.val (.int .u64 b)))] [] [.agg [.p (.val (.int .u64 r_.Hi)),.p (.val (.int .u64 r_.Lo))]] []:=by
  refine callOK (n:=16) (rs:=[.cell 4 83]) (nb:=0) (V:=[]) Tryz.func79 rfl (by kernel_rfl) rfl rfl rfl rfl (Nat.le_of_ble_eq_true rfl) (by decide) ?_
  unfold ref01_Product at H0
  refine lok_rt E0 (⟨16,mkS [(0,.x (.one (.p (.val (.int .u64 a))))),(1,.x (.one (.p (.val (.int .u64 b))))),(4,.x (.one (.ptr 104 0)))],mkH [(104,.var [.p (.val (.int .u64 (0:Int))),.p (.val (.int .u64 (0:Int)))])]⟩) ?_
  replace H0:=bind_some H0
  obtain ⟨⟨y,y1⟩,h_0,H0⟩:=H0
  try dsimp only at H0
  refine lok_rt (Env.of E0 [⟨some 10,101,[.one (.p (.val (.int .u64 a))),.one (.p (.val (.int .u64 b)))],[],[.one (.p (.val (.int .u64 y))),.one (.p (.val (.int .u64 y1)))],[],True,fun _ => ok_bits_Mul64 a b (y,y1) h_0,[]⟩]) (⟨16,mkS [(4,.x (.one (.ptr 104 0))),(5,.x (.one (.p (.val (.int .u64 y))))),(6,.x (.one (.p (.val (.int .u64 y1)))))],mkH [(104,.var [.p (.val (.int .u64 (0:Int))),.p (.val (.int .u64 (0:Int)))])]⟩) ?_
  refine lok_rt E0 (⟨16,mkS [(4,.x (.one (.ptr 104 0)))],mkH [(104,.var [.p (.val (.int .u64 y)),.p (.val (.int .u64 y1))])]⟩) ?_
  refine lok_ret ?_
  obtain rfl:=Option.some.inj H0
  try simp only [thenL,blockL]
  exact fin_au _ (.inr rfl) [] (⟨16,mkS [(4,.x (.one (.ptr 104 0)))],mkH [(104,.var [.p (.val (.int .u64 y)),.p (.val (.int .u64 y1))])]⟩) rfl rfl imp_au
set_option maxHeartbeats 4000000 in
theorem ok_ref01_Compare (a:api_Ratio) (b:api_Ratio) (r_:Int) (H0:ref01_Compare a b=some r_):CallOK Tryz.prog 62 [.agg [.p (pi a.Num),.p (pi a.Den)],.agg [.p (pi b.Num),.p (pi b.Den)]] [] [.one (.p (pi r_))] []:=by
  refine callOK (n:=43) (rs:=[.tmp 4]) (nb:=0) (V:=[]) Tryz.func62 rfl (by kernel_rfl) rfl rfl rfl rfl (Nat.le_of_ble_eq_true rfl) (by decide) ?_
  unfold ref01_Compare at H0
  refine lok_rt E0 (⟨43,mkS [(2,.x (.one (.ptr 102 0))),(3,.x (.one (.ptr 103 0)))],mkH [(102,.var [.p (pi a.Num),.p (pi a.Den)]),(103,.var [.p (pi b.Num),.p (pi b.Den)])]⟩) ?_
  refine lok_seq ?_
  replace H0:=bind_some H0
  obtain ⟨y,h_0,H0⟩:=H0
  replace H0:=req_some H0
  obtain ⟨q_11,H0⟩:=H0
  refine lok_rt (Env.of E0 [⟨some 8,60,[.agg [.p (pi a.Num),.p (pi a.Den)]],[],[.one (.p (.val (.bool y)))],[],True,fun _ => ok_ref01_Valid a y h_0,[]⟩,
      ⟨some 12,60,[.agg [.p (pi b.Num),.p (pi b.Den)]],[],[.one (.p (.val (.bool ((ref01_Valid b).getD default))))],[],(ref01_Valid b).isSome=true,fun h => ok_ref01_Valid b _ (isSome_get h),[]⟩]) (⟨43,mkS [(2,.x (.one (.ptr 102 0))),(3,.x (.one (.ptr 103 0))),(14,.x (.one (.p (.val (.bool ((!y)||(!((ref01_Valid b).getD default))))))))],mkH [(102,.var [.p (pi a.Num),.p (pi a.Den)]),(103,.var [.p (pi b.Num),.p (pi b.Den)])]⟩) ?_
  refine lok_c ((!y)||(!((ref01_Valid b).getD default))) ?_ ?_
  · intro b_10
    replace H0:=cpos H0 b_10
    refine lok_rt E0 (⟨43,mkS [(4,.x (.one (.p (pi (0:Int)))))],mkH []⟩) ?_
    refine lok_ret ?_
    obtain rfl:=Option.some.inj H0
    try simp only [thenL,blockL]
    exact fin_au _ (.inr rfl) [] (⟨43,mkS [(4,.x (.one (.p (pi (0:Int)))))],mkH []⟩) rfl rfl imp_au
  · intro b_10
    replace H0:=cneg H0 b_10
    refine lok_skip ?_
    try simp only [thenL,blockL,↓reduceIte,reduceCtorEq]
    replace H0:=bind_some H0
    obtain ⟨y1,h_1,H0⟩:=H0
    replace H0:=bind_some H0
    obtain ⟨y2,h_2,H0⟩:=H0
    replace H0:=bind_some H0
    obtain ⟨y3,h_3,H0⟩:=H0
    replace H0:=bind_some H0
    obtain ⟨y4,h_4,H0⟩:=H0
    replace H0:=bind_some H0
    obtain ⟨y5,h_5,H0⟩:=H0
    replace H0:=bind_some H0
    obtain ⟨y6,h_6,H0⟩:=H0
    replace H0:=bind_some H0
    obtain ⟨⟨y7,y8⟩,h_7,H0⟩:=H0
    try dsimp only at H0
    refine lok_et (Env.of E0 [⟨some 21,52,[.one (.p (pi a.Num))],[],[.one (.p (.val (.int .u64 y1)))],[],True,fun _ => ok_ref01_Size a.Num y1 h_1,[]⟩,
      ⟨some 24,52,[.one (.p (pi b.Den))],[],[.one (.p (.val (.int .u64 y2)))],[],True,fun _ => ok_ref01_Size b.Den y2 h_2,[]⟩,
      ⟨some 25,79,[.one (.p (.val (.int .u64 y1))),.one (.p (.val (.int .u64 y2)))],[],[.agg [.p (.val (.int .u64 y3.Hi)),.p (.val (.int .u64 y3.Lo))]],[],True,fun _ => ok_ref01_Product y1 y2 y3 h_3,[]⟩,
      ⟨some 31,52,[.one (.p (pi b.Num))],[],[.one (.p (.val (.int .u64 y4)))],[],True,fun _ => ok_ref01_Size b.Num y4 h_4,[]⟩,
      ⟨some 34,52,[.one (.p (pi a.Den))],[],[.one (.p (.val (.int .u64 y5)))],[],True,fun _ => ok_ref01_Size a.Den y5 h_5,[]⟩,
      ⟨some 35,79,[.one (.p (.val (.int .u64 y4))),.one (.p (.val (.int .u64 y5)))],[],[.agg [.p (.val (.int .u64 y6.Hi)),.p (.val (.int .u64 y6.Lo))]],[],True,fun _ => ok_ref01_Product y4 y5 y6 h_6,[]⟩,
      ⟨some 36,78,[.one (.p (.val (.bool (decide (a.Num<(0:Int)))))),.agg [.p (.val (.int .u64 y3.Hi)),.p (.val (.int .u64 y3.Lo))],.one (.p (.val (.bool (decide ((0:Int)<b.Num))))),.agg [.p (.val (.int .u64 y6.Hi)),.p (.val (.int .u64 y6.Lo))]],[],[.one (.p (.val (.bool y7))),.agg [.p (.val (.int .u64 y8.Hi)),.p (.val (.int .u64 y8.Lo))]],[],True,fun _ => ok_ref01_total (decide (a.Num<(0:Int))) y3 (decide ((0:Int)<b.Num)) y6 (y7,y8) h_7,[]⟩]) 43 [⟨[(2,.x (.one (.ptr 102 0)))],[],[(16,.x (.one (.ptr 102 0)))],[],none⟩,
      ⟨[(16,.x (.one (.ptr 102 0)))],[(102,some (.var [.p (pi a.Num),.p (pi a.Den)]))],[(17,.x (.one (.p (pi a.Num))))],[],none⟩,
      ⟨[(17,.x (.one (.p (pi a.Num))))],[],[(18,.x (.one (.p (.val (.bool (decide (a.Num<(0:Int))))))))],[],none⟩,
      ⟨[(2,.x (.one (.ptr 102 0)))],[],[(19,.x (.one (.ptr 102 0)))],[],none⟩,
      ⟨[(19,.x (.one (.ptr 102 0)))],[(102,some (.var [.p (pi a.Num),.p (pi a.Den)]))],[(20,.x (.one (.p (pi a.Num))))],[],none⟩,
      ⟨[(20,.x (.one (.p (pi a.Num))))],[],[(21,.x (.one (.p (.val (.int .u64 y1)))))],[],none⟩,
      ⟨[(3,.x (.one (.ptr 103 0)))],[],[(22,.x (.one (.ptr 103 1)))],[],none⟩,
      ⟨[(22,.x (.one (.ptr 103 1)))],[(103,some (.var [.p (pi b.Num),.p (pi b.Den)]))],[(23,.x (.one (.p (pi b.Den))))],[],none⟩,
      ⟨[(23,.x (.one (.p (pi b.Den))))],[],[(24,.x (.one (.p (.val (.int .u64 y2)))))],[],none⟩,
      ⟨[(21,.x (.one (.p (.val (.int .u64 y1))))),(24,.x (.one (.p (.val (.int .u64 y2)))))],[],[(25,.x (.agg [.p (.val (.int .u64 y3.Hi)),.p (.val (.int .u64 y3.Lo))]))],[],none⟩,
      ⟨[(3,.x (.one (.ptr 103 0)))],[],[(26,.x (.one (.ptr 103 0)))],[],none⟩,
      ⟨[(26,.x (.one (.ptr 103 0)))],[(103,some (.var [.p (pi b.Num),.p (pi b.Den)]))],[(27,.x (.one (.p (pi b.Num))))],[],none⟩,
      ⟨[(27,.x (.one (.p (pi b.Num))))],[],[(28,.x (.one (.p (.val (.bool (decide ((0:Int)<b.Num)))))))],[],none⟩,
      ⟨[(3,.x (.one (.ptr 103 0)))],[],[(29,.x (.one (.ptr 103 0)))],[],none⟩,
      ⟨[(29,.x (.one (.ptr 103 0)))],[(103,some (.var [.p (pi b.Num),.p (pi b.Den)]))],[(30,.x (.one (.p (pi b.Num))))],[],none⟩,
      ⟨[(30,.x (.one (.p (pi b.Num))))],[],[(31,.x (.one (.p (.val (.int .u64 y4)))))],[],none⟩,
      ⟨[(2,.x (.one (.ptr 102 0)))],[],[(32,.x (.one (.ptr 102 1)))],[],none⟩,
      ⟨[(32,.x (.one (.ptr 102 1)))],[(102,some (.var [.p (pi a.Num),.p (pi a.Den)]))],[(33,.x (.one (.p (pi a.Den))))],[],none⟩,
      ⟨[(33,.x (.one (.p (pi a.Den))))],[],[(34,.x (.one (.p (.val (.int .u64 y5)))))],[],none⟩,
      ⟨[(31,.x (.one (.p (.val (.int .u64 y4))))),(34,.x (.one (.p (.val (.int .u64 y5)))))],[],[(35,.x (.agg [.p (.val (.int .u64 y6.Hi)),.p (.val (.int .u64 y6.Lo))]))],[],none⟩,
      ⟨[(18,.x (.one (.p (.val (.bool (decide (a.Num<(0:Int)))))))),(25,.x (.agg [.p (.val (.int .u64 y3.Hi)),.p (.val (.int .u64 y3.Lo))])),(28,.x (.one (.p (.val (.bool (decide ((0:Int)<b.Num))))))),(35,.x (.agg [.p (.val (.int .u64 y6.Hi)),.p (.val (.int .u64 y6.Lo))]))],[],[(36,.tup [.one (.p (.val (.bool y7))),.agg [.p (.val (.int .u64 y8.Hi)),.p (.val (.int .u64 y8.Lo))]])],[],none⟩,
      ⟨[(36,.tup [.one (.p (.val (.bool y7))),.agg [.p (.val (.int .u64 y8.Hi)),.p (.val (.int .u64 y8.Lo))]])],[],[(15,.tup [.one (.p (.val (.bool y7))),.agg [.p (.val (.int .u64 y8.Hi)),.p (.val (.int .u64 y8.Lo))]])],[],none⟩,
      ⟨[(15,.tup [.one (.p (.val (.bool y7))),.agg [.p (.val (.int .u64 y8.Hi)),.p (.val (.int .u64 y8.Lo))]])],[],[(37,.x (.one (.p (.val (.bool y7)))))],[],none⟩,
      ⟨[(15,.tup [.one (.p (.val (.bool y7))),.agg [.p (.val (.int .u64 y8.Hi)),.p (.val (.int .u64 y8.Lo))]])],[],[(38,.x (.agg [.p (.val (.int .u64 y8.Hi)),.p (.val (.int .u64 y8.Lo))]))],[],none⟩,
      ⟨[],[(106,none)],[(6,.x (.one (.ptr 106 0)))],[(106,some (.var [.p (.val (.int .u64 (0:Int))),.p (.val (.int .u64 (0:Int)))]))],some 106⟩,
      ⟨[(37,.x (.one (.p (.val (.bool y7)))))],[],[(5,.x (.one (.p (.val (.bool y7)))))],[],none⟩] (⟨43,mkS [(5,.x (.one (.p (.val (.bool y7))))),(6,.x (.one (.ptr 106 0)))],mkH [(106,.var [.p (.val (.int .u64 y8.Hi)),.p (.val (.int .u64 y8.Lo))])]⟩) (by kernel_rfl) (by kernel_rfl) (by kernel_rfl) rfl rfl rfl ?_
    refine lok_seq ?_
    refine lok_rt E0 (⟨43,mkS [(5,.x (.one (.p (.val (.bool y7))))),(41,.x (.one (.p (.val (.bool ((y8.Hi==(0:Int))&&(y8.Lo==(0:Int))))))))],mkH []⟩) ?_
    refine lok_c ((y8.Hi==(0:Int))&&(y8.Lo==(0:Int))) ?_ ?_
    · intro b_9
      replace H0:=cpos H0 b_9
      refine lok_rt E0 (⟨43,mkS [(4,.x (.one (.p (pi (0:Int)))))],mkH []⟩) ?_
      refine lok_ret ?_
      obtain rfl:=Option.some.inj H0
      try simp only [thenL,blockL]
      exact fin_au _ (.inr rfl) [] (⟨43,mkS [(4,.x (.one (.p (pi (0:Int)))))],mkH []⟩) rfl rfl imp_au
    · intro b_9
      replace H0:=cneg H0 b_9
      refine lok_skip ?_
      try simp only [thenL,blockL,↓reduceIte,reduceCtorEq]
      refine lok_seq ?_
      refine lok_rt E0 (⟨43,mkS [(42,.x (.one (.p (.val (.bool y7)))))],mkH []⟩) ?_
      refine lok_c y7 ?_ ?_
      · intro b_8
        replace H0:=cpos H0 b_8
        refine lok_rt E0 (⟨43,mkS [(4,.x (.one (.p (pi (-1:Int)))))],mkH []⟩) ?_
        refine lok_ret ?_
        obtain rfl:=Option.some.inj H0
        try simp only [thenL,blockL]
        exact fin_au _ (.inr rfl) [] (⟨43,mkS [(4,.x (.one (.p (pi (-1:Int)))))],mkH []⟩) rfl rfl imp_au
      · intro b_8
        replace H0:=cneg H0 b_8
        refine lok_skip ?_
        try simp only [thenL,blockL,↓reduceIte,reduceCtorEq]
        refine lok_rt E0 (⟨43,mkS [(4,.x (.one (.p (pi (1:Int)))))],mkH []⟩) ?_
        refine lok_ret ?_
        obtain rfl:=Option.some.inj H0
        try simp only [thenL,blockL]
        exact fin_au _ (.inr rfl) [] (⟨43,mkS [(4,.x (.one (.p (pi (1:Int)))))],mkH []⟩) rfl rfl imp_au
theorem ok_ref01_Less (a:api_Ratio) (b:api_Ratio) (r_:Bool) (H0:ref01_Less a b=some r_):CallOK Tryz.prog 46 [.agg [.p (pi a.Num),.p (pi a.Den)],.agg [.p (pi b.Num),.p (pi b.Den)]] [] [.one (.p (.val (.bool r_)))] []:=by
  refine callOK (n:=9) (rs:=[.tmp 4]) (nb:=0) (V:=[]) Tryz.func46 rfl (by kernel_rfl) rfl rfl rfl rfl (Nat.le_of_ble_eq_true rfl) (by decide) ?_
  unfold ref01_Less at H0
  refine lok_rt E0 (⟨9,mkS [(2,.x (.one (.ptr 102 0))),(3,.x (.one (.ptr 103 0)))],mkH [(102,.var [.p (pi a.Num),.p (pi a.Den)]),(103,.var [.p (pi b.Num),.p (pi b.Den)])]⟩) ?_
  replace H0:=bind_some H0
  obtain ⟨y,h_0,H0⟩:=H0
  refine lok_rt (Env.of E0 [⟨some 7,62,[.agg [.p (pi a.Num),.p (pi a.Den)],.agg [.p (pi b.Num),.p (pi b.Den)]],[],[.one (.p (pi y))],[],True,fun _ => ok_ref01_Compare a b y h_0,[]⟩]) (⟨9,mkS [(4,.x (.one (.p (.val (.bool (decide (y<(0:Int))))))))],mkH []⟩) ?_
  refine lok_ret ?_
  obtain rfl:=Option.some.inj H0
  try simp only [thenL,blockL]
  exact fin_au _ (.inr rfl) [] (⟨9,mkS [(4,.x (.one (.p (.val (.bool (decide (y<(0:Int))))))))],mkH []⟩) rfl rfl imp_au
set_option maxHeartbeats 4000000 in
theorem ok_ref35_Nearest (d:api_Distribution) (share:api_Ratio) (r_:Int × Int) (H0:ref35_Nearest d share=some r_):CallOK Tryz.prog 25 [.agg [.p (.sl 1 (List.map encI d.Counts))],.agg [.p (pi share.Num),.p (pi share.Den)]] [] [.one (.p (pi r_.1)),.one (.p (pi r_.2))] []:=by
  refine callOK (n:=52) (rs:=[.tmp 4,.tmp 5]) (nb:=0) (V:=[]) Tryz.func25 rfl (by kernel_rfl) rfl rfl rfl rfl (Nat.le_of_ble_eq_true rfl) (by decide) ?_
  unfold ref35_Nearest at H0
  refine lok_rt E0 (⟨52,mkS [(2,.x (.one (.ptr 102 0))),(3,.x (.one (.ptr 103 0)))],mkH [(102,.var [.p (.sl 1 (List.map encI d.Counts))]),(103,.var [.p (pi share.Num),.p (pi share.Den)])]⟩) ?_
  refine lok_seq ?_
  replace H0:=bind_some H0
  obtain ⟨y,h_0,H0⟩:=H0
  refine lok_rt (Env.of E0 [⟨some 15,44,[.agg [.p (.sl 1 (List.map encI d.Counts))],.agg [.p (pi share.Num),.p (pi share.Den)]],[],[.one (.p (pi y))],[],True,fun _ => ok_ref35_wrong d share y h_0,[]⟩]) (⟨52,mkS [(2,.x (.one (.ptr 102 0))),(3,.x (.one (.ptr 103 0))),(6,.x (.one (.p (pi y))))],mkH [(102,.var [.p (.sl 1 (List.map encI d.Counts))]),(103,.var [.p (pi share.Num),.p (pi share.Den)])]⟩) ?_
  refine lok_rt E0 (⟨52,mkS [(2,.x (.one (.ptr 102 0))),(3,.x (.one (.ptr 103 0))),(6,.x (.one (.p (pi y)))),(17,.x (.one (.p (.val (.bool (y != (0:Int)))))))],mkH [(102,.var [.p (.sl 1 (List.map encI d.Counts))]),(103,.var [.p (pi share.Num),.p (pi share.Den)])]⟩) ?_
  refine lok_c (y != (0:Int)) ?_ ?_
  · intro b_9
    replace H0:=cpos H0 b_9
    refine lok_rt E0 (⟨52,mkS [(4,.x (.one (.p (pi (0:Int))))),(5,.x (.one (.p (pi y))))],mkH []⟩) ?_
    refine lok_ret ?_
    obtain rfl:=Option.some.inj H0
    try simp only [thenL,blockL]
    exact fin_au _ (.inr rfl) [] (⟨52,mkS [(4,.x (.one (.p (pi (0:Int))))),(5,.x (.one (.p (pi y))))],mkH []⟩) rfl rfl imp_au
  · intro b_9
    replace H0:=cneg H0 b_9
    refine lok_skip ?_
    try simp only [thenL,blockL,↓reduceIte,reduceCtorEq]
    refine lok_rt E0 (⟨52,mkS [(2,.x (.one (.ptr 102 0))),(3,.x (.one (.ptr 103 0))),(7,.x (.one (.p (pi (0:Int)))))],mkH [(102,.var [.p (.sl 1 (List.map encI d.Counts))]),(103,.var [.p (pi share.Num),.p (pi share.Den)])]⟩) ?_
    refine lok_join (fun x_:Int => ref35_Nearest_j1 x_=some r_) (fun x_ => ⟨52,mkS [(7,.x (.one (.p (pi x_))))],mkH []⟩) ?hyref35_Nearest_j1 ?hxref35_Nearest_j1
    case hyref35_Nearest_j1 =>
      rintro best H0
      try dsimp only at H0 ⊢
      unfold ref35_Nearest_j1 at H0
      refine lok_rt E0 (⟨52,mkS [(4,.x (.one (.p (pi best)))),(5,.x (.one (.p (pi (0:Int)))))],mkH []⟩) ?_
      refine lok_ret ?_
      obtain rfl:=Option.some.inj H0
      try simp only [thenL,blockL]
      exact fin_au _ (.inr rfl) [] (⟨52,mkS [(4,.x (.one (.p (pi best)))),(5,.x (.one (.p (pi (0:Int)))))],mkH []⟩) rfl rfl imp_au
    case hxref35_Nearest_j1 =>
      refine lok_rt E0 (⟨52,mkS [(2,.x (.one (.ptr 102 0))),(3,.x (.one (.ptr 103 0))),(7,.x (.one (.p (pi (0:Int))))),(8,.x (.one (.p (pi (1:Int)))))],mkH [(102,.var [.p (.sl 1 (List.map encI d.Counts))]),(103,.var [.p (pi share.Num),.p (pi share.Den)])]⟩) ?_
      refine lok_block ?_
      replace H0:=bind_some H0
      obtain ⟨v_1,hv_1,H0⟩:=H0
      refine lok_iter (fun x_ => ⟨52,mkS [(2,.x (.one (.ptr 102 0))),(3,.x (.one (.ptr 103 0))),(7,.x (.one (.p (pi x_.1)))),(8,.x (.one (.p (pi x_.2))))],mkH [(102,.var [.p (.sl 1 (List.map encI d.Counts))]),(103,.var [.p (pi share.Num),.p (pi share.Den)])]⟩) hv_1 imp_au ?_
      · rintro ⟨best1,b⟩ o_1 H1 k_1
        unfold ref35_Nearest_l3 at H1
        try dsimp only at H1 ⊢
        refine lok_seq ?_
        refine lok_rt E0 (⟨52,mkS [(2,.x (.one (.ptr 102 0))),(3,.x (.one (.ptr 103 0))),(7,.x (.one (.p (pi best1)))),(8,.x (.one (.p (pi b)))),(23,.x (.one (.p (.val (.bool (decide (b≤(d.Counts.length:Int))))))))],mkH [(102,.var [.p (.sl 1 (List.map encI d.Counts))]),(103,.var [.p (pi share.Num),.p (pi share.Den)])]⟩) ?_
        refine lok_c (decide (b≤(d.Counts.length:Int))) ?_ ?_
        · intro b_8
          replace H1:=cpos H1 b_8
          refine lok_skip ?_
          try simp only [thenL,blockL,↓reduceIte,reduceCtorEq]
          refine lok_join (fun x_:Int => ref35_Nearest_j2 b x_=some o_1) (fun x_ => ⟨52,mkS [(2,.x (.one (.ptr 102 0))),(3,.x (.one (.ptr 103 0))),(7,.x (.one (.p (pi x_)))),(8,.x (.one (.p (pi b))))],mkH [(102,.var [.p (.sl 1 (List.map encI d.Counts))]),(103,.var [.p (pi share.Num),.p (pi share.Den)])]⟩) ?hyref35_Nearest_j2 ?hxref35_Nearest_j2
          case hyref35_Nearest_j2 =>
            rintro best3 H1
            try dsimp only at H1 ⊢
            unfold ref35_Nearest_j2 at H1
            refine lok_rl E0 (⟨52,mkS [(2,.x (.one (.ptr 102 0))),(3,.x (.one (.ptr 103 0))),(7,.x (.one (.p (pi best3)))),(8,.x (.one (.p (pi (IntKind.i64.wrap (b+(1:Int)))))))],mkH [(102,.var [.p (.sl 1 (List.map encI d.Counts))]),(103,.var [.p (pi share.Num),.p (pi share.Den)])]⟩) ?_
            try simp only [thenL,blockL,↓reduceIte,reduceCtorEq]
            exact ⟨(best3,(IntKind.i64.wrap (b+(1:Int)))),(Option.some.inj H1).symm,imp_au⟩
          case hxref35_Nearest_j2 =>
            refine lok_block ?_
            replace H1:=bind_some H1
            obtain ⟨y1,h_2,H1⟩:=H1
            replace H1:=bind_some H1
            obtain ⟨y2,h_3,H1⟩:=H1
            refine lok_dt (Env.of E0 [⟨some 28,39,[.agg [.p (.sl 1 (List.map encI d.Counts))],.one (.p (pi best1))],[],[.one (.p (pi y1))],[],True,fun _ => ok_ref35_reached d best1 y1 h_2,[]⟩,
      ⟨some 31,39,[.agg [.p (.sl 1 (List.map encI d.Counts))],.one (.p (pi b))],[],[.one (.p (pi y2))],[],True,fun _ => ok_ref35_reached d b y2 h_3,[]⟩]) 5 (⟨52,mkS [(2,.x (.one (.ptr 102 0))),(3,.x (.one (.ptr 103 0))),(7,.x (.one (.p (pi best1)))),(8,.x (.one (.p (pi b)))),(9,.x (.one (.p (pi y1)))),(10,.x (.one (.p (pi y2))))],mkH [(102,.var [.p (.sl 1 (List.map encI d.Counts))]),(103,.var [.p (pi share.Num),.p (pi share.Den)])]⟩) (by kernel_rfl) (by kernel_rfl) ?_
            replace H1:=bind_some H1
            obtain ⟨y3,h_4,H1⟩:=H1
            replace H1:=bind_some H1
            obtain ⟨⟨y4,y5⟩,h_5,H1⟩:=H1
            try dsimp only at H1
            refine lok_rt (Env.of E0 [⟨some 37,37,[.agg [.p (.sl 1 (List.map encI d.Counts))]],[],[.one (.p (pi y3))],[],True,fun _ => ok_ref32_Count d y3 h_4,[]⟩,
      ⟨some 39,38,[.one (.p (pi (IntKind.i64.wrap (y1+y2)))),.one (.p (pi (IntKind.i64.wrap ((2:Int)*y3))))],[],[.agg [.p (pi y4.Num),.p (pi y4.Den)],.one (.p (pi y5))],[],True,fun _ => ok_ref01_New (IntKind.i64.wrap (y1+y2)) (IntKind.i64.wrap ((2:Int)*y3)) (y4,y5) h_5,[]⟩]) (⟨52,mkS [(2,.x (.one (.ptr 102 0))),(3,.x (.one (.ptr 103 0))),(7,.x (.one (.p (pi best1)))),(8,.x (.one (.p (pi b)))),(9,.x (.one (.p (pi y1)))),(10,.x (.one (.p (pi y2)))),(11,.x (.one (.ptr 111 0)))],mkH [(102,.var [.p (.sl 1 (List.map encI d.Counts))]),(103,.var [.p (pi share.Num),.p (pi share.Den)]),(111,.var [.p (pi y4.Num),.p (pi y4.Den)])]⟩) ?_
            replace H1:=req_some H1
            obtain ⟨q_7,H1⟩:=H1
            refine lok_rt (Env.of E0 [⟨some 48,46,[.agg [.p (pi share.Num),.p (pi share.Den)],.agg [.p (pi y4.Num),.p (pi y4.Den)]],[],[.one (.p (.val (.bool ((ref01_Less share y4).getD default))))],[],(ref01_Less share y4).isSome=true,fun h => ok_ref01_Less share y4 _ (isSome_get h),[]⟩]) (⟨52,mkS [(2,.x (.one (.ptr 102 0))),(3,.x (.one (.ptr 103 0))),(7,.x (.one (.p (pi best1)))),(8,.x (.one (.p (pi b)))),(49,.x (.one (.p (.val (.bool ((decide (y2<y1))&&((ref01_Less share y4).getD default)))))))],mkH [(102,.var [.p (.sl 1 (List.map encI d.Counts))]),(103,.var [.p (pi share.Num),.p (pi share.Den)])]⟩) ?_
            refine lok_c ((decide (y2<y1))&&((ref01_Less share y4).getD default)) ?_ ?_
            · intro b_6
              replace H1:=cpos H1 b_6
              refine lok_rl E0 (⟨52,mkS [(2,.x (.one (.ptr 102 0))),(3,.x (.one (.ptr 103 0))),(7,.x (.one (.p (pi b)))),(8,.x (.one (.p (pi b))))],mkH [(102,.var [.p (.sl 1 (List.map encI d.Counts))]),(103,.var [.p (pi share.Num),.p (pi share.Den)])]⟩) ?_
              try simp only [thenL,blockL,↓reduceIte,reduceCtorEq]
              exact ⟨b,H1,imp_au⟩
            · intro b_6
              replace H1:=cneg H1 b_6
              refine lok_skip ?_
              try simp only [thenL,blockL,↓reduceIte,reduceCtorEq]
              exact ⟨best1,H1,imp_au⟩
        · intro b_8
          replace H1:=cneg H1 b_8
          refine lok_exit ?_
          try simp only [thenL,blockL,↓reduceIte,reduceCtorEq]
          have e_1:=k_1 _ (Option.some.inj H1).symm
          subst e_1
          try dsimp only at H0
          try simp only [thenL,blockL,↓reduceIte,reduceCtorEq]
          exact ⟨best1,H0,imp_au⟩
set_option maxHeartbeats 4000000 in
theorem ok_ref35_Reference (d:api_Distribution) (reference:api_Distribution) (b:List Int) (r_:(List Int) × Int) (H0:ref35_Reference d reference b=some r_):CallOK Tryz.prog 17 [.agg [.p (.sl 1 (List.map encI d.Counts))],.agg [.p (.sl 1 (List.map encI reference.Counts))],.one (.p (.sl 1 (List.map encI b)))] [] [.one (.p (.sl 1 (List.map encI r_.1))),.one (.p (pi r_.2))] []:=by
  refine callOK (n:=78) (rs:=[.tmp 6,.tmp 7]) (nb:=0) (V:=[]) Tryz.func17 rfl (by kernel_rfl) rfl rfl rfl rfl (Nat.le_of_ble_eq_true rfl) (by decide) ?_
  unfold ref35_Reference at H0
  refine lok_rt E0 (⟨78,mkS [(2,.x (.one (.p (.sl 1 (List.map encI b))))),(3,.x (.one (.ptr 103 0))),(4,.x (.one (.ptr 104 0)))],mkH [(103,.var [.p (.sl 1 (List.map encI d.Counts))]),(104,.var [.p (.sl 1 (List.map encI reference.Counts))])]⟩) ?_
  refine lok_seq ?_
  replace H0:=bind_some H0
  obtain ⟨y,h_0,H0⟩:=H0
  replace H0:=req_some H0
  obtain ⟨q_17,H0⟩:=H0
  refine lok_rt (Env.of E0 [⟨some 16,32,[.agg [.p (.sl 1 (List.map encI d.Counts))]],[],[.one (.p (.val (.bool y)))],[],True,fun _ => ok_ref32_Valid d y h_0,[]⟩,
      ⟨some 20,32,[.agg [.p (.sl 1 (List.map encI reference.Counts))]],[],[.one (.p (.val (.bool ((ref32_Valid reference).getD default))))],[],(ref32_Valid reference).isSome=true,fun h => ok_ref32_Valid reference _ (isSome_get h),[]⟩]) (⟨78,mkS [(2,.x (.one (.p (.sl 1 (List.map encI b))))),(3,.x (.one (.ptr 103 0))),(4,.x (.one (.ptr 104 0))),(22,.x (.one (.p (.val (.bool ((!y)||(!((ref32_Valid reference).getD default))))))))],mkH [(103,.var [.p (.sl 1 (List.map encI d.Counts))]),(104,.var [.p (.sl 1 (List.map encI reference.Counts))])]⟩) ?_
  refine lok_c ((!y)||(!((ref32_Valid reference).getD default))) ?_ ?_
  · intro b_16
    replace H0:=cpos H0 b_16
    refine lok_rt E0 (⟨78,mkS [(6,.x (.one (.vw 106))),(7,.x (.one (.p (pi (1:Int)))))],mkH [(106,.arr 1 (List.map encI ([]:List Int)))]⟩) ?_
    refine lok_ret ?_
    obtain rfl:=Option.some.inj H0
    try simp only [thenL,blockL]
    exact fin_au _ (.inr rfl) [] (⟨78,mkS [(6,.x (.one (.p (.sl 1 (List.map encI ([]:List Int)))))),(7,.x (.one (.p (pi (1:Int)))))],mkH []⟩) rfl rfl (Imp.trans (imp_frz 106 1 (List.map encI ([]:List Int))) imp_au)
  · intro b_16
    replace H0:=cneg H0 b_16
    refine lok_skip ?_
    try simp only [thenL,blockL,↓reduceIte,reduceCtorEq]
    refine lok_seq ?_
    replace H0:=bind_some H0
    obtain ⟨y1,h_1,H0⟩:=H0
    replace H0:=req_some H0
    obtain ⟨q_15,H0⟩:=H0
    refine lok_rt (Env.of E0 [⟨some 24,37,[.agg [.p (.sl 1 (List.map encI d.Counts))]],[],[.one (.p (pi y1))],[],True,fun _ => ok_ref32_Count d y1 h_1,[]⟩,
      ⟨some 28,37,[.agg [.p (.sl 1 (List.map encI reference.Counts))]],[],[.one (.p (pi ((ref32_Count reference).getD default)))],[],(ref32_Count reference).isSome=true,fun h => ok_ref32_Count reference _ (isSome_get h),[]⟩]) (⟨78,mkS [(2,.x (.one (.p (.sl 1 (List.map encI b))))),(3,.x (.one (.ptr 103 0))),(4,.x (.one (.ptr 104 0))),(30,.x (.one (.p (.val (.bool ((y1==(0:Int))||(((ref32_Count reference).getD default)==(0:Int))))))))],mkH [(103,.var [.p (.sl 1 (List.map encI d.Counts))]),(104,.var [.p (.sl 1 (List.map encI reference.Counts))])]⟩) ?_
    refine lok_c ((y1==(0:Int))||(((ref32_Count reference).getD default)==(0:Int))) ?_ ?_
    · intro b_14
      replace H0:=cpos H0 b_14
      refine lok_rt E0 (⟨78,mkS [(6,.x (.one (.vw 106))),(7,.x (.one (.p (pi (10:Int)))))],mkH [(106,.arr 1 (List.map encI ([]:List Int)))]⟩) ?_
      refine lok_ret ?_
      obtain rfl:=Option.some.inj H0
      try simp only [thenL,blockL]
      exact fin_au _ (.inr rfl) [] (⟨78,mkS [(6,.x (.one (.p (.sl 1 (List.map encI ([]:List Int)))))),(7,.x (.one (.p (pi (10:Int)))))],mkH []⟩) rfl rfl (Imp.trans (imp_frz 106 1 (List.map encI ([]:List Int))) imp_au)
    · intro b_14
      replace H0:=cneg H0 b_14
      refine lok_skip ?_
      try simp only [thenL,blockL,↓reduceIte,reduceCtorEq]
      refine lok_seq ?_
      replace H0:=bind_some H0
      obtain ⟨y2,h_2,H0⟩:=H0
      refine lok_rt (Env.of E0 [⟨some 36,11,[.one (.p (.sl 1 (List.map encI b))),.one (.p (pi (IntKind.i64.wrap ((reference.Counts.length:Int)-(1:Int)))))],[],[.one (.p (pi y2))],[],True,fun _ => ok_ref35_Check b (IntKind.i64.wrap ((reference.Counts.length:Int)-(1:Int))) y2 h_2,[]⟩]) (⟨78,mkS [(2,.x (.one (.p (.sl 1 (List.map encI b))))),(3,.x (.one (.ptr 103 0))),(4,.x (.one (.ptr 104 0))),(8,.x (.one (.p (pi y2))))],mkH [(103,.var [.p (.sl 1 (List.map encI d.Counts))]),(104,.var [.p (.sl 1 (List.map encI reference.Counts))])]⟩) ?_
      refine lok_rt E0 (⟨78,mkS [(2,.x (.one (.p (.sl 1 (List.map encI b))))),(3,.x (.one (.ptr 103 0))),(4,.x (.one (.ptr 104 0))),(8,.x (.one (.p (pi y2)))),(38,.x (.one (.p (.val (.bool (y2 != (0:Int)))))))],mkH [(103,.var [.p (.sl 1 (List.map encI d.Counts))]),(104,.var [.p (.sl 1 (List.map encI reference.Counts))])]⟩) ?_
      refine lok_c (y2 != (0:Int)) ?_ ?_
      · intro b_13
        replace H0:=cpos H0 b_13
        refine lok_rt E0 (⟨78,mkS [(6,.x (.one (.vw 106))),(7,.x (.one (.p (pi y2))))],mkH [(106,.arr 1 (List.map encI ([]:List Int)))]⟩) ?_
        refine lok_ret ?_
        obtain rfl:=Option.some.inj H0
        try simp only [thenL,blockL]
        exact fin_au _ (.inr rfl) [] (⟨78,mkS [(6,.x (.one (.p (.sl 1 (List.map encI ([]:List Int)))))),(7,.x (.one (.p (pi y2))))],mkH []⟩) rfl rfl (Imp.trans (imp_frz 106 1 (List.map encI ([]:List Int))) imp_au)
      · intro b_13
        replace H0:=cneg H0 b_13
        refine lok_skip ?_
        try simp only [thenL,blockL,↓reduceIte,reduceCtorEq]
        refine lok_rt E0 (⟨78,mkS [(2,.x (.one (.p (.sl 1 (List.map encI b))))),(3,.x (.one (.ptr 103 0))),(4,.x (.one (.ptr 104 0))),(9,.x (.one (.vw 109)))],mkH [(103,.var [.p (.sl 1 (List.map encI d.Counts))]),(104,.var [.p (.sl 1 (List.map encI reference.Counts))]),(109,.arr 1 (List.map encI ([]:List Int)))]⟩) ?_
        refine lok_join (fun x_:(List Int) => ref35_Reference_j1 x_=some r_) (fun x_ => ⟨78,mkS [(9,.x (.one (.vw 109)))],mkH [(109,.arr 1 (List.map encI x_))]⟩) ?hyref35_Reference_j1 ?hxref35_Reference_j1
        case hyref35_Reference_j1 =>
          rintro out H0
          try dsimp only at H0 ⊢
          unfold ref35_Reference_j1 at H0
          refine lok_rt E0 (⟨78,mkS [(6,.x (.one (.vw 109))),(7,.x (.one (.p (pi (0:Int)))))],mkH [(109,.arr 1 (List.map encI out))]⟩) ?_
          refine lok_ret ?_
          obtain rfl:=Option.some.inj H0
          try simp only [thenL,blockL]
          exact fin_au _ (.inr rfl) [] (⟨78,mkS [(6,.x (.one (.p (.sl 1 (List.map encI out))))),(7,.x (.one (.p (pi (0:Int)))))],mkH []⟩) rfl rfl (Imp.trans (imp_frz 109 1 (List.map encI out)) imp_au)
        case hxref35_Reference_j1 =>
          refine lok_rt E0 (⟨78,mkS [(2,.x (.one (.p (.sl 1 (List.map encI b))))),(3,.x (.one (.ptr 103 0))),(4,.x (.one (.ptr 104 0))),(9,.x (.one (.vw 109))),(10,.x (.one (.p (pi (0:Int)))))],mkH [(103,.var [.p (.sl 1 (List.map encI d.Counts))]),(104,.var [.p (.sl 1 (List.map encI reference.Counts))]),(109,.arr 1 (List.map encI ([]:List Int)))]⟩) ?_
          refine lok_block ?_
          replace H0:=bind_some H0
          obtain ⟨v_3,hv_3,H0⟩:=H0
          refine lok_iter (fun x_ => ⟨78,mkS [(2,.x (.one (.p (.sl 1 (List.map encI b))))),(3,.x (.one (.ptr 103 0))),(4,.x (.one (.ptr 104 0))),(9,.x (.one (.vw 109))),(10,.x (.one (.p (pi x_.1))))],mkH [(103,.var [.p (.sl 1 (List.map encI d.Counts))]),(104,.var [.p (.sl 1 (List.map encI reference.Counts))]),(109,.arr 1 (List.map encI x_.2))]⟩) hv_3 imp_au ?_
          · rintro ⟨i,out1⟩ o_1 H1 k_1
            unfold ref35_Reference_l3 at H1
            try dsimp only at H1 ⊢
            refine lok_seq ?_
            refine lok_rt E0 (⟨78,mkS [(2,.x (.one (.p (.sl 1 (List.map encI b))))),(3,.x (.one (.ptr 103 0))),(4,.x (.one (.ptr 104 0))),(9,.x (.one (.vw 109))),(10,.x (.one (.p (pi i)))),(43,.x (.one (.p (.val (.bool (decide (i<(b.length:Int))))))))],mkH [(103,.var [.p (.sl 1 (List.map encI d.Counts))]),(104,.var [.p (.sl 1 (List.map encI reference.Counts))]),(109,.arr 1 (List.map encI out1))]⟩) ?_
            refine lok_c (decide (i<(b.length:Int))) ?_ ?_
            · intro b_12
              replace H1:=cpos H1 b_12
              refine lok_skip ?_
              try simp only [thenL,blockL,↓reduceIte,reduceCtorEq]
              refine lok_seq ?_
              refine lok_block ?_
              replace H1:=req_some H1
              obtain ⟨q_11,H1⟩:=H1
              replace H1:=bind_some H1
              obtain ⟨y3,h_4,H1⟩:=H1
              replace H1:=bind_some H1
              obtain ⟨y4,h_5,H1⟩:=H1
              replace H1:=bind_some H1
              obtain ⟨⟨y5,y6⟩,h_6,H1⟩:=H1
              try dsimp only at H1
              refine lok_et (Env.of E0 [⟨some 52,39,[.agg [.p (.sl 1 (List.map encI reference.Counts))],.one (.p (pi (ix b i)))],[],[.one (.p (pi y3))],[],True,fun _ => ok_ref35_reached reference (ix b i) y3 h_4,[]⟩,
      ⟨some 54,37,[.agg [.p (.sl 1 (List.map encI reference.Counts))]],[],[.one (.p (pi y4))],[],True,fun _ => ok_ref32_Count reference y4 h_5,[]⟩,
      ⟨some 55,38,[.one (.p (pi y3)),.one (.p (pi y4))],[],[.agg [.p (pi y5.Num),.p (pi y5.Den)],.one (.p (pi y6))],[],True,fun _ => ok_ref01_New y3 y4 (y5,y6) h_6,[]⟩]) 78 [⟨[(4,.x (.one (.ptr 104 0)))],[(104,some (.var [.p (.sl 1 (List.map encI reference.Counts))]))],[(47,.x (.agg [.p (.sl 1 (List.map encI reference.Counts))]))],[],none⟩,
      ⟨[(2,.x (.one (.p (.sl 1 (List.map encI b)))))],[],[(48,.x (.one (.p (.sl 1 (List.map encI b)))))],[],none⟩,
      ⟨[(10,.x (.one (.p (pi i))))],[],[(49,.x (.one (.p (pi i))))],[],none⟩,
      ⟨[(48,.x (.one (.p (.sl 1 (List.map encI b))))),(49,.x (.one (.p (pi i))))],[],[(50,.x (.one (.ep [pi (ix b i)])))],[],none⟩,
      ⟨[(50,.x (.one (.ep [pi (ix b i)])))],[],[(51,.x (.one (.p (pi (ix b i)))))],[],none⟩,
      ⟨[(47,.x (.agg [.p (.sl 1 (List.map encI reference.Counts))])),(51,.x (.one (.p (pi (ix b i)))))],[],[(52,.x (.one (.p (pi y3))))],[],none⟩,
      ⟨[(4,.x (.one (.ptr 104 0)))],[(104,some (.var [.p (.sl 1 (List.map encI reference.Counts))]))],[(53,.x (.agg [.p (.sl 1 (List.map encI reference.Counts))]))],[],none⟩,
      ⟨[(53,.x (.agg [.p (.sl 1 (List.map encI reference.Counts))]))],[],[(54,.x (.one (.p (pi y4))))],[],none⟩,
      ⟨[(52,.x (.one (.p (pi y3)))),(54,.x (.one (.p (pi y4))))],[],[(55,.tup [.agg [.p (pi y5.Num),.p (pi y5.Den)],.one (.p (pi y6))])],[],none⟩,
      ⟨[(55,.tup [.agg [.p (pi y5.Num),.p (pi y5.Den)],.one (.p (pi y6))])],[],[(46,.tup [.agg [.p (pi y5.Num),.p (pi y5.Den)],.one (.p (pi y6))])],[],none⟩,
      ⟨[(46,.tup [.agg [.p (pi y5.Num),.p (pi y5.Den)],.one (.p (pi y6))])],[],[(56,.x (.agg [.p (pi y5.Num),.p (pi y5.Den)]))],[],none⟩,
      ⟨[(46,.tup [.agg [.p (pi y5.Num),.p (pi y5.Den)],.one (.p (pi y6))])],[],[(57,.x (.one (.p (pi y6))))],[],none⟩,
      ⟨[],[(111,none)],[(11,.x (.one (.ptr 111 0)))],[(111,some (.var [.p (pi (0:Int)),.p (pi (0:Int))]))],some 111⟩,
      ⟨[(11,.x (.one (.ptr 111 0))),(56,.x (.agg [.p (pi y5.Num),.p (pi y5.Den)]))],[(111,some (.var [.p (pi (0:Int)),.p (pi (0:Int))]))],[],[(111,some (.var [.p (pi y5.Num),.p (pi y5.Den)]))],none⟩] (⟨78,mkS [(2,.x (.one (.p (.sl 1 (List.map encI b))))),(3,.x (.one (.ptr 103 0))),(4,.x (.one (.ptr 104 0))),(9,.x (.one (.vw 109))),(10,.x (.one (.p (pi i)))),(11,.x (.one (.ptr 111 0)))],mkH [(103,.var [.p (.sl 1 (List.map encI d.Counts))]),(104,.var [.p (.sl 1 (List.map encI reference.Counts))]),(109,.arr 1 (List.map encI out1)),(111,.var [.p (pi y5.Num),.p (pi y5.Den)])]⟩) (by kernel_rfl) (by kernel_rfl) (by kernel_rfl) rfl rfl rfl ?_
              replace H1:=bind_some H1
              obtain ⟨⟨y7,y8⟩,h_7,H1⟩:=H1
              try dsimp only at H1
              refine lok_rt (Env.of E0 [⟨some 61,25,[.agg [.p (.sl 1 (List.map encI d.Counts))],.agg [.p (pi y5.Num),.p (pi y5.Den)]],[],[.one (.p (pi y7)),.one (.p (pi y8))],[],True,fun _ => ok_ref35_Nearest d y5 (y7,y8) h_7,[]⟩]) (⟨78,mkS [(2,.x (.one (.p (.sl 1 (List.map encI b))))),(3,.x (.one (.ptr 103 0))),(4,.x (.one (.ptr 104 0))),(9,.x (.one (.vw 109))),(10,.x (.one (.p (pi i)))),(13,.x (.one (.p (pi y7))))],mkH [(103,.var [.p (.sl 1 (List.map encI d.Counts))]),(104,.var [.p (.sl 1 (List.map encI reference.Counts))]),(109,.arr 1 (List.map encI out1))]⟩) ?_
              refine lok_join (fun x_:Int => ref35_Reference_j2 i out1 x_=some o_1) (fun x_ => ⟨78,mkS [(2,.x (.one (.p (.sl 1 (List.map encI b))))),(3,.x (.one (.ptr 103 0))),(4,.x (.one (.ptr 104 0))),(9,.x (.one (.vw 109))),(10,.x (.one (.p (pi i)))),(13,.x (.one (.p (pi x_))))],mkH [(103,.var [.p (.sl 1 (List.map encI d.Counts))]),(104,.var [.p (.sl 1 (List.map encI reference.Counts))]),(109,.arr 1 (List.map encI out1))]⟩) ?hyref35_Reference_j2 ?hxref35_Reference_j2
              case hyref35_Reference_j2 =>
                rintro n H1
                try dsimp only at H1 ⊢
                unfold ref35_Reference_j2 at H1
                replace H1:=req_some H1
                obtain ⟨q_8,H1⟩:=H1
                refine lok_rl E0 (⟨78,mkS [(2,.x (.one (.p (.sl 1 (List.map encI b))))),(3,.x (.one (.ptr 103 0))),(4,.x (.one (.ptr 104 0))),(9,.x (.one (.vw 109))),(10,.x (.one (.p (pi i))))],mkH [(103,.var [.p (.sl 1 (List.map encI d.Counts))]),(104,.var [.p (.sl 1 (List.map encI reference.Counts))]),(109,.arr 1 (List.map encI (out1 ++ [n])))]⟩) ?_
                try simp only [thenL,blockL,↓reduceIte,reduceCtorEq]
                refine lok_rl E0 (⟨78,mkS [(2,.x (.one (.p (.sl 1 (List.map encI b))))),(3,.x (.one (.ptr 103 0))),(4,.x (.one (.ptr 104 0))),(9,.x (.one (.vw 109))),(10,.x (.one (.p (pi (IntKind.i64.wrap (i+(1:Int)))))))],mkH [(103,.var [.p (.sl 1 (List.map encI d.Counts))]),(104,.var [.p (.sl 1 (List.map encI reference.Counts))]),(109,.arr 1 (List.map encI (out1 ++ [n])))]⟩) ?_
                try simp only [thenL,blockL,↓reduceIte,reduceCtorEq]
                exact ⟨((IntKind.i64.wrap (i+(1:Int))),(out1 ++ [n])),(Option.some.inj H1).symm,imp_au⟩
              case hxref35_Reference_j2 =>
                refine lok_rt E0 (⟨78,mkS [(2,.x (.one (.p (.sl 1 (List.map encI b))))),(3,.x (.one (.ptr 103 0))),(4,.x (.one (.ptr 104 0))),(9,.x (.one (.vw 109))),(10,.x (.one (.p (pi i)))),(13,.x (.one (.p (pi y7)))),(65,.x (.one (.p (.val (.bool (decide ((0:Int)<i)))))))],mkH [(103,.var [.p (.sl 1 (List.map encI d.Counts))]),(104,.var [.p (.sl 1 (List.map encI reference.Counts))]),(109,.arr 1 (List.map encI out1))]⟩) ?_
                refine lok_c (decide ((0:Int)<i)) ?_ ?_
                · intro b_10
                  replace H1:=cpos H1 b_10
                  replace H1:=req_some H1
                  obtain ⟨q_9,H1⟩:=H1
                  refine lok_rl E0 (⟨78,mkS [(2,.x (.one (.p (.sl 1 (List.map encI b))))),(3,.x (.one (.ptr 103 0))),(4,.x (.one (.ptr 104 0))),(9,.x (.one (.vw 109))),(10,.x (.one (.p (pi i)))),(13,.x (.one (.p (pi (imin y7 (ix out1 (IntKind.i64.wrap (i-(1:Int)))))))))],mkH [(103,.var [.p (.sl 1 (List.map encI d.Counts))]),(104,.var [.p (.sl 1 (List.map encI reference.Counts))]),(109,.arr 1 (List.map encI out1))]⟩) ?_
                  try simp only [thenL,blockL,↓reduceIte,reduceCtorEq]
                  exact ⟨(imin y7 (ix out1 (IntKind.i64.wrap (i-(1:Int))))),H1,imp_au⟩
                · intro b_10
                  replace H1:=cneg H1 b_10
                  refine lok_skip ?_
                  try simp only [thenL,blockL,↓reduceIte,reduceCtorEq]
                  exact ⟨y7,H1,imp_au⟩
            · intro b_12
              replace H1:=cneg H1 b_12
              refine lok_exit ?_
              try simp only [thenL,blockL,↓reduceIte,reduceCtorEq]
              have e_1:=k_1 _ (Option.some.inj H1).symm
              subst e_1
              try dsimp only at H0
              try simp only [thenL,blockL,↓reduceIte,reduceCtorEq]
              exact ⟨out1,H0,imp_au⟩
theorem ok_law35_same (a:List Int) (b:List Int) (r_:Bool) (H0:law35_same a b=some r_):CallOK Tryz.prog 18 [.one (.p (.sl 1 (List.map encI a))),.one (.p (.sl 1 (List.map encI b)))] [] [.one (.p (.val (.bool r_)))] []:=by
  refine callOK (n:=26) (rs:=[.tmp 4]) (nb:=0) (V:=[]) Tryz.func18 rfl (by kernel_rfl) rfl rfl rfl rfl (Nat.le_of_ble_eq_true rfl) (by decide) ?_
  unfold law35_same at H0
  refine lok_rt E0 (⟨26,mkS [(0,.x (.one (.p (.sl 1 (List.map encI a))))),(1,.x (.one (.p (.sl 1 (List.map encI b)))))],mkH []⟩) ?_
  refine lok_seq ?_
  refine lok_rt E0 (⟨26,mkS [(0,.x (.one (.p (.sl 1 (List.map encI a))))),(1,.x (.one (.p (.sl 1 (List.map encI b))))),(10,.x (.one (.p (.val (.bool ((a.length:Int) != (b.length:Int)))))))],mkH []⟩) ?_
  refine lok_c ((a.length:Int) != (b.length:Int)) ?_ ?_
  · intro b_5
    replace H0:=cpos H0 b_5
    refine lok_rt E0 (⟨26,mkS [(4,.x (.one (.p (.val (.bool false)))))],mkH []⟩) ?_
    refine lok_ret ?_
    obtain rfl:=Option.some.inj H0
    try simp only [thenL,blockL]
    exact fin_au _ (.inr rfl) [] (⟨26,mkS [(4,.x (.one (.p (.val (.bool false)))))],mkH []⟩) rfl rfl imp_au
  · intro b_5
    replace H0:=cneg H0 b_5
    refine lok_skip ?_
    try simp only [thenL,blockL,↓reduceIte,reduceCtorEq]
    refine lok_join (fun x_:Unit => law35_same_j1=some r_) (fun x_ => ⟨26,mkS [],mkH []⟩) ?hylaw35_same_j1 ?hxlaw35_same_j1
    case hylaw35_same_j1 =>
      rintro _ H0
      try dsimp only at H0 ⊢
      unfold law35_same_j1 at H0
      refine lok_rt E0 (⟨26,mkS [(4,.x (.one (.p (.val (.bool true)))))],mkH []⟩) ?_
      refine lok_ret ?_
      obtain rfl:=Option.some.inj H0
      try simp only [thenL,blockL]
      exact fin_au _ (.inr rfl) [] (⟨26,mkS [(4,.x (.one (.p (.val (.bool true)))))],mkH []⟩) rfl rfl imp_au
    case hxlaw35_same_j1 =>
      refine lok_rt E0 (⟨26,mkS [(0,.x (.one (.p (.sl 1 (List.map encI a))))),(1,.x (.one (.p (.sl 1 (List.map encI b))))),(12,.x (.one (.p (pi (a.length:Int))))),(13,.x (.one (.p (pi (0:Int)))))],mkH []⟩) ?_
      refine lok_block ?_
      replace H0:=bind_some H0
      obtain ⟨v_0,hv_0,H0⟩:=H0
      refine lok_iter (fun x_ => ⟨26,mkS [(0,.x (.one (.p (.sl 1 (List.map encI a))))),(1,.x (.one (.p (.sl 1 (List.map encI b))))),(12,.x (.one (.p (pi (a.length:Int))))),(13,.x (.one (.p (pi x_))))],mkH []⟩) hv_0 imp_au ?_
      · rintro v o_1 H1 k_1
        unfold law35_same_l2 at H1
        try dsimp only at H1 ⊢
        refine lok_rt E0 (⟨26,mkS [(0,.x (.one (.p (.sl 1 (List.map encI a))))),(1,.x (.one (.p (.sl 1 (List.map encI b))))),(12,.x (.one (.p (pi (a.length:Int))))),(13,.x (.one (.p (pi v)))),(14,.x (.one (.p (.val (.bool (decide (v<(a.length:Int))))))))],mkH []⟩) ?_
        refine lok_seq ?_
        refine lok_c (decide (v<(a.length:Int))) ?_ ?_
        · intro b_4
          replace H1:=cpos H1 b_4
          refine lok_skip ?_
          try simp only [thenL,blockL,↓reduceIte,reduceCtorEq]
          refine lok_seq ?_
          refine lok_block ?_
          refine lok_rt E0 (⟨26,mkS [(0,.x (.one (.p (.sl 1 (List.map encI a))))),(1,.x (.one (.p (.sl 1 (List.map encI b))))),(5,.x (.one (.p (pi v)))),(12,.x (.one (.p (pi (a.length:Int))))),(13,.x (.one (.p (pi v))))],mkH []⟩) ?_
          replace H1:=req_some H1
          obtain ⟨⟨q_2,q_3⟩,H1⟩:=H1
          refine lok_dt E0 8 (⟨26,mkS [(0,.x (.one (.p (.sl 1 (List.map encI a))))),(1,.x (.one (.p (.sl 1 (List.map encI b))))),(12,.x (.one (.p (pi (a.length:Int))))),(13,.x (.one (.p (pi v)))),(24,.x (.one (.p (.val (.bool ((ix a v) != (ix b v)))))))],mkH []⟩) (by kernel_rfl) (by kernel_rfl) ?_
          refine lok_c ((ix a v) != (ix b v)) ?_ ?_
          · intro b_1
            replace H1:=cpos H1 b_1
            refine lok_rt E0 (⟨26,mkS [(4,.x (.one (.p (.val (.bool false)))))],mkH []⟩) ?_
            refine lok_ret ?_
            try simp only [thenL,blockL,↓reduceIte,reduceCtorEq]
            have e_1:=k_1 _ (Option.some.inj H1).symm
            subst e_1
            try dsimp only at H0
            obtain rfl:=Option.some.inj H0
            try simp only [thenL,blockL]
            exact fin_au _ (.inr rfl) [] (⟨26,mkS [(4,.x (.one (.p (.val (.bool false)))))],mkH []⟩) rfl rfl imp_au
          · intro b_1
            replace H1:=cneg H1 b_1
            refine lok_skip ?_
            try simp only [thenL,blockL,↓reduceIte,reduceCtorEq]
            refine lok_rl E0 (⟨26,mkS [(0,.x (.one (.p (.sl 1 (List.map encI a))))),(1,.x (.one (.p (.sl 1 (List.map encI b))))),(12,.x (.one (.p (pi (a.length:Int))))),(13,.x (.one (.p (pi (IntKind.i64.wrap (v+(1:Int)))))))],mkH []⟩) ?_
            try simp only [thenL,blockL,↓reduceIte,reduceCtorEq]
            exact ⟨(IntKind.i64.wrap (v+(1:Int))),(Option.some.inj H1).symm,imp_au⟩
        · intro b_4
          replace H1:=cneg H1 b_4
          refine lok_exit ?_
          try simp only [thenL,blockL,↓reduceIte,reduceCtorEq]
          have e_1:=k_1 _ (Option.some.inj H1).symm
          subst e_1
          try dsimp only at H0
          try simp only [thenL,blockL,↓reduceIte,reduceCtorEq]
          exact ⟨(),H0,imp_au⟩
theorem ok_mark_Dice_Next (d:mark_Dice) (n:Int) (r_:Int × mark_Dice) (H0:mark_Dice_Next d n=some r_):CallOK Tryz.prog 9 [.one (.ptr 0 0),.one (.p (pi n))] [.var [.p (.sl 1 (List.map encI d.L)),.p (pi d.At)]] [.one (.p (pi r_.1))] [some (.var [.p (.sl 1 (List.map encI r_.2.L)),.p (pi r_.2.At)])]:=by
  refine callOK (n:=45) (rs:=[.tmp 4]) (nb:=1) (V:=[0]) Tryz.func9 rfl (by kernel_rfl) rfl rfl rfl rfl (Nat.le_of_ble_eq_true rfl) (by decide) ?_
  unfold mark_Dice_Next at H0
  refine lok_rt E0 (⟨45,mkS [(0,.x (.one (.ptr 0 0))),(1,.x (.one (.p (pi n))))],mkH [(0,.var [.p (.sl 1 (List.map encI d.L)),.p (pi d.At)])]⟩) ?_
  refine lok_seq ?_
  refine lok_dt E0 9 (⟨45,mkS [(0,.x (.one (.ptr 0 0))),(1,.x (.one (.p (pi n)))),(19,.x (.one (.p (.val (.bool ((decide ((d.L.length:Int)≤d.At))||(decide (n<(1:Int)))))))))],mkH [(0,.var [.p (.sl 1 (List.map encI d.L)),.p (pi d.At)])]⟩) (by kernel_rfl) (by kernel_rfl) ?_
  refine lok_c ((decide ((d.L.length:Int)≤d.At))||(decide (n<(1:Int)))) ?_ ?_
  · intro b_3
    replace H0:=cpos H0 b_3
    refine lok_rt E0 (⟨45,mkS [(4,.x (.one (.p (pi (0:Int)))))],mkH [(0,.var [.p (.sl 1 (List.map encI d.L)),.p (pi d.At)])]⟩) ?_
    refine lok_ret ?_
    obtain rfl:=Option.some.inj H0
    try simp only [thenL,blockL]
    exact fin_au _ (.inr rfl) [0] (⟨45,mkS [(4,.x (.one (.p (pi (0:Int)))))],mkH [(0,.var [.p (.sl 1 (List.map encI d.L)),.p (pi d.At)])]⟩) rfl rfl imp_au
  · intro b_3
    replace H0:=cneg H0 b_3
    refine lok_skip ?_
    try simp only [thenL,blockL,↓reduceIte,reduceCtorEq]
    replace H0:=req_some H0
    obtain ⟨⟨q_1,q_2⟩,H0⟩:=H0
    refine lok_dt E0 11 (⟨45,mkS [(0,.x (.one (.ptr 0 0))),(1,.x (.one (.p (pi n)))),(5,.x (.one (.p (pi (Int.tmod (ix d.L d.At) n)))))],mkH [(0,.var [.p (.sl 1 (List.map encI d.L)),.p (pi d.At)])]⟩) (by kernel_rfl) (by kernel_rfl) ?_
    refine lok_rt E0 (⟨45,mkS [(1,.x (.one (.p (pi n)))),(5,.x (.one (.p (pi (Int.tmod (ix d.L d.At) n)))))],mkH [(0,.var [.p (.sl 1 (List.map encI d.L)),.p (pi (IntKind.i64.wrap (d.At+(1:Int))))])]⟩) ?_
    refine lok_join (fun x_:Int => mark_Dice_Next_j1 d x_=some r_) (fun x_ => ⟨45,mkS [(5,.x (.one (.p (pi x_))))],mkH [(0,.var [.p (.sl 1 (List.map encI d.L)),.p (pi (IntKind.i64.wrap (d.At+(1:Int))))])]⟩) ?hymark_Dice_Next_j1 ?hxmark_Dice_Next_j1
    case hymark_Dice_Next_j1 =>
      rintro x H0
      try dsimp only at H0 ⊢
      unfold mark_Dice_Next_j1 at H0
      refine lok_rt E0 (⟨45,mkS [(4,.x (.one (.p (pi x))))],mkH [(0,.var [.p (.sl 1 (List.map encI d.L)),.p (pi (IntKind.i64.wrap (d.At+(1:Int))))])]⟩) ?_
      refine lok_ret ?_
      obtain rfl:=Option.some.inj H0
      try simp only [thenL,blockL]
      exact fin_au _ (.inr rfl) [0] (⟨45,mkS [(4,.x (.one (.p (pi x))))],mkH [(0,.var [.p (.sl 1 (List.map encI d.L)),.p (pi (IntKind.i64.wrap (d.At+(1:Int))))])]⟩) rfl rfl imp_au
    case hxmark_Dice_Next_j1 =>
      refine lok_rt E0 (⟨45,mkS [(1,.x (.one (.p (pi n)))),(5,.x (.one (.p (pi (Int.tmod (ix d.L d.At) n))))),(40,.x (.one (.p (.val (.bool (decide ((Int.tmod (ix d.L d.At) n)<(0:Int))))))))],mkH [(0,.var [.p (.sl 1 (List.map encI d.L)),.p (pi (IntKind.i64.wrap (d.At+(1:Int))))])]⟩) ?_
      refine lok_c (decide ((Int.tmod (ix d.L d.At) n)<(0:Int))) ?_ ?_
      · intro b_0
        replace H0:=cpos H0 b_0
        refine lok_rl E0 (⟨45,mkS [(5,.x (.one (.p (pi (IntKind.i64.wrap ((Int.tmod (ix d.L d.At) n)+n))))))],mkH [(0,.var [.p (.sl 1 (List.map encI d.L)),.p (pi (IntKind.i64.wrap (d.At+(1:Int))))])]⟩) ?_
        try simp only [thenL,blockL,↓reduceIte,reduceCtorEq]
        exact ⟨(IntKind.i64.wrap ((Int.tmod (ix d.L d.At) n)+n)),H0,imp_au⟩
      · intro b_0
        replace H0:=cneg H0 b_0
        refine lok_skip ?_
        try simp only [thenL,blockL,↓reduceIte,reduceCtorEq]
        exact ⟨(Int.tmod (ix d.L d.At) n),H0,imp_au⟩
end Go.LS
