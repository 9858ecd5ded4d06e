/-
  The walks: the functions compute what the plain ones say. Condition: the plain function has a value.
-/
import Derived.Test.YtamifffofclhkaaGreatK3
import Derived.Test.YtamifffofclhkaaGreatD4
namespace Go.LS
open Go.Proofs
set_option linter.all false
set_option linter.unusedSimpArgs false
set_option linter.unusedVariables false
set_option maxRecDepth 20000

theorem ok_ref01_Sub (a:api_Ratio) (b:api_Ratio) (r_:api_Ratio × Int) (H0:ref01_Sub a b=some r_):CallOK Tryz.prog 95 [.agg [.p (pi a.Num),.p (pi a.Den)],.agg [.p (pi b.Num),.p (pi b.Den)]] [] [.agg [.p (pi r_.1.Num),.p (pi r_.1.Den)],.one (.p (pi r_.2))] []:=by
  refine callOK (n:=25) (rs:=[.cell 4 26,.tmp 5]) (nb:=0) (V:=[]) Tryz.func95 rfl (by kernel_rfl) rfl rfl rfl rfl (Nat.le_of_ble_eq_true rfl) (by decide) ?_
  unfold ref01_Sub at H0
  refine lok_rt E0 (⟨25,mkS [(2,.x (.one (.ptr 102 0))),(3,.x (.one (.ptr 103 0))),(4,.x (.one (.ptr 104 0)))],mkH [(102,.var [.p (pi a.Num),.p (pi a.Den)]),(103,.var [.p (pi b.Num),.p (pi b.Den)]),(104,.var [.p (pi (0:Int)),.p (pi (0:Int))])]⟩) ?_
  refine lok_seq ?_
  replace H0:=bind_some H0
  obtain ⟨y,h_0,H0⟩:=H0
  replace H0:=req_some H0
  obtain ⟨q_3,H0⟩:=H0
  refine lok_rt (Env.of E0 [⟨some 7,60,[.agg [.p (pi a.Num),.p (pi a.Den)]],[],[.one (.p (.val (.bool y)))],[],True,fun _ => ok_ref01_Valid a y h_0,[]⟩,
      ⟨some 11,60,[.agg [.p (pi b.Num),.p (pi b.Den)]],[],[.one (.p (.val (.bool ((ref01_Valid b).getD default))))],[],(ref01_Valid b).isSome=true,fun h => ok_ref01_Valid b _ (isSome_get h),[]⟩]) (⟨25,mkS [(2,.x (.one (.ptr 102 0))),(3,.x (.one (.ptr 103 0))),(4,.x (.one (.ptr 104 0))),(13,.x (.one (.p (.val (.bool ((!y)||(!((ref01_Valid b).getD default))))))))],mkH [(102,.var [.p (pi a.Num),.p (pi a.Den)]),(103,.var [.p (pi b.Num),.p (pi b.Den)]),(104,.var [.p (pi (0:Int)),.p (pi (0:Int))])]⟩) ?_
  refine lok_c ((!y)||(!((ref01_Valid b).getD default))) ?_ ?_
  · intro b_2
    replace H0:=cpos H0 b_2
    refine lok_rt E0 (⟨25,mkS [(4,.x (.one (.ptr 104 0))),(5,.x (.one (.p (pi (1:Int)))))],mkH [(104,.var [.p (pi (0:Int)),.p (pi (0:Int))])]⟩) ?_
    refine lok_ret ?_
    obtain rfl:=Option.some.inj H0
    try simp only [thenL,blockL]
    exact fin_au _ (.inr rfl) [] (⟨25,mkS [(4,.x (.one (.ptr 104 0))),(5,.x (.one (.p (pi (1:Int)))))],mkH [(104,.var [.p (pi (0:Int)),.p (pi (0:Int))])]⟩) rfl rfl imp_au
  · intro b_2
    replace H0:=cneg H0 b_2
    refine lok_skip ?_
    try simp only [thenL,blockL,↓reduceIte,reduceCtorEq]
    replace H0:=bind_some H0
    obtain ⟨⟨y1,y2⟩,h_1,H0⟩:=H0
    try dsimp only at H0
    refine lok_rt (Env.of E0 [⟨some 22,97,[.agg [.p (pi a.Num),.p (pi a.Den)],.agg [.p (pi (IntKind.i64.wrap (0-b.Num))),.p (pi b.Den)]],[],[.agg [.p (pi y1.Num),.p (pi y1.Den)],.one (.p (pi y2))],[],True,fun _ => ok_ref01_Add a (api_Ratio.mk (IntKind.i64.wrap (0-b.Num)) b.Den) (y1,y2) h_1,[]⟩]) (⟨25,mkS [(4,.x (.one (.ptr 104 0))),(5,.x (.one (.p (pi y2))))],mkH [(104,.var [.p (pi y1.Num),.p (pi y1.Den)])]⟩) ?_
    refine lok_ret ?_
    obtain rfl:=Option.some.inj H0
    try simp only [thenL,blockL]
    exact fin_au _ (.inr rfl) [] (⟨25,mkS [(4,.x (.one (.ptr 104 0))),(5,.x (.one (.p (pi y2))))],mkH [(104,.var [.p (pi y1.Num),.p (pi y1.Den)])]⟩) rfl rfl imp_au
set_option maxHeartbeats 4000000 in
theorem ok_ref33_slope (l:List api_Point) (i:Int) (r_:api_Ratio × Bool) (H0:ref33_slope l i=some r_):CallOK Tryz.prog 94 [.one (.p (.sl 4 (List.map enc_api_Point l))),.one (.p (pi i))] [] [.agg [.p (pi r_.1.Num),.p (pi r_.1.Den)],.one (.p (.val (.bool r_.2)))] []:=by
  refine callOK (n:=58) (rs:=[.cell 4 26,.tmp 5]) (nb:=0) (V:=[]) Tryz.func94 rfl (by kernel_rfl) rfl rfl rfl rfl (Nat.le_of_ble_eq_true rfl) (by decide) ?_
  unfold ref33_slope at H0
  refine lok_rt E0 (⟨58,mkS [(0,.x (.one (.p (.sl 4 (List.map enc_api_Point l))))),(1,.x (.one (.p (pi i)))),(4,.x (.one (.ptr 104 0)))],mkH [(104,.var [.p (pi (0:Int)),.p (pi (0:Int))])]⟩) ?_
  replace H0:=req_some H0
  obtain ⟨⟨q_6,q_7⟩,H0⟩:=H0
  replace H0:=bind_some H0
  obtain ⟨⟨y,y1⟩,h_0,H0⟩:=H0
  try dsimp only at H0
  refine lok_et (Env.of E0 [⟨some 24,95,[.agg [.p (pi (((ix l (IntKind.i64.wrap (i+(1:Int)))).Y).Num)),.p (pi (((ix l (IntKind.i64.wrap (i+(1:Int)))).Y).Den))],.agg [.p (pi (((ix l i).Y).Num)),.p (pi (((ix l i).Y).Den))]],[],[.agg [.p (pi y.Num),.p (pi y.Den)],.one (.p (pi y1))],[],True,fun _ => ok_ref01_Sub ((ix l (IntKind.i64.wrap (i+(1:Int)))).Y) ((ix l i).Y) (y,y1) h_0,[]⟩]) 58 [⟨[(0,.x (.one (.p (.sl 4 (List.map enc_api_Point l)))))],[],[(13,.x (.one (.p (.sl 4 (List.map enc_api_Point l)))))],[],none⟩,
      ⟨[(1,.x (.one (.p (pi i))))],[],[(14,.x (.one (.p (pi i))))],[],none⟩,
      ⟨[(14,.x (.one (.p (pi i))))],[],[(15,.x (.one (.p (pi (IntKind.i64.wrap (i+(1:Int)))))))],[],none⟩,
      ⟨[(13,.x (.one (.p (.sl 4 (List.map enc_api_Point l))))),(15,.x (.one (.p (pi (IntKind.i64.wrap (i+(1:Int)))))))],[],[(16,.x (.one (.ep [pi (((ix l (IntKind.i64.wrap (i+(1:Int)))).X).Num),pi (((ix l (IntKind.i64.wrap (i+(1:Int)))).X).Den),pi (((ix l (IntKind.i64.wrap (i+(1:Int)))).Y).Num),pi (((ix l (IntKind.i64.wrap (i+(1:Int)))).Y).Den)])))],[],none⟩,
      ⟨[(16,.x (.one (.ep [pi (((ix l (IntKind.i64.wrap (i+(1:Int)))).X).Num),pi (((ix l (IntKind.i64.wrap (i+(1:Int)))).X).Den),pi (((ix l (IntKind.i64.wrap (i+(1:Int)))).Y).Num),pi (((ix l (IntKind.i64.wrap (i+(1:Int)))).Y).Den)])))],[],[(17,.x (.one (.ep [pi (((ix l (IntKind.i64.wrap (i+(1:Int)))).Y).Num),pi (((ix l (IntKind.i64.wrap (i+(1:Int)))).Y).Den)])))],[],none⟩,
      ⟨[(17,.x (.one (.ep [pi (((ix l (IntKind.i64.wrap (i+(1:Int)))).Y).Num),pi (((ix l (IntKind.i64.wrap (i+(1:Int)))).Y).Den)])))],[],[(18,.x (.agg [.p (pi (((ix l (IntKind.i64.wrap (i+(1:Int)))).Y).Num)),.p (pi (((ix l (IntKind.i64.wrap (i+(1:Int)))).Y).Den))]))],[],none⟩,
      ⟨[(0,.x (.one (.p (.sl 4 (List.map enc_api_Point l)))))],[],[(19,.x (.one (.p (.sl 4 (List.map enc_api_Point l)))))],[],none⟩,
      ⟨[(1,.x (.one (.p (pi i))))],[],[(20,.x (.one (.p (pi i))))],[],none⟩,
      ⟨[(19,.x (.one (.p (.sl 4 (List.map enc_api_Point l))))),(20,.x (.one (.p (pi i))))],[],[(21,.x (.one (.ep [pi (((ix l i).X).Num),pi (((ix l i).X).Den),pi (((ix l i).Y).Num),pi (((ix l i).Y).Den)])))],[],none⟩,
      ⟨[(21,.x (.one (.ep [pi (((ix l i).X).Num),pi (((ix l i).X).Den),pi (((ix l i).Y).Num),pi (((ix l i).Y).Den)])))],[],[(22,.x (.one (.ep [pi (((ix l i).Y).Num),pi (((ix l i).Y).Den)])))],[],none⟩,
      ⟨[(22,.x (.one (.ep [pi (((ix l i).Y).Num),pi (((ix l i).Y).Den)])))],[],[(23,.x (.agg [.p (pi (((ix l i).Y).Num)),.p (pi (((ix l i).Y).Den))]))],[],none⟩,
      ⟨[(18,.x (.agg [.p (pi (((ix l (IntKind.i64.wrap (i+(1:Int)))).Y).Num)),.p (pi (((ix l (IntKind.i64.wrap (i+(1:Int)))).Y).Den))])),(23,.x (.agg [.p (pi (((ix l i).Y).Num)),.p (pi (((ix l i).Y).Den))]))],[],[(24,.tup [.agg [.p (pi y.Num),.p (pi y.Den)],.one (.p (pi y1))])],[],none⟩,
      ⟨[(24,.tup [.agg [.p (pi y.Num),.p (pi y.Den)],.one (.p (pi y1))])],[],[(12,.tup [.agg [.p (pi y.Num),.p (pi y.Den)],.one (.p (pi y1))])],[],none⟩,
      ⟨[(12,.tup [.agg [.p (pi y.Num),.p (pi y.Den)],.one (.p (pi y1))])],[],[(25,.x (.agg [.p (pi y.Num),.p (pi y.Den)]))],[],none⟩,
      ⟨[(12,.tup [.agg [.p (pi y.Num),.p (pi y.Den)],.one (.p (pi y1))])],[],[(26,.x (.one (.p (pi y1))))],[],none⟩,
      ⟨[],[(106,none)],[(6,.x (.one (.ptr 106 0)))],[(106,some (.var [.p (pi (0:Int)),.p (pi (0:Int))]))],some 106⟩,
      ⟨[(6,.x (.one (.ptr 106 0))),(25,.x (.agg [.p (pi y.Num),.p (pi y.Den)]))],[(106,some (.var [.p (pi (0:Int)),.p (pi (0:Int))]))],[],[(106,some (.var [.p (pi y.Num),.p (pi y.Den)]))],none⟩] (⟨58,mkS [(0,.x (.one (.p (.sl 4 (List.map enc_api_Point l))))),(1,.x (.one (.p (pi i)))),(4,.x (.one (.ptr 104 0))),(6,.x (.one (.ptr 106 0))),(7,.x (.one (.p (pi y1))))],mkH [(104,.var [.p (pi (0:Int)),.p (pi (0:Int))]),(106,.var [.p (pi y.Num),.p (pi y.Den)])]⟩) (by kernel_rfl) (by kernel_rfl) (by kernel_rfl) rfl rfl rfl ?_
  replace H0:=req_some H0
  obtain ⟨⟨q_4,q_5⟩,H0⟩:=H0
  replace H0:=bind_some H0
  obtain ⟨⟨y2,y3⟩,h_1,H0⟩:=H0
  try dsimp only at H0
  refine lok_et (Env.of E0 [⟨some 39,95,[.agg [.p (pi (((ix l (IntKind.i64.wrap (i+(1:Int)))).X).Num)),.p (pi (((ix l (IntKind.i64.wrap (i+(1:Int)))).X).Den))],.agg [.p (pi (((ix l i).X).Num)),.p (pi (((ix l i).X).Den))]],[],[.agg [.p (pi y2.Num),.p (pi y2.Den)],.one (.p (pi y3))],[],True,fun _ => ok_ref01_Sub ((ix l (IntKind.i64.wrap (i+(1:Int)))).X) ((ix l i).X) (y2,y3) h_1,[]⟩]) 58 [⟨[(0,.x (.one (.p (.sl 4 (List.map enc_api_Point l)))))],[],[(28,.x (.one (.p (.sl 4 (List.map enc_api_Point l)))))],[],none⟩,
      ⟨[(1,.x (.one (.p (pi i))))],[],[(29,.x (.one (.p (pi i))))],[],none⟩,
      ⟨[(29,.x (.one (.p (pi i))))],[],[(30,.x (.one (.p (pi (IntKind.i64.wrap (i+(1:Int)))))))],[],none⟩,
      ⟨[(28,.x (.one (.p (.sl 4 (List.map enc_api_Point l))))),(30,.x (.one (.p (pi (IntKind.i64.wrap (i+(1:Int)))))))],[],[(31,.x (.one (.ep [pi (((ix l (IntKind.i64.wrap (i+(1:Int)))).X).Num),pi (((ix l (IntKind.i64.wrap (i+(1:Int)))).X).Den),pi (((ix l (IntKind.i64.wrap (i+(1:Int)))).Y).Num),pi (((ix l (IntKind.i64.wrap (i+(1:Int)))).Y).Den)])))],[],none⟩,
      ⟨[(31,.x (.one (.ep [pi (((ix l (IntKind.i64.wrap (i+(1:Int)))).X).Num),pi (((ix l (IntKind.i64.wrap (i+(1:Int)))).X).Den),pi (((ix l (IntKind.i64.wrap (i+(1:Int)))).Y).Num),pi (((ix l (IntKind.i64.wrap (i+(1:Int)))).Y).Den)])))],[],[(32,.x (.one (.ep [pi (((ix l (IntKind.i64.wrap (i+(1:Int)))).X).Num),pi (((ix l (IntKind.i64.wrap (i+(1:Int)))).X).Den),pi (((ix l (IntKind.i64.wrap (i+(1:Int)))).Y).Num),pi (((ix l (IntKind.i64.wrap (i+(1:Int)))).Y).Den)])))],[],none⟩,
      ⟨[(32,.x (.one (.ep [pi (((ix l (IntKind.i64.wrap (i+(1:Int)))).X).Num),pi (((ix l (IntKind.i64.wrap (i+(1:Int)))).X).Den),pi (((ix l (IntKind.i64.wrap (i+(1:Int)))).Y).Num),pi (((ix l (IntKind.i64.wrap (i+(1:Int)))).Y).Den)])))],[],[(33,.x (.agg [.p (pi (((ix l (IntKind.i64.wrap (i+(1:Int)))).X).Num)),.p (pi (((ix l (IntKind.i64.wrap (i+(1:Int)))).X).Den))]))],[],none⟩,
      ⟨[(0,.x (.one (.p (.sl 4 (List.map enc_api_Point l)))))],[],[(34,.x (.one (.p (.sl 4 (List.map enc_api_Point l)))))],[],none⟩,
      ⟨[(1,.x (.one (.p (pi i))))],[],[(35,.x (.one (.p (pi i))))],[],none⟩,
      ⟨[(34,.x (.one (.p (.sl 4 (List.map enc_api_Point l))))),(35,.x (.one (.p (pi i))))],[],[(36,.x (.one (.ep [pi (((ix l i).X).Num),pi (((ix l i).X).Den),pi (((ix l i).Y).Num),pi (((ix l i).Y).Den)])))],[],none⟩,
      ⟨[(36,.x (.one (.ep [pi (((ix l i).X).Num),pi (((ix l i).X).Den),pi (((ix l i).Y).Num),pi (((ix l i).Y).Den)])))],[],[(37,.x (.one (.ep [pi (((ix l i).X).Num),pi (((ix l i).X).Den),pi (((ix l i).Y).Num),pi (((ix l i).Y).Den)])))],[],none⟩,
      ⟨[(37,.x (.one (.ep [pi (((ix l i).X).Num),pi (((ix l i).X).Den),pi (((ix l i).Y).Num),pi (((ix l i).Y).Den)])))],[],[(38,.x (.agg [.p (pi (((ix l i).X).Num)),.p (pi (((ix l i).X).Den))]))],[],none⟩,
      ⟨[(33,.x (.agg [.p (pi (((ix l (IntKind.i64.wrap (i+(1:Int)))).X).Num)),.p (pi (((ix l (IntKind.i64.wrap (i+(1:Int)))).X).Den))])),(38,.x (.agg [.p (pi (((ix l i).X).Num)),.p (pi (((ix l i).X).Den))]))],[],[(39,.tup [.agg [.p (pi y2.Num),.p (pi y2.Den)],.one (.p (pi y3))])],[],none⟩,
      ⟨[(39,.tup [.agg [.p (pi y2.Num),.p (pi y2.Den)],.one (.p (pi y3))])],[],[(27,.tup [.agg [.p (pi y2.Num),.p (pi y2.Den)],.one (.p (pi y3))])],[],none⟩,
      ⟨[(27,.tup [.agg [.p (pi y2.Num),.p (pi y2.Den)],.one (.p (pi y3))])],[],[(40,.x (.agg [.p (pi y2.Num),.p (pi y2.Den)]))],[],none⟩,
      ⟨[(27,.tup [.agg [.p (pi y2.Num),.p (pi y2.Den)],.one (.p (pi y3))])],[],[(41,.x (.one (.p (pi y3))))],[],none⟩,
      ⟨[],[(108,none)],[(8,.x (.one (.ptr 108 0)))],[(108,some (.var [.p (pi (0:Int)),.p (pi (0:Int))]))],some 108⟩,
      ⟨[(8,.x (.one (.ptr 108 0))),(40,.x (.agg [.p (pi y2.Num),.p (pi y2.Den)]))],[(108,some (.var [.p (pi (0:Int)),.p (pi (0:Int))]))],[],[(108,some (.var [.p (pi y2.Num),.p (pi y2.Den)]))],none⟩] (⟨58,mkS [(4,.x (.one (.ptr 104 0))),(6,.x (.one (.ptr 106 0))),(7,.x (.one (.p (pi y1)))),(8,.x (.one (.ptr 108 0))),(9,.x (.one (.p (pi y3))))],mkH [(104,.var [.p (pi (0:Int)),.p (pi (0:Int))]),(106,.var [.p (pi y.Num),.p (pi y.Den)]),(108,.var [.p (pi y2.Num),.p (pi y2.Den)])]⟩) (by kernel_rfl) (by kernel_rfl) (by kernel_rfl) rfl rfl rfl ?_
  refine lok_seq ?_
  refine lok_rt E0 (⟨58,mkS [(4,.x (.one (.ptr 104 0))),(6,.x (.one (.ptr 106 0))),(8,.x (.one (.ptr 108 0))),(47,.x (.one (.p (.val (.bool ((y1 != (0:Int))||(y3 != (0:Int))))))))],mkH [(104,.var [.p (pi (0:Int)),.p (pi (0:Int))]),(106,.var [.p (pi y.Num),.p (pi y.Den)]),(108,.var [.p (pi y2.Num),.p (pi y2.Den)])]⟩) ?_
  refine lok_c ((y1 != (0:Int))||(y3 != (0:Int))) ?_ ?_
  · intro b_3
    replace H0:=cpos H0 b_3
    refine lok_rt E0 (⟨58,mkS [(4,.x (.one (.ptr 104 0))),(5,.x (.one (.p (.val (.bool false)))))],mkH [(104,.var [.p (pi (0:Int)),.p (pi (0:Int))])]⟩) ?_
    refine lok_ret ?_
    obtain rfl:=Option.some.inj H0
    try simp only [thenL,blockL]
    exact fin_au _ (.inr rfl) [] (⟨58,mkS [(4,.x (.one (.ptr 104 0))),(5,.x (.one (.p (.val (.bool false)))))],mkH [(104,.var [.p (pi (0:Int)),.p (pi (0:Int))])]⟩) rfl rfl imp_au
  · intro b_3
    replace H0:=cneg H0 b_3
    refine lok_skip ?_
    try simp only [thenL,blockL,↓reduceIte,reduceCtorEq]
    replace H0:=bind_some H0
    obtain ⟨⟨y4,y5⟩,h_2,H0⟩:=H0
    try dsimp only at H0
    refine lok_rt (Env.of E0 [⟨some 52,107,[.agg [.p (pi y.Num),.p (pi y.Den)],.agg [.p (pi y2.Num),.p (pi y2.Den)]],[],[.agg [.p (pi y4.Num),.p (pi y4.Den)],.one (.p (pi y5))],[],True,fun _ => ok_ref01_Div y y2 (y4,y5) h_2,[]⟩]) (⟨58,mkS [(4,.x (.one (.ptr 104 0))),(10,.x (.one (.ptr 110 0))),(11,.x (.one (.p (pi y5))))],mkH [(104,.var [.p (pi (0:Int)),.p (pi (0:Int))]),(110,.var [.p (pi y4.Num),.p (pi y4.Den)])]⟩) ?_
    refine lok_rt E0 (⟨58,mkS [(4,.x (.one (.ptr 104 0))),(5,.x (.one (.p (.val (.bool (y5==(0:Int)))))))],mkH [(104,.var [.p (pi y4.Num),.p (pi y4.Den)])]⟩) ?_
    refine lok_ret ?_
    obtain rfl:=Option.some.inj H0
    try simp only [thenL,blockL]
    exact fin_au _ (.inr rfl) [] (⟨58,mkS [(4,.x (.one (.ptr 104 0))),(5,.x (.one (.p (.val (.bool (y5==(0:Int)))))))],mkH [(104,.var [.p (pi y4.Num),.p (pi y4.Den)])]⟩) rfl rfl imp_au
theorem ok_ref01_Mul (a:api_Ratio) (b:api_Ratio) (r_:api_Ratio × Int) (H0:ref01_Mul a b=some r_):CallOK Tryz.prog 96 [.agg [.p (pi a.Num),.p (pi a.Den)],.agg [.p (pi b.Num),.p (pi b.Den)]] [] [.agg [.p (pi r_.1.Num),.p (pi r_.1.Den)],.one (.p (pi r_.2))] []:=by
  refine callOK (n:=39) (rs:=[.cell 4 26,.tmp 5]) (nb:=0) (V:=[]) Tryz.func96 rfl (by kernel_rfl) rfl rfl rfl rfl (Nat.le_of_ble_eq_true rfl) (by decide) ?_
  unfold ref01_Mul at H0
  refine lok_rt E0 (⟨39,mkS [(2,.x (.one (.ptr 102 0))),(3,.x (.one (.ptr 103 0))),(4,.x (.one (.ptr 104 0)))],mkH [(102,.var [.p (pi a.Num),.p (pi a.Den)]),(103,.var [.p (pi b.Num),.p (pi b.Den)]),(104,.var [.p (pi (0:Int)),.p (pi (0:Int))])]⟩) ?_
  refine lok_seq ?_
  replace H0:=bind_some H0
  obtain ⟨y,h_0,H0⟩:=H0
  replace H0:=req_some H0
  obtain ⟨q_9,H0⟩:=H0
  refine lok_rt (Env.of E0 [⟨some 7,60,[.agg [.p (pi a.Num),.p (pi a.Den)]],[],[.one (.p (.val (.bool y)))],[],True,fun _ => ok_ref01_Valid a y h_0,[]⟩,
      ⟨some 11,60,[.agg [.p (pi b.Num),.p (pi b.Den)]],[],[.one (.p (.val (.bool ((ref01_Valid b).getD default))))],[],(ref01_Valid b).isSome=true,fun h => ok_ref01_Valid b _ (isSome_get h),[]⟩]) (⟨39,mkS [(2,.x (.one (.ptr 102 0))),(3,.x (.one (.ptr 103 0))),(4,.x (.one (.ptr 104 0))),(13,.x (.one (.p (.val (.bool ((!y)||(!((ref01_Valid b).getD default))))))))],mkH [(102,.var [.p (pi a.Num),.p (pi a.Den)]),(103,.var [.p (pi b.Num),.p (pi b.Den)]),(104,.var [.p (pi (0:Int)),.p (pi (0:Int))])]⟩) ?_
  refine lok_c ((!y)||(!((ref01_Valid b).getD default))) ?_ ?_
  · intro b_8
    replace H0:=cpos H0 b_8
    refine lok_rt E0 (⟨39,mkS [(4,.x (.one (.ptr 104 0))),(5,.x (.one (.p (pi (1:Int)))))],mkH [(104,.var [.p (pi (0:Int)),.p (pi (0:Int))])]⟩) ?_
    refine lok_ret ?_
    obtain rfl:=Option.some.inj H0
    try simp only [thenL,blockL]
    exact fin_au _ (.inr rfl) [] (⟨39,mkS [(4,.x (.one (.ptr 104 0))),(5,.x (.one (.p (pi (1:Int)))))],mkH [(104,.var [.p (pi (0:Int)),.p (pi (0:Int))])]⟩) rfl rfl imp_au
  · intro b_8
    replace H0:=cneg H0 b_8
    refine lok_skip ?_
    try simp only [thenL,blockL,↓reduceIte,reduceCtorEq]
    replace H0:=bind_some H0
    obtain ⟨y1,h_1,H0⟩:=H0
    replace H0:=bind_some H0
    obtain ⟨y2,h_2,H0⟩:=H0
    replace H0:=bind_some H0
    obtain ⟨y3,h_3,H0⟩:=H0
    replace H0:=bind_some H0
    obtain ⟨y4,h_4,H0⟩:=H0
    replace H0:=bind_some H0
    obtain ⟨y5,h_5,H0⟩:=H0
    replace H0:=bind_some H0
    obtain ⟨y6,h_6,H0⟩:=H0
    replace H0:=bind_some H0
    obtain ⟨⟨y7,y8⟩,h_7,H0⟩:=H0
    try dsimp only at H0
    refine lok_dt (Env.of E0 [⟨some 24,52,[.one (.p (pi a.Num))],[],[.one (.p (.val (.int .u64 y1)))],[],True,fun _ => ok_ref01_Size a.Num y1 h_1,[]⟩,
      ⟨some 27,52,[.one (.p (pi b.Num))],[],[.one (.p (.val (.int .u64 y2)))],[],True,fun _ => ok_ref01_Size b.Num y2 h_2,[]⟩,
      ⟨some 28,79,[.one (.p (.val (.int .u64 y1))),.one (.p (.val (.int .u64 y2)))],[],[.agg [.p (.val (.int .u64 y3.Hi)),.p (.val (.int .u64 y3.Lo))]],[],True,fun _ => ok_ref01_Product y1 y2 y3 h_3,[]⟩,
      ⟨some 31,52,[.one (.p (pi a.Den))],[],[.one (.p (.val (.int .u64 y4)))],[],True,fun _ => ok_ref01_Size a.Den y4 h_4,[]⟩,
      ⟨some 34,52,[.one (.p (pi b.Den))],[],[.one (.p (.val (.int .u64 y5)))],[],True,fun _ => ok_ref01_Size b.Den y5 h_5,[]⟩,
      ⟨some 35,79,[.one (.p (.val (.int .u64 y4))),.one (.p (.val (.int .u64 y5)))],[],[.agg [.p (.val (.int .u64 y6.Hi)),.p (.val (.int .u64 y6.Lo))]],[],True,fun _ => ok_ref01_Product y4 y5 y6 h_6,[]⟩,
      ⟨some 36,51,[.one (.p (.val (.bool (!((decide (a.Num<(0:Int)))==(decide (b.Num<(0:Int)))))))),.agg [.p (.val (.int .u64 y3.Hi)),.p (.val (.int .u64 y3.Lo))],.agg [.p (.val (.int .u64 y6.Hi)),.p (.val (.int .u64 y6.Lo))]],[],[.agg [.p (pi y7.Num),.p (pi y7.Den)],.one (.p (pi y8))],[],True,fun _ => ok_ref01_Reduce (!((decide (a.Num<(0:Int)))==(decide (b.Num<(0:Int))))) y3 y6 (y7,y8) h_7,[]⟩]) 24 (⟨39,mkS [(4,.x (.one (.ptr 104 0))),(5,.x (.one (.p (pi y8))))],mkH [(104,.var [.p (pi y7.Num),.p (pi y7.Den)])]⟩) (by kernel_rfl) (by kernel_rfl) ?_
    refine lok_ret ?_
    obtain rfl:=Option.some.inj H0
    try simp only [thenL,blockL]
    exact fin_au _ (.inr rfl) [] (⟨39,mkS [(4,.x (.one (.ptr 104 0))),(5,.x (.one (.p (pi y8))))],mkH [(104,.var [.p (pi y7.Num),.p (pi y7.Den)])]⟩) rfl rfl imp_au
set_option maxHeartbeats 4000000 in
theorem ok_ref33_value (l:List api_Point) (x:api_Ratio) (r_:api_Ratio × Bool) (H0:ref33_value l x=some r_):CallOK Tryz.prog 74 [.one (.p (.sl 4 (List.map enc_api_Point l))),.agg [.p (pi x.Num),.p (pi x.Den)]] [] [.agg [.p (pi r_.1.Num),.p (pi r_.1.Den)],.one (.p (.val (.bool r_.2)))] []:=by
  refine callOK (n:=77) (rs:=[.cell 4 26,.tmp 5]) (nb:=0) (V:=[]) Tryz.func74 rfl (by kernel_rfl) rfl rfl rfl rfl (Nat.le_of_ble_eq_true rfl) (by decide) ?_
  unfold ref33_value at H0
  refine lok_rt E0 (⟨77,mkS [(0,.x (.one (.p (.sl 4 (List.map enc_api_Point l))))),(3,.x (.one (.ptr 103 0))),(4,.x (.one (.ptr 104 0)))],mkH [(103,.var [.p (pi x.Num),.p (pi x.Den)]),(104,.var [.p (pi (0:Int)),.p (pi (0:Int))])]⟩) ?_
  refine lok_rt E0 (⟨77,mkS [(0,.x (.one (.p (.sl 4 (List.map enc_api_Point l))))),(3,.x (.one (.ptr 103 0))),(4,.x (.one (.ptr 104 0))),(6,.x (.one (.p (pi (0:Int)))))],mkH [(103,.var [.p (pi x.Num),.p (pi x.Den)]),(104,.var [.p (pi (0:Int)),.p (pi (0:Int))])]⟩) ?_
  refine lok_join (fun x_:Int => ref33_value_j1 l x x_=some r_) (fun x_ => ⟨77,mkS [(0,.x (.one (.p (.sl 4 (List.map enc_api_Point l))))),(3,.x (.one (.ptr 103 0))),(4,.x (.one (.ptr 104 0))),(6,.x (.one (.p (pi x_))))],mkH [(103,.var [.p (pi x.Num),.p (pi x.Den)]),(104,.var [.p (pi (0:Int)),.p (pi (0:Int))])]⟩) ?hyref33_value_j1 ?hxref33_value_j1
  case hyref33_value_j1 =>
    rintro i H0
    try dsimp only at H0 ⊢
    unfold ref33_value_j1 at H0
    replace H0:=bind_some H0
    obtain ⟨⟨y,y1⟩,h_0,H0⟩:=H0
    try dsimp only at H0
    refine lok_rt (Env.of E0 [⟨some 35,94,[.one (.p (.sl 4 (List.map enc_api_Point l))),.one (.p (pi i))],[],[.agg [.p (pi y.Num),.p (pi y.Den)],.one (.p (.val (.bool y1)))],[],True,fun _ => ok_ref33_slope l i (y,y1) h_0,[]⟩]) (⟨77,mkS [(0,.x (.one (.p (.sl 4 (List.map enc_api_Point l))))),(3,.x (.one (.ptr 103 0))),(4,.x (.one (.ptr 104 0))),(6,.x (.one (.p (pi i)))),(7,.x (.one (.ptr 107 0))),(8,.x (.one (.p (.val (.bool y1)))))],mkH [(103,.var [.p (pi x.Num),.p (pi x.Den)]),(104,.var [.p (pi (0:Int)),.p (pi (0:Int))]),(107,.var [.p (pi y.Num),.p (pi y.Den)])]⟩) ?_
    replace H0:=req_some H0
    obtain ⟨q_7,H0⟩:=H0
    replace H0:=bind_some H0
    obtain ⟨⟨y2,y3⟩,h_1,H0⟩:=H0
    try dsimp only at H0
    refine lok_et (Env.of E0 [⟨some 45,95,[.agg [.p (pi x.Num),.p (pi x.Den)],.agg [.p (pi (((ix l i).X).Num)),.p (pi (((ix l i).X).Den))]],[],[.agg [.p (pi y2.Num),.p (pi y2.Den)],.one (.p (pi y3))],[],True,fun _ => ok_ref01_Sub x ((ix l i).X) (y2,y3) h_1,[]⟩]) 77 [⟨[(3,.x (.one (.ptr 103 0)))],[(103,some (.var [.p (pi x.Num),.p (pi x.Den)]))],[(39,.x (.agg [.p (pi x.Num),.p (pi x.Den)]))],[],none⟩,
      ⟨[(0,.x (.one (.p (.sl 4 (List.map enc_api_Point l)))))],[],[(40,.x (.one (.p (.sl 4 (List.map enc_api_Point l)))))],[],none⟩,
      ⟨[(6,.x (.one (.p (pi i))))],[],[(41,.x (.one (.p (pi i))))],[],none⟩,
      ⟨[(40,.x (.one (.p (.sl 4 (List.map enc_api_Point l))))),(41,.x (.one (.p (pi i))))],[],[(42,.x (.one (.ep [pi (((ix l i).X).Num),pi (((ix l i).X).Den),pi (((ix l i).Y).Num),pi (((ix l i).Y).Den)])))],[],none⟩,
      ⟨[(42,.x (.one (.ep [pi (((ix l i).X).Num),pi (((ix l i).X).Den),pi (((ix l i).Y).Num),pi (((ix l i).Y).Den)])))],[],[(43,.x (.one (.ep [pi (((ix l i).X).Num),pi (((ix l i).X).Den),pi (((ix l i).Y).Num),pi (((ix l i).Y).Den)])))],[],none⟩,
      ⟨[(43,.x (.one (.ep [pi (((ix l i).X).Num),pi (((ix l i).X).Den),pi (((ix l i).Y).Num),pi (((ix l i).Y).Den)])))],[],[(44,.x (.agg [.p (pi (((ix l i).X).Num)),.p (pi (((ix l i).X).Den))]))],[],none⟩,
      ⟨[(39,.x (.agg [.p (pi x.Num),.p (pi x.Den)])),(44,.x (.agg [.p (pi (((ix l i).X).Num)),.p (pi (((ix l i).X).Den))]))],[],[(45,.tup [.agg [.p (pi y2.Num),.p (pi y2.Den)],.one (.p (pi y3))])],[],none⟩,
      ⟨[(45,.tup [.agg [.p (pi y2.Num),.p (pi y2.Den)],.one (.p (pi y3))])],[],[(38,.tup [.agg [.p (pi y2.Num),.p (pi y2.Den)],.one (.p (pi y3))])],[],none⟩,
      ⟨[(38,.tup [.agg [.p (pi y2.Num),.p (pi y2.Den)],.one (.p (pi y3))])],[],[(46,.x (.agg [.p (pi y2.Num),.p (pi y2.Den)]))],[],none⟩,
      ⟨[(38,.tup [.agg [.p (pi y2.Num),.p (pi y2.Den)],.one (.p (pi y3))])],[],[(47,.x (.one (.p (pi y3))))],[],none⟩,
      ⟨[],[(109,none)],[(9,.x (.one (.ptr 109 0)))],[(109,some (.var [.p (pi (0:Int)),.p (pi (0:Int))]))],some 109⟩,
      ⟨[(9,.x (.one (.ptr 109 0))),(46,.x (.agg [.p (pi y2.Num),.p (pi y2.Den)]))],[(109,some (.var [.p (pi (0:Int)),.p (pi (0:Int))]))],[],[(109,some (.var [.p (pi y2.Num),.p (pi y2.Den)]))],none⟩] (⟨77,mkS [(0,.x (.one (.p (.sl 4 (List.map enc_api_Point l))))),(4,.x (.one (.ptr 104 0))),(6,.x (.one (.p (pi i)))),(7,.x (.one (.ptr 107 0))),(8,.x (.one (.p (.val (.bool y1))))),(9,.x (.one (.ptr 109 0))),(10,.x (.one (.p (pi y3))))],mkH [(104,.var [.p (pi (0:Int)),.p (pi (0:Int))]),(107,.var [.p (pi y.Num),.p (pi y.Den)]),(109,.var [.p (pi y2.Num),.p (pi y2.Den)])]⟩) (by kernel_rfl) (by kernel_rfl) (by kernel_rfl) rfl rfl rfl ?_
    refine lok_seq ?_
    refine lok_rt E0 (⟨77,mkS [(0,.x (.one (.p (.sl 4 (List.map enc_api_Point l))))),(4,.x (.one (.ptr 104 0))),(6,.x (.one (.p (pi i)))),(7,.x (.one (.ptr 107 0))),(9,.x (.one (.ptr 109 0))),(53,.x (.one (.p (.val (.bool ((!y1)||(y3 != (0:Int))))))))],mkH [(104,.var [.p (pi (0:Int)),.p (pi (0:Int))]),(107,.var [.p (pi y.Num),.p (pi y.Den)]),(109,.var [.p (pi y2.Num),.p (pi y2.Den)])]⟩) ?_
    refine lok_c ((!y1)||(y3 != (0:Int))) ?_ ?_
    · intro b_6
      replace H0:=cpos H0 b_6
      refine lok_rt E0 (⟨77,mkS [(4,.x (.one (.ptr 104 0))),(5,.x (.one (.p (.val (.bool false)))))],mkH [(104,.var [.p (pi (0:Int)),.p (pi (0:Int))])]⟩) ?_
      refine lok_ret ?_
      obtain rfl:=Option.some.inj H0
      try simp only [thenL,blockL]
      exact fin_au _ (.inr rfl) [] (⟨77,mkS [(4,.x (.one (.ptr 104 0))),(5,.x (.one (.p (.val (.bool false)))))],mkH [(104,.var [.p (pi (0:Int)),.p (pi (0:Int))])]⟩) rfl rfl imp_au
    · intro b_6
      replace H0:=cneg H0 b_6
      refine lok_skip ?_
      try simp only [thenL,blockL,↓reduceIte,reduceCtorEq]
      replace H0:=bind_some H0
      obtain ⟨⟨y4,y5⟩,h_2,H0⟩:=H0
      try dsimp only at H0
      refine lok_rt (Env.of E0 [⟨some 58,96,[.agg [.p (pi y2.Num),.p (pi y2.Den)],.agg [.p (pi y.Num),.p (pi y.Den)]],[],[.agg [.p (pi y4.Num),.p (pi y4.Den)],.one (.p (pi y5))],[],True,fun _ => ok_ref01_Mul y2 y (y4,y5) h_2,[]⟩]) (⟨77,mkS [(0,.x (.one (.p (.sl 4 (List.map enc_api_Point l))))),(4,.x (.one (.ptr 104 0))),(6,.x (.one (.p (pi i)))),(11,.x (.one (.ptr 111 0))),(12,.x (.one (.p (pi y5))))],mkH [(104,.var [.p (pi (0:Int)),.p (pi (0:Int))]),(111,.var [.p (pi y4.Num),.p (pi y4.Den)])]⟩) ?_
      refine lok_seq ?_
      refine lok_rt E0 (⟨77,mkS [(0,.x (.one (.p (.sl 4 (List.map enc_api_Point l))))),(4,.x (.one (.ptr 104 0))),(6,.x (.one (.p (pi i)))),(11,.x (.one (.ptr 111 0))),(62,.x (.one (.p (.val (.bool (y5 != (0:Int)))))))],mkH [(104,.var [.p (pi (0:Int)),.p (pi (0:Int))]),(111,.var [.p (pi y4.Num),.p (pi y4.Den)])]⟩) ?_
      refine lok_c (y5 != (0:Int)) ?_ ?_
      · intro b_5
        replace H0:=cpos H0 b_5
        refine lok_rt E0 (⟨77,mkS [(4,.x (.one (.ptr 104 0))),(5,.x (.one (.p (.val (.bool false)))))],mkH [(104,.var [.p (pi (0:Int)),.p (pi (0:Int))])]⟩) ?_
        refine lok_ret ?_
        obtain rfl:=Option.some.inj H0
        try simp only [thenL,blockL]
        exact fin_au _ (.inr rfl) [] (⟨77,mkS [(4,.x (.one (.ptr 104 0))),(5,.x (.one (.p (.val (.bool false)))))],mkH [(104,.var [.p (pi (0:Int)),.p (pi (0:Int))])]⟩) rfl rfl imp_au
      · intro b_5
        replace H0:=cneg H0 b_5
        refine lok_skip ?_
        try simp only [thenL,blockL,↓reduceIte,reduceCtorEq]
        replace H0:=req_some H0
        obtain ⟨q_4,H0⟩:=H0
        replace H0:=bind_some H0
        obtain ⟨⟨y6,y7⟩,h_3,H0⟩:=H0
        try dsimp only at H0
        refine lok_et (Env.of E0 [⟨some 71,97,[.agg [.p (pi (((ix l i).Y).Num)),.p (pi (((ix l i).Y).Den))],.agg [.p (pi y4.Num),.p (pi y4.Den)]],[],[.agg [.p (pi y6.Num),.p (pi y6.Den)],.one (.p (pi y7))],[],True,fun _ => ok_ref01_Add ((ix l i).Y) y4 (y6,y7) h_3,[]⟩]) 77 [⟨[(0,.x (.one (.p (.sl 4 (List.map enc_api_Point l)))))],[],[(65,.x (.one (.p (.sl 4 (List.map enc_api_Point l)))))],[],none⟩,
      ⟨[(6,.x (.one (.p (pi i))))],[],[(66,.x (.one (.p (pi i))))],[],none⟩,
      ⟨[(65,.x (.one (.p (.sl 4 (List.map enc_api_Point l))))),(66,.x (.one (.p (pi i))))],[],[(67,.x (.one (.ep [pi (((ix l i).X).Num),pi (((ix l i).X).Den),pi (((ix l i).Y).Num),pi (((ix l i).Y).Den)])))],[],none⟩,
      ⟨[(67,.x (.one (.ep [pi (((ix l i).X).Num),pi (((ix l i).X).Den),pi (((ix l i).Y).Num),pi (((ix l i).Y).Den)])))],[],[(68,.x (.one (.ep [pi (((ix l i).Y).Num),pi (((ix l i).Y).Den)])))],[],none⟩,
      ⟨[(68,.x (.one (.ep [pi (((ix l i).Y).Num),pi (((ix l i).Y).Den)])))],[],[(69,.x (.agg [.p (pi (((ix l i).Y).Num)),.p (pi (((ix l i).Y).Den))]))],[],none⟩,
      ⟨[(11,.x (.one (.ptr 111 0)))],[(111,some (.var [.p (pi y4.Num),.p (pi y4.Den)]))],[(70,.x (.agg [.p (pi y4.Num),.p (pi y4.Den)]))],[],none⟩,
      ⟨[(69,.x (.agg [.p (pi (((ix l i).Y).Num)),.p (pi (((ix l i).Y).Den))])),(70,.x (.agg [.p (pi y4.Num),.p (pi y4.Den)]))],[],[(71,.tup [.agg [.p (pi y6.Num),.p (pi y6.Den)],.one (.p (pi y7))])],[],none⟩,
      ⟨[(71,.tup [.agg [.p (pi y6.Num),.p (pi y6.Den)],.one (.p (pi y7))])],[],[(64,.tup [.agg [.p (pi y6.Num),.p (pi y6.Den)],.one (.p (pi y7))])],[],none⟩,
      ⟨[(64,.tup [.agg [.p (pi y6.Num),.p (pi y6.Den)],.one (.p (pi y7))])],[],[(72,.x (.agg [.p (pi y6.Num),.p (pi y6.Den)]))],[],none⟩,
      ⟨[(64,.tup [.agg [.p (pi y6.Num),.p (pi y6.Den)],.one (.p (pi y7))])],[],[(73,.x (.one (.p (pi y7))))],[],none⟩,
      ⟨[],[(113,none)],[(13,.x (.one (.ptr 113 0)))],[(113,some (.var [.p (pi (0:Int)),.p (pi (0:Int))]))],some 113⟩,
      ⟨[(13,.x (.one (.ptr 113 0))),(72,.x (.agg [.p (pi y6.Num),.p (pi y6.Den)]))],[(113,some (.var [.p (pi (0:Int)),.p (pi (0:Int))]))],[],[(113,some (.var [.p (pi y6.Num),.p (pi y6.Den)]))],none⟩] (⟨77,mkS [(4,.x (.one (.ptr 104 0))),(13,.x (.one (.ptr 113 0))),(14,.x (.one (.p (pi y7))))],mkH [(104,.var [.p (pi (0:Int)),.p (pi (0:Int))]),(113,.var [.p (pi y6.Num),.p (pi y6.Den)])]⟩) (by kernel_rfl) (by kernel_rfl) (by kernel_rfl) rfl rfl rfl ?_
        refine lok_rt E0 (⟨77,mkS [(4,.x (.one (.ptr 104 0))),(5,.x (.one (.p (.val (.bool (y7==(0:Int)))))))],mkH [(104,.var [.p (pi y6.Num),.p (pi y6.Den)])]⟩) ?_
        refine lok_ret ?_
        obtain rfl:=Option.some.inj H0
        try simp only [thenL,blockL]
        exact fin_au _ (.inr rfl) [] (⟨77,mkS [(4,.x (.one (.ptr 104 0))),(5,.x (.one (.p (.val (.bool (y7==(0:Int)))))))],mkH [(104,.var [.p (pi y6.Num),.p (pi y6.Den)])]⟩) rfl rfl imp_au
  case hxref33_value_j1 =>
    refine lok_block ?_
    replace H0:=bind_some H0
    obtain ⟨v_8,hv_8,H0⟩:=H0
    refine lok_iter (fun x_ => ⟨77,mkS [(0,.x (.one (.p (.sl 4 (List.map enc_api_Point l))))),(3,.x (.one (.ptr 103 0))),(4,.x (.one (.ptr 104 0))),(6,.x (.one (.p (pi x_))))],mkH [(103,.var [.p (pi x.Num),.p (pi x.Den)]),(104,.var [.p (pi (0:Int)),.p (pi (0:Int))])]⟩) hv_8 imp_au ?_
    · rintro i1 o_1 H1 k_1
      unfold ref33_value_l2 at H1
      try dsimp only at H1 ⊢
      refine lok_seq ?_
      replace H1:=req_some H1
      obtain ⟨⟨q_10,q_11⟩,H1⟩:=H1
      refine lok_dt (Env.of E0 [⟨some 28,46,[.agg [.p (pi (((ix l (IntKind.i64.wrap (i1+(1:Int)))).X).Num)),.p (pi (((ix l (IntKind.i64.wrap (i1+(1:Int)))).X).Den))],.agg [.p (pi x.Num),.p (pi x.Den)]],[],[.one (.p (.val (.bool ((ref01_Less ((ix l (IntKind.i64.wrap (i1+(1:Int)))).X) x).getD default))))],[],(ref01_Less ((ix l (IntKind.i64.wrap (i1+(1:Int)))).X) x).isSome=true,fun h => ok_ref01_Less ((ix l (IntKind.i64.wrap (i1+(1:Int)))).X) x _ (isSome_get h),[]⟩]) 13 (⟨77,mkS [(0,.x (.one (.p (.sl 4 (List.map enc_api_Point l))))),(3,.x (.one (.ptr 103 0))),(4,.x (.one (.ptr 104 0))),(6,.x (.one (.p (pi i1)))),(29,.x (.one (.p (.val (.bool ((decide ((IntKind.i64.wrap (i1+(2:Int)))<(l.length:Int)))&&((ref01_Less ((ix l (IntKind.i64.wrap (i1+(1:Int)))).X) x).getD default)))))))],mkH [(103,.var [.p (pi x.Num),.p (pi x.Den)]),(104,.var [.p (pi (0:Int)),.p (pi (0:Int))])]⟩) (by kernel_rfl) (by kernel_rfl) ?_
      refine lok_c ((decide ((IntKind.i64.wrap (i1+(2:Int)))<(l.length:Int)))&&((ref01_Less ((ix l (IntKind.i64.wrap (i1+(1:Int)))).X) x).getD default)) ?_ ?_
      · intro b_9
        replace H1:=cpos H1 b_9
        refine lok_skip ?_
        try simp only [thenL,blockL,↓reduceIte,reduceCtorEq]
        refine lok_block ?_
        refine lok_rl E0 (⟨77,mkS [(0,.x (.one (.p (.sl 4 (List.map enc_api_Point l))))),(3,.x (.one (.ptr 103 0))),(4,.x (.one (.ptr 104 0))),(6,.x (.one (.p (pi (IntKind.i64.wrap (i1+(1:Int)))))))],mkH [(103,.var [.p (pi x.Num),.p (pi x.Den)]),(104,.var [.p (pi (0:Int)),.p (pi (0:Int))])]⟩) ?_
        try simp only [thenL,blockL,↓reduceIte,reduceCtorEq]
        exact ⟨(IntKind.i64.wrap (i1+(1:Int))),(Option.some.inj H1).symm,imp_au⟩
      · intro b_9
        replace H1:=cneg H1 b_9
        refine lok_exit ?_
        try simp only [thenL,blockL,↓reduceIte,reduceCtorEq]
        have e_1:=k_1 _ (Option.some.inj H1).symm
        subst e_1
        try dsimp only at H0
        try simp only [thenL,blockL,↓reduceIte,reduceCtorEq]
        exact ⟨i1,H0,imp_au⟩
theorem ok_ref33_Eval (c:api_Curve) (x:api_Ratio) (r_:api_Ratio × Int) (H0:ref33_Eval c x=some r_):CallOK Tryz.prog 56 [.agg [.p (.sl 4 (List.map enc_api_Point c.Points))],.agg [.p (pi x.Num),.p (pi x.Den)]] [] [.agg [.p (pi r_.1.Num),.p (pi r_.1.Den)],.one (.p (pi r_.2))] []:=by
  refine callOK (n:=28) (rs:=[.cell 4 26,.tmp 5]) (nb:=0) (V:=[]) Tryz.func56 rfl (by kernel_rfl) rfl rfl rfl rfl (Nat.le_of_ble_eq_true rfl) (by decide) ?_
  unfold ref33_Eval at H0
  refine lok_rt E0 (⟨28,mkS [(2,.x (.one (.ptr 102 0))),(3,.x (.one (.ptr 103 0))),(4,.x (.one (.ptr 104 0)))],mkH [(102,.var [.p (.sl 4 (List.map enc_api_Point c.Points))]),(103,.var [.p (pi x.Num),.p (pi x.Den)]),(104,.var [.p (pi (0:Int)),.p (pi (0:Int))])]⟩) ?_
  refine lok_seq ?_
  replace H0:=bind_some H0
  obtain ⟨y,h_0,H0⟩:=H0
  replace H0:=req_some H0
  obtain ⟨q_4,H0⟩:=H0
  refine lok_rt (Env.of E0 [⟨some 9,73,[.agg [.p (.sl 4 (List.map enc_api_Point c.Points))]],[],[.one (.p (.val (.bool y)))],[],True,fun _ => ok_ref33_Valid c y h_0,[]⟩,
      ⟨some 13,60,[.agg [.p (pi x.Num),.p (pi x.Den)]],[],[.one (.p (.val (.bool ((ref01_Valid x).getD default))))],[],(ref01_Valid x).isSome=true,fun h => ok_ref01_Valid x _ (isSome_get h),[]⟩]) (⟨28,mkS [(2,.x (.one (.ptr 102 0))),(3,.x (.one (.ptr 103 0))),(4,.x (.one (.ptr 104 0))),(15,.x (.one (.p (.val (.bool ((!y)||(!((ref01_Valid x).getD default))))))))],mkH [(102,.var [.p (.sl 4 (List.map enc_api_Point c.Points))]),(103,.var [.p (pi x.Num),.p (pi x.Den)]),(104,.var [.p (pi (0:Int)),.p (pi (0:Int))])]⟩) ?_
  refine lok_c ((!y)||(!((ref01_Valid x).getD default))) ?_ ?_
  · intro b_3
    replace H0:=cpos H0 b_3
    refine lok_rt E0 (⟨28,mkS [(4,.x (.one (.ptr 104 0))),(5,.x (.one (.p (pi (1:Int)))))],mkH [(104,.var [.p (pi (0:Int)),.p (pi (0:Int))])]⟩) ?_
    refine lok_ret ?_
    obtain rfl:=Option.some.inj H0
    try simp only [thenL,blockL]
    exact fin_au _ (.inr rfl) [] (⟨28,mkS [(4,.x (.one (.ptr 104 0))),(5,.x (.one (.p (pi (1:Int)))))],mkH [(104,.var [.p (pi (0:Int)),.p (pi (0:Int))])]⟩) rfl rfl imp_au
  · intro b_3
    replace H0:=cneg H0 b_3
    refine lok_skip ?_
    try simp only [thenL,blockL,↓reduceIte,reduceCtorEq]
    replace H0:=bind_some H0
    obtain ⟨⟨y1,y2⟩,h_1,H0⟩:=H0
    try dsimp only at H0
    refine lok_rt (Env.of E0 [⟨some 21,74,[.one (.p (.sl 4 (List.map enc_api_Point c.Points))),.agg [.p (pi x.Num),.p (pi x.Den)]],[],[.agg [.p (pi y1.Num),.p (pi y1.Den)],.one (.p (.val (.bool y2)))],[],True,fun _ => ok_ref33_value c.Points x (y1,y2) h_1,[]⟩]) (⟨28,mkS [(4,.x (.one (.ptr 104 0))),(6,.x (.one (.ptr 106 0))),(7,.x (.one (.p (.val (.bool y2)))))],mkH [(104,.var [.p (pi (0:Int)),.p (pi (0:Int))]),(106,.var [.p (pi y1.Num),.p (pi y1.Den)])]⟩) ?_
    refine lok_seq ?_
    refine lok_rt E0 (⟨28,mkS [(4,.x (.one (.ptr 104 0))),(6,.x (.one (.ptr 106 0))),(25,.x (.one (.p (.val (.bool (!y2))))))],mkH [(104,.var [.p (pi (0:Int)),.p (pi (0:Int))]),(106,.var [.p (pi y1.Num),.p (pi y1.Den)])]⟩) ?_
    refine lok_c (!y2) ?_ ?_
    · intro b_2
      replace H0:=cpos H0 b_2
      refine lok_rt E0 (⟨28,mkS [(4,.x (.one (.ptr 104 0))),(5,.x (.one (.p (pi (6:Int)))))],mkH [(104,.var [.p (pi (0:Int)),.p (pi (0:Int))])]⟩) ?_
      refine lok_ret ?_
      obtain rfl:=Option.some.inj H0
      try simp only [thenL,blockL]
      exact fin_au _ (.inr rfl) [] (⟨28,mkS [(4,.x (.one (.ptr 104 0))),(5,.x (.one (.p (pi (6:Int)))))],mkH [(104,.var [.p (pi (0:Int)),.p (pi (0:Int))])]⟩) rfl rfl imp_au
    · intro b_2
      replace H0:=cneg H0 b_2
      refine lok_skip ?_
      try simp only [thenL,blockL,↓reduceIte,reduceCtorEq]
      refine lok_rt E0 (⟨28,mkS [(4,.x (.one (.ptr 104 0))),(5,.x (.one (.p (pi (0:Int)))))],mkH [(104,.var [.p (pi y1.Num),.p (pi y1.Den)])]⟩) ?_
      refine lok_ret ?_
      obtain rfl:=Option.some.inj H0
      try simp only [thenL,blockL]
      exact fin_au _ (.inr rfl) [] (⟨28,mkS [(4,.x (.one (.ptr 104 0))),(5,.x (.one (.p (pi (0:Int)))))],mkH [(104,.var [.p (pi y1.Num),.p (pi y1.Den)])]⟩) rfl rfl imp_au
theorem ok_ref01_floor (n:Int) (d:Int) (r_:Int) (H0:ref01_floor n d=some r_):CallOK Tryz.prog 75 [.one (.p (pi n)),.one (.p (pi d))] [] [.one (.p (pi r_))] []:=by
  refine callOK (n:=16) (rs:=[.tmp 4]) (nb:=0) (V:=[]) Tryz.func75 rfl (by kernel_rfl) rfl rfl rfl rfl (Nat.le_of_ble_eq_true rfl) (by decide) ?_
  unfold ref01_floor at H0
  refine lok_rt E0 (⟨16,mkS [(0,.x (.one (.p (pi n)))),(1,.x (.one (.p (pi d))))],mkH []⟩) ?_
  replace H0:=req_some H0
  obtain ⟨q_2,H0⟩:=H0
  refine lok_rt E0 (⟨16,mkS [(0,.x (.one (.p (pi n)))),(1,.x (.one (.p (pi d)))),(5,.x (.one (.p (pi (IntKind.i64.wrap (Int.tdiv n d))))))],mkH []⟩) ?_
  refine lok_join (fun x_:Int => ref01_floor_j1 x_=some r_) (fun x_ => ⟨16,mkS [(5,.x (.one (.p (pi x_))))],mkH []⟩) ?hyref01_floor_j1 ?hxref01_floor_j1
  case hyref01_floor_j1 =>
    rintro q H0
    try dsimp only at H0 ⊢
    unfold ref01_floor_j1 at H0
    refine lok_rt E0 (⟨16,mkS [(4,.x (.one (.p (pi q))))],mkH []⟩) ?_
    refine lok_ret ?_
    obtain rfl:=Option.some.inj H0
    try simp only [thenL,blockL]
    exact fin_au _ (.inr rfl) [] (⟨16,mkS [(4,.x (.one (.p (pi q))))],mkH []⟩) rfl rfl imp_au
  case hxref01_floor_j1 =>
    replace H0:=req_some H0
    obtain ⟨q_1,H0⟩:=H0
    refine lok_rt E0 (⟨16,mkS [(5,.x (.one (.p (pi (IntKind.i64.wrap (Int.tdiv n d)))))),(12,.x (.one (.p (.val (.bool (decide ((Int.tmod n d)<(0:Int))))))))],mkH []⟩) ?_
    refine lok_c (decide ((Int.tmod n d)<(0:Int))) ?_ ?_
    · intro b_0
      replace H0:=cpos H0 b_0
      refine lok_rl E0 (⟨16,mkS [(5,.x (.one (.p (pi (IntKind.i64.wrap ((IntKind.i64.wrap (Int.tdiv n d))-(1:Int)))))))],mkH []⟩) ?_
      try simp only [thenL,blockL,↓reduceIte,reduceCtorEq]
      exact ⟨(IntKind.i64.wrap ((IntKind.i64.wrap (Int.tdiv n d))-(1:Int))),H0,imp_au⟩
    · intro b_0
      replace H0:=cneg H0 b_0
      refine lok_skip ?_
      try simp only [thenL,blockL,↓reduceIte,reduceCtorEq]
      exact ⟨(IntKind.i64.wrap (Int.tdiv n d)),H0,imp_au⟩
theorem ok_ref01_Round (a:api_Ratio) (r_:Int) (H0:ref01_Round a=some r_):CallOK Tryz.prog 57 [.agg [.p (pi a.Num),.p (pi a.Den)]] [] [.one (.p (pi r_))] []:=by
  refine callOK (n:=16) (rs:=[.tmp 2]) (nb:=0) (V:=[]) Tryz.func57 rfl (by kernel_rfl) rfl rfl rfl rfl (Nat.le_of_ble_eq_true rfl) (by decide) ?_
  unfold ref01_Round at H0
  refine lok_rt E0 (⟨16,mkS [(1,.x (.one (.ptr 101 0)))],mkH [(101,.var [.p (pi a.Num),.p (pi a.Den)])]⟩) ?_
  refine lok_seq ?_
  replace H0:=bind_some H0
  obtain ⟨y,h_0,H0⟩:=H0
  refine lok_rt (Env.of E0 [⟨some 4,60,[.agg [.p (pi a.Num),.p (pi a.Den)]],[],[.one (.p (.val (.bool y)))],[],True,fun _ => ok_ref01_Valid a y h_0,[]⟩]) (⟨16,mkS [(1,.x (.one (.ptr 101 0))),(5,.x (.one (.p (.val (.bool (!y))))))],mkH [(101,.var [.p (pi a.Num),.p (pi a.Den)])]⟩) ?_
  refine lok_c (!y) ?_ ?_
  · intro b_2
    replace H0:=cpos H0 b_2
    refine lok_rt E0 (⟨16,mkS [(2,.x (.one (.p (pi (0:Int)))))],mkH []⟩) ?_
    refine lok_ret ?_
    obtain rfl:=Option.some.inj H0
    try simp only [thenL,blockL]
    exact fin_au _ (.inr rfl) [] (⟨16,mkS [(2,.x (.one (.p (pi (0:Int)))))],mkH []⟩) rfl rfl imp_au
  · intro b_2
    replace H0:=cneg H0 b_2
    refine lok_skip ?_
    try simp only [thenL,blockL,↓reduceIte,reduceCtorEq]
    replace H0:=bind_some H0
    obtain ⟨y1,h_1,H0⟩:=H0
    refine lok_rt (Env.of E0 [⟨some 15,75,[.one (.p (pi (IntKind.i64.wrap ((IntKind.i64.wrap ((2:Int)*a.Num))+a.Den)))),.one (.p (pi (IntKind.i64.wrap ((2:Int)*a.Den))))],[],[.one (.p (pi y1))],[],True,fun _ => ok_ref01_floor (IntKind.i64.wrap ((IntKind.i64.wrap ((2:Int)*a.Num))+a.Den)) (IntKind.i64.wrap ((2:Int)*a.Den)) y1 h_1,[]⟩]) (⟨16,mkS [(2,.x (.one (.p (pi y1))))],mkH []⟩) ?_
    refine lok_ret ?_
    obtain rfl:=Option.some.inj H0
    try simp only [thenL,blockL]
    exact fin_au _ (.inr rfl) [] (⟨16,mkS [(2,.x (.one (.p (pi y1))))],mkH []⟩) rfl rfl imp_au
theorem ok_ref33_Convert (c:api_Curve) (mark:Int) (most:Int) (r_:Int × Int) (H0:ref33_Convert c mark most=some r_):CallOK Tryz.prog 41 [.agg [.p (.sl 4 (List.map enc_api_Point c.Points))],.one (.p (pi mark)),.one (.p (pi most))] [] [.one (.p (pi r_.1)),.one (.p (pi r_.2))] []:=by
  refine callOK (n:=39) (rs:=[.tmp 6,.tmp 7]) (nb:=0) (V:=[]) Tryz.func41 rfl (by kernel_rfl) rfl rfl rfl rfl (Nat.le_of_ble_eq_true rfl) (by decide) ?_
  unfold ref33_Convert at H0
  refine lok_rt E0 (⟨39,mkS [(1,.x (.one (.p (pi mark)))),(2,.x (.one (.p (pi most)))),(3,.x (.one (.ptr 103 0)))],mkH [(103,.var [.p (.sl 4 (List.map enc_api_Point c.Points))])]⟩) ?_
  refine lok_seq ?_
  refine lok_rt E0 (⟨39,mkS [(1,.x (.one (.p (pi mark)))),(2,.x (.one (.p (pi most)))),(3,.x (.one (.ptr 103 0))),(23,.x (.one (.p (.val (.bool ((((decide (mark<(0:Int)))||(decide ((200:Int)<mark)))||(decide (most<(0:Int))))||(decide ((200:Int)<most))))))))],mkH [(103,.var [.p (.sl 4 (List.map enc_api_Point c.Points))])]⟩) ?_
  refine lok_c ((((decide (mark<(0:Int)))||(decide ((200:Int)<mark)))||(decide (most<(0:Int))))||(decide ((200:Int)<most))) ?_ ?_
  · intro b_3
    replace H0:=cpos H0 b_3
    refine lok_rt E0 (⟨39,mkS [(6,.x (.one (.p (pi (0:Int))))),(7,.x (.one (.p (pi (2:Int)))))],mkH []⟩) ?_
    refine lok_ret ?_
    obtain rfl:=Option.some.inj H0
    try simp only [thenL,blockL]
    exact fin_au _ (.inr rfl) [] (⟨39,mkS [(6,.x (.one (.p (pi (0:Int))))),(7,.x (.one (.p (pi (2:Int)))))],mkH []⟩) rfl rfl imp_au
  · intro b_3
    replace H0:=cneg H0 b_3
    refine lok_skip ?_
    try simp only [thenL,blockL,↓reduceIte,reduceCtorEq]
    replace H0:=bind_some H0
    obtain ⟨⟨y,y1⟩,h_0,H0⟩:=H0
    try dsimp only at H0
    refine lok_rt (Env.of E0 [⟨some 28,56,[.agg [.p (.sl 4 (List.map enc_api_Point c.Points))],.agg [.p (pi mark),.p (pi (1:Int))]],[],[.agg [.p (pi y.Num),.p (pi y.Den)],.one (.p (pi y1))],[],True,fun _ => ok_ref33_Eval c (api_Ratio.mk mark (1:Int)) (y,y1) h_0,[]⟩]) (⟨39,mkS [(2,.x (.one (.p (pi most)))),(8,.x (.one (.ptr 108 0))),(9,.x (.one (.p (pi y1))))],mkH [(108,.var [.p (pi y.Num),.p (pi y.Den)])]⟩) ?_
    refine lok_seq ?_
    refine lok_rt E0 (⟨39,mkS [(2,.x (.one (.p (pi most)))),(8,.x (.one (.ptr 108 0))),(9,.x (.one (.p (pi y1)))),(32,.x (.one (.p (.val (.bool (y1 != (0:Int)))))))],mkH [(108,.var [.p (pi y.Num),.p (pi y.Den)])]⟩) ?_
    refine lok_c (y1 != (0:Int)) ?_ ?_
    · intro b_2
      replace H0:=cpos H0 b_2
      refine lok_rt E0 (⟨39,mkS [(6,.x (.one (.p (pi (0:Int))))),(7,.x (.one (.p (pi y1))))],mkH []⟩) ?_
      refine lok_ret ?_
      obtain rfl:=Option.some.inj H0
      try simp only [thenL,blockL]
      exact fin_au _ (.inr rfl) [] (⟨39,mkS [(6,.x (.one (.p (pi (0:Int))))),(7,.x (.one (.p (pi y1))))],mkH []⟩) rfl rfl imp_au
    · intro b_2
      replace H0:=cneg H0 b_2
      refine lok_skip ?_
      try simp only [thenL,blockL,↓reduceIte,reduceCtorEq]
      replace H0:=bind_some H0
      obtain ⟨y2,h_1,H0⟩:=H0
      refine lok_rt (Env.of E0 [⟨some 36,57,[.agg [.p (pi y.Num),.p (pi y.Den)]],[],[.one (.p (pi y2))],[],True,fun _ => ok_ref01_Round y y2 h_1,[]⟩]) (⟨39,mkS [(6,.x (.one (.p (pi (imax (0:Int) (imin most y2)))))),(7,.x (.one (.p (pi (0:Int)))))],mkH []⟩) ?_
      refine lok_ret ?_
      obtain rfl:=Option.some.inj H0
      try simp only [thenL,blockL]
      exact fin_au _ (.inr rfl) [] (⟨39,mkS [(6,.x (.one (.p (pi (imax (0:Int) (imin most y2)))))),(7,.x (.one (.p (pi (0:Int)))))],mkH []⟩) rfl rfl imp_au
set_option maxHeartbeats 4000000 in
theorem ok_ref35_Transfer (b:List Int) (c:api_Curve) (most:Int) (r_:(List Int) × Int) (H0:ref35_Transfer b c most=some r_):CallOK Tryz.prog 21 [.one (.p (.sl 1 (List.map encI b))),.agg [.p (.sl 4 (List.map enc_api_Point c.Points))],.one (.p (pi most))] [] [.one (.p (.sl 1 (List.map encI r_.1))),.one (.p (pi r_.2))] []:=by
  refine callOK (n:=72) (rs:=[.tmp 6,.tmp 7]) (nb:=0) (V:=[]) Tryz.func21 rfl (by kernel_rfl) rfl rfl rfl rfl (Nat.le_of_ble_eq_true rfl) (by decide) ?_
  unfold ref35_Transfer at H0
  refine lok_rt E0 (⟨72,mkS [(0,.x (.one (.p (.sl 1 (List.map encI b))))),(2,.x (.one (.p (pi most)))),(4,.x (.one (.ptr 104 0)))],mkH [(104,.var [.p (.sl 4 (List.map enc_api_Point c.Points))])]⟩) ?_
  refine lok_seq ?_
  refine lok_rt E0 (⟨72,mkS [(0,.x (.one (.p (.sl 1 (List.map encI b))))),(2,.x (.one (.p (pi most)))),(4,.x (.one (.ptr 104 0))),(21,.x (.one (.p (.val (.bool ((decide (most<(0:Int)))||(decide ((200:Int)<most))))))))],mkH [(104,.var [.p (.sl 4 (List.map enc_api_Point c.Points))])]⟩) ?_
  refine lok_c ((decide (most<(0:Int)))||(decide ((200:Int)<most))) ?_ ?_
  · intro b_14
    replace H0:=cpos H0 b_14
    refine lok_rt E0 (⟨72,mkS [(6,.x (.one (.vw 106))),(7,.x (.one (.p (pi (2:Int)))))],mkH [(106,.arr 1 (List.map encI ([]:List Int)))]⟩) ?_
    refine lok_ret ?_
    obtain rfl:=Option.some.inj H0
    try simp only [thenL,blockL]
    exact fin_au _ (.inr rfl) [] (⟨72,mkS [(6,.x (.one (.p (.sl 1 (List.map encI ([]:List Int)))))),(7,.x (.one (.p (pi (2:Int)))))],mkH []⟩) rfl rfl (Imp.trans (imp_frz 106 1 (List.map encI ([]:List Int))) imp_au)
  · intro b_14
    replace H0:=cneg H0 b_14
    refine lok_skip ?_
    try simp only [thenL,blockL,↓reduceIte,reduceCtorEq]
    refine lok_seq ?_
    replace H0:=bind_some H0
    obtain ⟨y,h_0,H0⟩:=H0
    refine lok_rt (Env.of E0 [⟨some 23,11,[.one (.p (.sl 1 (List.map encI b))),.one (.p (pi (200:Int)))],[],[.one (.p (pi y))],[],True,fun _ => ok_ref35_Check b (200:Int) y h_0,[]⟩]) (⟨72,mkS [(0,.x (.one (.p (.sl 1 (List.map encI b))))),(2,.x (.one (.p (pi most)))),(4,.x (.one (.ptr 104 0))),(8,.x (.one (.p (pi y))))],mkH [(104,.var [.p (.sl 4 (List.map enc_api_Point c.Points))])]⟩) ?_
    refine lok_rt E0 (⟨72,mkS [(0,.x (.one (.p (.sl 1 (List.map encI b))))),(2,.x (.one (.p (pi most)))),(4,.x (.one (.ptr 104 0))),(8,.x (.one (.p (pi y)))),(25,.x (.one (.p (.val (.bool (y != (0:Int)))))))],mkH [(104,.var [.p (.sl 4 (List.map enc_api_Point c.Points))])]⟩) ?_
    refine lok_c (y != (0:Int)) ?_ ?_
    · intro b_13
      replace H0:=cpos H0 b_13
      refine lok_rt E0 (⟨72,mkS [(6,.x (.one (.vw 106))),(7,.x (.one (.p (pi y))))],mkH [(106,.arr 1 (List.map encI ([]:List Int)))]⟩) ?_
      refine lok_ret ?_
      obtain rfl:=Option.some.inj H0
      try simp only [thenL,blockL]
      exact fin_au _ (.inr rfl) [] (⟨72,mkS [(6,.x (.one (.p (.sl 1 (List.map encI ([]:List Int)))))),(7,.x (.one (.p (pi y))))],mkH []⟩) rfl rfl (Imp.trans (imp_frz 106 1 (List.map encI ([]:List Int))) imp_au)
    · intro b_13
      replace H0:=cneg H0 b_13
      refine lok_skip ?_
      try simp only [thenL,blockL,↓reduceIte,reduceCtorEq]
      refine lok_rt E0 (⟨72,mkS [(0,.x (.one (.p (.sl 1 (List.map encI b))))),(2,.x (.one (.p (pi most)))),(4,.x (.one (.ptr 104 0))),(9,.x (.one (.vw 109)))],mkH [(104,.var [.p (.sl 4 (List.map enc_api_Point c.Points))]),(109,.arr 1 (List.map encI ([]:List Int)))]⟩) ?_
      refine lok_join (fun x_:(List Int) => ref35_Transfer_j6 b most x_=some r_) (fun x_ => ⟨72,mkS [(0,.x (.one (.p (.sl 1 (List.map encI b))))),(2,.x (.one (.p (pi most)))),(9,.x (.one (.vw 109)))],mkH [(109,.arr 1 (List.map encI x_))]⟩) ?hyref35_Transfer_j6 ?hxref35_Transfer_j6
      case hyref35_Transfer_j6 =>
        rintro t H0
        try dsimp only at H0 ⊢
        unfold ref35_Transfer_j6 at H0
        refine lok_rt E0 (⟨72,mkS [(0,.x (.one (.p (.sl 1 (List.map encI b))))),(2,.x (.one (.p (pi most)))),(9,.x (.one (.vw 109))),(13,.x (.one (.vw 113)))],mkH [(109,.arr 1 (List.map encI t)),(113,.arr 1 (List.map encI ([]:List Int)))]⟩) ?_
        refine lok_join (fun x_:(List Int) => ref35_Transfer_j1 x_=some r_) (fun x_ => ⟨72,mkS [(13,.x (.one (.vw 113)))],mkH [(113,.arr 1 (List.map encI x_))]⟩) ?hyref35_Transfer_j1 ?hxref35_Transfer_j1
        case hyref35_Transfer_j1 =>
          rintro out H0
          try dsimp only at H0 ⊢
          unfold ref35_Transfer_j1 at H0
          refine lok_rt E0 (⟨72,mkS [(6,.x (.one (.vw 113))),(7,.x (.one (.p (pi (0:Int)))))],mkH [(113,.arr 1 (List.map encI out))]⟩) ?_
          refine lok_ret ?_
          obtain rfl:=Option.some.inj H0
          try simp only [thenL,blockL]
          exact fin_au _ (.inr rfl) [] (⟨72,mkS [(6,.x (.one (.p (.sl 1 (List.map encI out))))),(7,.x (.one (.p (pi (0:Int)))))],mkH []⟩) rfl rfl (Imp.trans (imp_frz 113 1 (List.map encI out)) imp_au)
        case hxref35_Transfer_j1 =>
          refine lok_rt E0 (⟨72,mkS [(0,.x (.one (.p (.sl 1 (List.map encI b))))),(2,.x (.one (.p (pi most)))),(9,.x (.one (.vw 109))),(13,.x (.one (.vw 113))),(14,.x (.one (.p (pi (0:Int)))))],mkH [(109,.arr 1 (List.map encI t)),(113,.arr 1 (List.map encI ([]:List Int)))]⟩) ?_
          refine lok_block ?_
          replace H0:=bind_some H0
          obtain ⟨v_1,hv_1,H0⟩:=H0
          refine lok_iter (fun x_ => ⟨72,mkS [(0,.x (.one (.p (.sl 1 (List.map encI b))))),(2,.x (.one (.p (pi most)))),(9,.x (.one (.vw 109))),(13,.x (.one (.vw 113))),(14,.x (.one (.p (pi x_.1))))],mkH [(109,.arr 1 (List.map encI t)),(113,.arr 1 (List.map encI x_.2))]⟩) hv_1 imp_au ?_
          · rintro ⟨i,out1⟩ o_1 H1 k_1
            unfold ref35_Transfer_l5 at H1
            try dsimp only at H1 ⊢
            refine lok_seq ?_
            refine lok_rt E0 (⟨72,mkS [(0,.x (.one (.p (.sl 1 (List.map encI b))))),(2,.x (.one (.p (pi most)))),(9,.x (.one (.vw 109))),(13,.x (.one (.vw 113))),(14,.x (.one (.p (pi i)))),(48,.x (.one (.p (.val (.bool (decide (i<(b.length:Int))))))))],mkH [(109,.arr 1 (List.map encI t)),(113,.arr 1 (List.map encI out1))]⟩) ?_
            refine lok_c (decide (i<(b.length:Int))) ?_ ?_
            · intro b_7
              replace H1:=cpos H1 b_7
              refine lok_skip ?_
              try simp only [thenL,blockL,↓reduceIte,reduceCtorEq]
              refine lok_join (fun x_:(List Int) => ref35_Transfer_j2 i x_=some o_1) (fun x_ => ⟨72,mkS [(0,.x (.one (.p (.sl 1 (List.map encI b))))),(2,.x (.one (.p (pi most)))),(9,.x (.one (.vw 109))),(13,.x (.one (.vw 113))),(14,.x (.one (.p (pi i))))],mkH [(109,.arr 1 (List.map encI t)),(113,.arr 1 (List.map encI x_))]⟩) ?hyref35_Transfer_j2 ?hxref35_Transfer_j2
              case hyref35_Transfer_j2 =>
                rintro out3 H1
                try dsimp only at H1 ⊢
                unfold ref35_Transfer_j2 at H1
                refine lok_rl E0 (⟨72,mkS [(0,.x (.one (.p (.sl 1 (List.map encI b))))),(2,.x (.one (.p (pi most)))),(9,.x (.one (.vw 109))),(13,.x (.one (.vw 113))),(14,.x (.one (.p (pi (IntKind.i64.wrap (i+(1:Int)))))))],mkH [(109,.arr 1 (List.map encI t)),(113,.arr 1 (List.map encI out3))]⟩) ?_
                try simp only [thenL,blockL,↓reduceIte,reduceCtorEq]
                exact ⟨((IntKind.i64.wrap (i+(1:Int))),out3),(Option.some.inj H1).symm,imp_au⟩
              case hxref35_Transfer_j2 =>
                refine lok_block ?_
                refine lok_rt E0 (⟨72,mkS [(0,.x (.one (.p (.sl 1 (List.map encI b))))),(2,.x (.one (.p (pi most)))),(9,.x (.one (.vw 109))),(13,.x (.one (.vw 113))),(14,.x (.one (.p (pi i)))),(15,.x (.one (.p (pi (0:Int)))))],mkH [(109,.arr 1 (List.map encI t)),(113,.arr 1 (List.map encI out1))]⟩) ?_
                refine lok_join (fun x_:Int => ref35_Transfer_j3 i out1 x_=some o_1) (fun x_ => ⟨72,mkS [(0,.x (.one (.p (.sl 1 (List.map encI b))))),(2,.x (.one (.p (pi most)))),(9,.x (.one (.vw 109))),(13,.x (.one (.vw 113))),(14,.x (.one (.p (pi i)))),(15,.x (.one (.p (pi x_))))],mkH [(109,.arr 1 (List.map encI t)),(113,.arr 1 (List.map encI out1))]⟩) ?hyref35_Transfer_j3 ?hxref35_Transfer_j3
                case hyref35_Transfer_j3 =>
                  rintro m H1
                  try dsimp only at H1 ⊢
                  unfold ref35_Transfer_j3 at H1
                  replace H1:=req_some H1
                  obtain ⟨q_2,H1⟩:=H1
                  refine lok_rl E0 (⟨72,mkS [(0,.x (.one (.p (.sl 1 (List.map encI b))))),(2,.x (.one (.p (pi most)))),(9,.x (.one (.vw 109))),(13,.x (.one (.vw 113))),(14,.x (.one (.p (pi i))))],mkH [(109,.arr 1 (List.map encI t)),(113,.arr 1 (List.map encI (out1 ++ [m])))]⟩) ?_
                  try simp only [thenL,blockL,↓reduceIte,reduceCtorEq]
                  exact ⟨(out1 ++ [m]),H1,imp_au⟩
                case hxref35_Transfer_j3 =>
                  refine lok_block ?_
                  replace H1:=bind_some H1
                  obtain ⟨v_3,hv_3,H1⟩:=H1
                  refine lok_iter (fun x_ => ⟨72,mkS [(0,.x (.one (.p (.sl 1 (List.map encI b))))),(2,.x (.one (.p (pi most)))),(9,.x (.one (.vw 109))),(13,.x (.one (.vw 113))),(14,.x (.one (.p (pi i)))),(15,.x (.one (.p (pi x_))))],mkH [(109,.arr 1 (List.map encI t)),(113,.arr 1 (List.map encI out1))]⟩) hv_3 imp_au ?_
                  · rintro m1 o_2 H2 k_2
                    unfold ref35_Transfer_l4 at H2
                    try dsimp only at H2 ⊢
                    refine lok_seq ?_
                    replace H2:=req_some H2
                    obtain ⟨⟨q_5,q_6⟩,H2⟩:=H2
                    refine lok_dt E0 12 (⟨72,mkS [(0,.x (.one (.p (.sl 1 (List.map encI b))))),(2,.x (.one (.p (pi most)))),(9,.x (.one (.vw 109))),(13,.x (.one (.vw 113))),(14,.x (.one (.p (pi i)))),(15,.x (.one (.p (pi m1)))),(64,.x (.one (.p (.val (.bool ((decide (m1≤most))&&(decide ((ix t m1)<(ix b i)))))))))],mkH [(109,.arr 1 (List.map encI t)),(113,.arr 1 (List.map encI out1))]⟩) (by kernel_rfl) (by kernel_rfl) ?_
                    refine lok_c ((decide (m1≤most))&&(decide ((ix t m1)<(ix b i)))) ?_ ?_
                    · intro b_4
                      replace H2:=cpos H2 b_4
                      refine lok_skip ?_
                      try simp only [thenL,blockL,↓reduceIte,reduceCtorEq]
                      refine lok_block ?_
                      refine lok_rl E0 (⟨72,mkS [(0,.x (.one (.p (.sl 1 (List.map encI b))))),(2,.x (.one (.p (pi most)))),(9,.x (.one (.vw 109))),(13,.x (.one (.vw 113))),(14,.x (.one (.p (pi i)))),(15,.x (.one (.p (pi (IntKind.i64.wrap (m1+(1:Int)))))))],mkH [(109,.arr 1 (List.map encI t)),(113,.arr 1 (List.map encI out1))]⟩) ?_
                      try simp only [thenL,blockL,↓reduceIte,reduceCtorEq]
                      exact ⟨(IntKind.i64.wrap (m1+(1:Int))),(Option.some.inj H2).symm,imp_au⟩
                    · intro b_4
                      replace H2:=cneg H2 b_4
                      refine lok_exit ?_
                      try simp only [thenL,blockL,↓reduceIte,reduceCtorEq]
                      have e_2:=k_2 _ (Option.some.inj H2).symm
                      subst e_2
                      try dsimp only at H1
                      try simp only [thenL,blockL,↓reduceIte,reduceCtorEq]
                      exact ⟨m1,H1,imp_au⟩
            · intro b_7
              replace H1:=cneg H1 b_7
              refine lok_exit ?_
              try simp only [thenL,blockL,↓reduceIte,reduceCtorEq]
              have e_1:=k_1 _ (Option.some.inj H1).symm
              subst e_1
              try dsimp only at H0
              try simp only [thenL,blockL,↓reduceIte,reduceCtorEq]
              exact ⟨out1,H0,imp_au⟩
      case hxref35_Transfer_j6 =>
        refine lok_rt E0 (⟨72,mkS [(0,.x (.one (.p (.sl 1 (List.map encI b))))),(2,.x (.one (.p (pi most)))),(4,.x (.one (.ptr 104 0))),(9,.x (.one (.vw 109))),(10,.x (.one (.p (pi (0:Int)))))],mkH [(104,.var [.p (.sl 4 (List.map enc_api_Point c.Points))]),(109,.arr 1 (List.map encI ([]:List Int)))]⟩) ?_
        refine lok_block ?_
        replace H0:=bind_some H0
        obtain ⟨v_8,hv_8,H0⟩:=H0
        refine lok_iter (fun x_ => ⟨72,mkS [(0,.x (.one (.p (.sl 1 (List.map encI b))))),(2,.x (.one (.p (pi most)))),(4,.x (.one (.ptr 104 0))),(9,.x (.one (.vw 109))),(10,.x (.one (.p (pi x_.1))))],mkH [(104,.var [.p (.sl 4 (List.map enc_api_Point c.Points))]),(109,.arr 1 (List.map encI x_.2))]⟩) hv_8 imp_au ?_
        · rintro ⟨i1,t1⟩ o_1 H1 k_1
          unfold ref35_Transfer_l7 at H1
          try dsimp only at H1 ⊢
          refine lok_seq ?_
          refine lok_rt E0 (⟨72,mkS [(0,.x (.one (.p (.sl 1 (List.map encI b))))),(2,.x (.one (.p (pi most)))),(4,.x (.one (.ptr 104 0))),(9,.x (.one (.vw 109))),(10,.x (.one (.p (pi i1)))),(29,.x (.one (.p (.val (.bool (decide (i1≤most)))))))],mkH [(104,.var [.p (.sl 4 (List.map enc_api_Point c.Points))]),(109,.arr 1 (List.map encI t1))]⟩) ?_
          refine lok_c (decide (i1≤most)) ?_ ?_
          · intro b_12
            replace H1:=cpos H1 b_12
            refine lok_skip ?_
            try simp only [thenL,blockL,↓reduceIte,reduceCtorEq]
            refine lok_seq ?_
            refine lok_block ?_
            replace H1:=bind_some H1
            obtain ⟨⟨y1,y2⟩,h_9,H1⟩:=H1
            try dsimp only at H1
            refine lok_rt (Env.of E0 [⟨some 35,41,[.agg [.p (.sl 4 (List.map enc_api_Point c.Points))],.one (.p (pi i1)),.one (.p (pi (200:Int)))],[],[.one (.p (pi y1)),.one (.p (pi y2))],[],True,fun _ => ok_ref33_Convert c i1 (200:Int) (y1,y2) h_9,[]⟩]) (⟨72,mkS [(0,.x (.one (.p (.sl 1 (List.map encI b))))),(2,.x (.one (.p (pi most)))),(4,.x (.one (.ptr 104 0))),(9,.x (.one (.vw 109))),(10,.x (.one (.p (pi i1)))),(11,.x (.one (.p (pi y1)))),(12,.x (.one (.p (pi y2))))],mkH [(104,.var [.p (.sl 4 (List.map enc_api_Point c.Points))]),(109,.arr 1 (List.map encI t1))]⟩) ?_
            refine lok_seq ?_
            refine lok_rt E0 (⟨72,mkS [(0,.x (.one (.p (.sl 1 (List.map encI b))))),(2,.x (.one (.p (pi most)))),(4,.x (.one (.ptr 104 0))),(9,.x (.one (.vw 109))),(10,.x (.one (.p (pi i1)))),(11,.x (.one (.p (pi y1)))),(12,.x (.one (.p (pi y2)))),(39,.x (.one (.p (.val (.bool (y2 != (0:Int)))))))],mkH [(104,.var [.p (.sl 4 (List.map enc_api_Point c.Points))]),(109,.arr 1 (List.map encI t1))]⟩) ?_
            refine lok_c (y2 != (0:Int)) ?_ ?_
            · intro b_11
              replace H1:=cpos H1 b_11
              refine lok_rt E0 (⟨72,mkS [(6,.x (.one (.vw 106))),(7,.x (.one (.p (pi y2))))],mkH [(106,.arr 1 (List.map encI ([]:List Int)))]⟩) ?_
              refine lok_ret ?_
              try simp only [thenL,blockL,↓reduceIte,reduceCtorEq]
              have e_1:=k_1 _ (Option.some.inj H1).symm
              subst e_1
              try dsimp only at H0
              obtain rfl:=Option.some.inj H0
              try simp only [thenL,blockL]
              exact fin_au _ (.inr rfl) [] (⟨72,mkS [(6,.x (.one (.p (.sl 1 (List.map encI ([]:List Int)))))),(7,.x (.one (.p (pi y2))))],mkH []⟩) rfl rfl (Imp.trans (imp_frz 106 1 (List.map encI ([]:List Int))) imp_au)
            · intro b_11
              replace H1:=cneg H1 b_11
              refine lok_skip ?_
              try simp only [thenL,blockL,↓reduceIte,reduceCtorEq]
              replace H1:=req_some H1
              obtain ⟨q_10,H1⟩:=H1
              refine lok_rl E0 (⟨72,mkS [(0,.x (.one (.p (.sl 1 (List.map encI b))))),(2,.x (.one (.p (pi most)))),(4,.x (.one (.ptr 104 0))),(9,.x (.one (.vw 109))),(10,.x (.one (.p (pi i1))))],mkH [(104,.var [.p (.sl 4 (List.map enc_api_Point c.Points))]),(109,.arr 1 (List.map encI (t1 ++ [y1])))]⟩) ?_
              try simp only [thenL,blockL,↓reduceIte,reduceCtorEq]
              refine lok_rl E0 (⟨72,mkS [(0,.x (.one (.p (.sl 1 (List.map encI b))))),(2,.x (.one (.p (pi most)))),(4,.x (.one (.ptr 104 0))),(9,.x (.one (.vw 109))),(10,.x (.one (.p (pi (IntKind.i64.wrap (i1+(1:Int)))))))],mkH [(104,.var [.p (.sl 4 (List.map enc_api_Point c.Points))]),(109,.arr 1 (List.map encI (t1 ++ [y1])))]⟩) ?_
              try simp only [thenL,blockL,↓reduceIte,reduceCtorEq]
              exact ⟨((IntKind.i64.wrap (i1+(1:Int))),(t1 ++ [y1])),(Option.some.inj H1).symm,imp_au⟩
          · intro b_12
            replace H1:=cneg H1 b_12
            refine lok_exit ?_
            try simp only [thenL,blockL,↓reduceIte,reduceCtorEq]
            have e_1:=k_1 _ (Option.some.inj H1).symm
            subst e_1
            try dsimp only at H0
            try simp only [thenL,blockL,↓reduceIte,reduceCtorEq]
            exact ⟨t1,H0,imp_au⟩
theorem ok_boundary_check (d:api_Distribution) (share:api_Ratio) (r_:Int) (H0:boundary_check d share=some r_):CallOK Tryz.prog 42 [.agg [.p (.sl 1 (List.map encI d.Counts))],.agg [.p (pi share.Num),.p (pi share.Den)]] [] [.one (.p (pi r_))] []:=by
  refine callOK (n:=26) (rs:=[.tmp 4]) (nb:=0) (V:=[]) Tryz.func42 rfl (by kernel_rfl) rfl rfl rfl rfl (Nat.le_of_ble_eq_true rfl) (by decide) ?_
  unfold boundary_check at H0
  refine lok_rt E0 (⟨26,mkS [(2,.x (.one (.ptr 102 0))),(3,.x (.one (.ptr 103 0)))],mkH [(102,.var [.p (.sl 1 (List.map encI d.Counts))]),(103,.var [.p (pi share.Num),.p (pi share.Den)])]⟩) ?_
  refine lok_seq ?_
  replace H0:=bind_some H0
  obtain ⟨y,h_0,H0⟩:=H0
  replace H0:=req_some H0
  obtain ⟨q_5,H0⟩:=H0
  refine lok_rt (Env.of E0 [⟨some 6,30,[.agg [.p (.sl 1 (List.map encI d.Counts))]],[],[.one (.p (.val (.bool y)))],[],True,fun _ => ok_distribution_Valid d y h_0,[]⟩,
      ⟨some 10,58,[.agg [.p (pi share.Num),.p (pi share.Den)]],[],[.one (.p (.val (.bool ((ratio_Valid share).getD default))))],[],(ratio_Valid share).isSome=true,fun h => ok_ratio_Valid share _ (isSome_get h),[]⟩]) (⟨26,mkS [(2,.x (.one (.ptr 102 0))),(3,.x (.one (.ptr 103 0))),(12,.x (.one (.p (.val (.bool ((!y)||(!((ratio_Valid share).getD default))))))))],mkH [(102,.var [.p (.sl 1 (List.map encI d.Counts))]),(103,.var [.p (pi share.Num),.p (pi share.Den)])]⟩) ?_
  refine lok_c ((!y)||(!((ratio_Valid share).getD default))) ?_ ?_
  · intro b_4
    replace H0:=cpos H0 b_4
    refine lok_rt E0 (⟨26,mkS [(4,.x (.one (.p (pi (1:Int)))))],mkH []⟩) ?_
    refine lok_ret ?_
    obtain rfl:=Option.some.inj H0
    try simp only [thenL,blockL]
    exact fin_au _ (.inr rfl) [] (⟨26,mkS [(4,.x (.one (.p (pi (1:Int)))))],mkH []⟩) rfl rfl imp_au
  · intro b_4
    replace H0:=cneg H0 b_4
    refine lok_skip ?_
    try simp only [thenL,blockL,↓reduceIte,reduceCtorEq]
    refine lok_seq ?_
    replace H0:=bind_some H0
    obtain ⟨y1,h_1,H0⟩:=H0
    refine lok_rt (Env.of E0 [⟨some 14,33,[.agg [.p (.sl 1 (List.map encI d.Counts))]],[],[.one (.p (pi y1))],[],True,fun _ => ok_distribution_Count d y1 h_1,[]⟩]) (⟨26,mkS [(3,.x (.one (.ptr 103 0))),(15,.x (.one (.p (.val (.bool (y1==(0:Int)))))))],mkH [(103,.var [.p (pi share.Num),.p (pi share.Den)])]⟩) ?_
    refine lok_c (y1==(0:Int)) ?_ ?_
    · intro b_3
      replace H0:=cpos H0 b_3
      refine lok_rt E0 (⟨26,mkS [(4,.x (.one (.p (pi (10:Int)))))],mkH []⟩) ?_
      refine lok_ret ?_
      obtain rfl:=Option.some.inj H0
      try simp only [thenL,blockL]
      exact fin_au _ (.inr rfl) [] (⟨26,mkS [(4,.x (.one (.p (pi (10:Int)))))],mkH []⟩) rfl rfl imp_au
    · intro b_3
      replace H0:=cneg H0 b_3
      refine lok_skip ?_
      try simp only [thenL,blockL,↓reduceIte,reduceCtorEq]
      refine lok_seq ?_
      refine lok_rt E0 (⟨26,mkS [(25,.x (.one (.p (.val (.bool ((decide (share.Num<(0:Int)))||(decide (share.Den<share.Num))))))))],mkH []⟩) ?_
      refine lok_c ((decide (share.Num<(0:Int)))||(decide (share.Den<share.Num))) ?_ ?_
      · intro b_2
        replace H0:=cpos H0 b_2
        refine lok_rt E0 (⟨26,mkS [(4,.x (.one (.p (pi (2:Int)))))],mkH []⟩) ?_
        refine lok_ret ?_
        obtain rfl:=Option.some.inj H0
        try simp only [thenL,blockL]
        exact fin_au _ (.inr rfl) [] (⟨26,mkS [(4,.x (.one (.p (pi (2:Int)))))],mkH []⟩) rfl rfl imp_au
      · intro b_2
        replace H0:=cneg H0 b_2
        refine lok_skip ?_
        try simp only [thenL,blockL,↓reduceIte,reduceCtorEq]
        refine lok_rt E0 (⟨26,mkS [(4,.x (.one (.p (pi (0:Int)))))],mkH []⟩) ?_
        refine lok_ret ?_
        obtain rfl:=Option.some.inj H0
        try simp only [thenL,blockL]
        exact fin_au _ (.inr rfl) [] (⟨26,mkS [(4,.x (.one (.p (pi (0:Int)))))],mkH []⟩) rfl rfl imp_au
theorem ok_boundary_Share (d:api_Distribution) (share:api_Ratio) (r_:Int × Int) (H0:boundary_Share d share=some r_):CallOK Tryz.prog 22 [.agg [.p (.sl 1 (List.map encI d.Counts))],.agg [.p (pi share.Num),.p (pi share.Den)]] [] [.one (.p (pi r_.1)),.one (.p (pi r_.2))] []:=by
  refine callOK (n:=35) (rs:=[.tmp 4,.tmp 5]) (nb:=0) (V:=[]) Tryz.func22 rfl (by kernel_rfl) rfl rfl rfl rfl (Nat.le_of_ble_eq_true rfl) (by decide) ?_
  unfold boundary_Share at H0
  refine lok_rt E0 (⟨35,mkS [(2,.x (.one (.ptr 102 0))),(3,.x (.one (.ptr 103 0)))],mkH [(102,.var [.p (.sl 1 (List.map encI d.Counts))]),(103,.var [.p (pi share.Num),.p (pi share.Den)])]⟩) ?_
  refine lok_seq ?_
  replace H0:=bind_some H0
  obtain ⟨y,h_0,H0⟩:=H0
  refine lok_rt (Env.of E0 [⟨some 11,42,[.agg [.p (.sl 1 (List.map encI d.Counts))],.agg [.p (pi share.Num),.p (pi share.Den)]],[],[.one (.p (pi y))],[],True,fun _ => ok_boundary_check d share y h_0,[]⟩]) (⟨35,mkS [(2,.x (.one (.ptr 102 0))),(3,.x (.one (.ptr 103 0))),(6,.x (.one (.p (pi y))))],mkH [(102,.var [.p (.sl 1 (List.map encI d.Counts))]),(103,.var [.p (pi share.Num),.p (pi share.Den)])]⟩) ?_
  refine lok_rt E0 (⟨35,mkS [(2,.x (.one (.ptr 102 0))),(3,.x (.one (.ptr 103 0))),(6,.x (.one (.p (pi y)))),(13,.x (.one (.p (.val (.bool (y != (0:Int)))))))],mkH [(102,.var [.p (.sl 1 (List.map encI d.Counts))]),(103,.var [.p (pi share.Num),.p (pi share.Den)])]⟩) ?_
  refine lok_c (y != (0:Int)) ?_ ?_
  · intro b_8
    replace H0:=cpos H0 b_8
    refine lok_rt E0 (⟨35,mkS [(4,.x (.one (.p (pi (0:Int))))),(5,.x (.one (.p (pi y))))],mkH []⟩) ?_
    refine lok_ret ?_
    obtain rfl:=Option.some.inj H0
    try simp only [thenL,blockL]
    exact fin_au _ (.inr rfl) [] (⟨35,mkS [(4,.x (.one (.p (pi (0:Int))))),(5,.x (.one (.p (pi y))))],mkH []⟩) rfl rfl imp_au
  · intro b_8
    replace H0:=cneg H0 b_8
    refine lok_skip ?_
    try simp only [thenL,blockL,↓reduceIte,reduceCtorEq]
    replace H0:=bind_some H0
    obtain ⟨y1,h_1,H0⟩:=H0
    refine lok_rt (Env.of E0 [⟨some 16,34,[.agg [.p (.sl 1 (List.map encI d.Counts))]],[],[.one (.p (.sl 1 (List.map encI y1)))],[],True,fun _ => ok_boundary_reaching d y1 h_1,[]⟩]) (⟨35,mkS [(3,.x (.one (.ptr 103 0))),(7,.x (.one (.p (.sl 1 (List.map encI y1)))))],mkH [(103,.var [.p (pi share.Num),.p (pi share.Den)])]⟩) ?_
    refine lok_join (fun x_:Unit => boundary_Share_j1=some r_) (fun x_ => ⟨35,mkS [],mkH []⟩) ?hyboundary_Share_j1 ?hxboundary_Share_j1
    case hyboundary_Share_j1 =>
      rintro _ H0
      try dsimp only at H0 ⊢
      unfold boundary_Share_j1 at H0
      refine lok_rt E0 (⟨35,mkS [(4,.x (.one (.p (pi (0:Int))))),(5,.x (.one (.p (pi (0:Int)))))],mkH []⟩) ?_
      refine lok_ret ?_
      obtain rfl:=Option.some.inj H0
      try simp only [thenL,blockL]
      exact fin_au _ (.inr rfl) [] (⟨35,mkS [(4,.x (.one (.p (pi (0:Int))))),(5,.x (.one (.p (pi (0:Int)))))],mkH []⟩) rfl rfl imp_au
    case hxboundary_Share_j1 =>
      refine lok_rt E0 (⟨35,mkS [(3,.x (.one (.ptr 103 0))),(7,.x (.one (.p (.sl 1 (List.map encI y1))))),(8,.x (.one (.p (pi (IntKind.i64.wrap ((y1.length:Int)-(1:Int)))))))],mkH [(103,.var [.p (pi share.Num),.p (pi share.Den)])]⟩) ?_
      refine lok_block ?_
      replace H0:=bind_some H0
      obtain ⟨v_2,hv_2,H0⟩:=H0
      refine lok_iter (fun x_ => ⟨35,mkS [(3,.x (.one (.ptr 103 0))),(7,.x (.one (.p (.sl 1 (List.map encI y1))))),(8,.x (.one (.p (pi x_))))],mkH [(103,.var [.p (pi share.Num),.p (pi share.Den)])]⟩) hv_2 imp_au ?_
      · rintro b o_1 H1 k_1
        unfold boundary_Share_l2 at H1
        try dsimp only at H1 ⊢
        refine lok_seq ?_
        refine lok_rt E0 (⟨35,mkS [(3,.x (.one (.ptr 103 0))),(7,.x (.one (.p (.sl 1 (List.map encI y1))))),(8,.x (.one (.p (pi b)))),(21,.x (.one (.p (.val (.bool (decide ((0:Int)<b)))))))],mkH [(103,.var [.p (pi share.Num),.p (pi share.Den)])]⟩) ?_
        refine lok_c (decide ((0:Int)<b)) ?_ ?_
        · intro b_7
          replace H1:=cpos H1 b_7
          refine lok_skip ?_
          try simp only [thenL,blockL,↓reduceIte,reduceCtorEq]
          refine lok_seq ?_
          refine lok_block ?_
          replace H1:=req_some H1
          obtain ⟨⟨q_5,q_6⟩,H1⟩:=H1
          replace H1:=bind_some H1
          obtain ⟨y2,h_3,H1⟩:=H1
          refine lok_dt (Env.of E0 [⟨some 32,43,[.one (.p (pi (ix y1 b))),.one (.p (pi (ix y1 (0:Int)))),.agg [.p (pi share.Num),.p (pi share.Den)]],[],[.one (.p (pi y2))],[],True,fun _ => ok_boundary_compareShare (ix y1 b) (ix y1 (0:Int)) share y2 h_3,[]⟩]) 8 (⟨35,mkS [(3,.x (.one (.ptr 103 0))),(7,.x (.one (.p (.sl 1 (List.map encI y1))))),(8,.x (.one (.p (pi b)))),(33,.x (.one (.p (.val (.bool (decide ((0:Int)≤y2)))))))],mkH [(103,.var [.p (pi share.Num),.p (pi share.Den)])]⟩) (by kernel_rfl) (by kernel_rfl) ?_
          refine lok_c (decide ((0:Int)≤y2)) ?_ ?_
          · intro b_4
            replace H1:=cpos H1 b_4
            refine lok_rt E0 (⟨35,mkS [(4,.x (.one (.p (pi b)))),(5,.x (.one (.p (pi (0:Int)))))],mkH []⟩) ?_
            refine lok_ret ?_
            try simp only [thenL,blockL,↓reduceIte,reduceCtorEq]
            have e_1:=k_1 _ (Option.some.inj H1).symm
            subst e_1
            try dsimp only at H0
            obtain rfl:=Option.some.inj H0
            try simp only [thenL,blockL]
            exact fin_au _ (.inr rfl) [] (⟨35,mkS [(4,.x (.one (.p (pi b)))),(5,.x (.one (.p (pi (0:Int)))))],mkH []⟩) rfl rfl imp_au
          · intro b_4
            replace H1:=cneg H1 b_4
            refine lok_skip ?_
            try simp only [thenL,blockL,↓reduceIte,reduceCtorEq]
            refine lok_rl E0 (⟨35,mkS [(3,.x (.one (.ptr 103 0))),(7,.x (.one (.p (.sl 1 (List.map encI y1))))),(8,.x (.one (.p (pi (IntKind.i64.wrap (b-(1:Int)))))))],mkH [(103,.var [.p (pi share.Num),.p (pi share.Den)])]⟩) ?_
            try simp only [thenL,blockL,↓reduceIte,reduceCtorEq]
            exact ⟨(IntKind.i64.wrap (b-(1:Int))),(Option.some.inj H1).symm,imp_au⟩
        · intro b_7
          replace H1:=cneg H1 b_7
          refine lok_exit ?_
          try simp only [thenL,blockL,↓reduceIte,reduceCtorEq]
          have e_1:=k_1 _ (Option.some.inj H1).symm
          subst e_1
          try dsimp only at H0
          try simp only [thenL,blockL,↓reduceIte,reduceCtorEq]
          exact ⟨(),H0,imp_au⟩
theorem ok_ref32_Reaches (n:Int) (m:Int) (share:api_Ratio) (r_:Bool) (H0:ref32_Reaches n m share=some r_):CallOK Tryz.prog 45 [.one (.p (pi n)),.one (.p (pi m)),.agg [.p (pi share.Num),.p (pi share.Den)]] [] [.one (.p (.val (.bool r_)))] []:=by
  refine callOK (n:=19) (rs:=[.tmp 6]) (nb:=0) (V:=[]) Tryz.func45 rfl (by kernel_rfl) rfl rfl rfl rfl (Nat.le_of_ble_eq_true rfl) (by decide) ?_
  unfold ref32_Reaches at H0
  refine lok_rt E0 (⟨19,mkS [(0,.x (.one (.p (pi n)))),(1,.x (.one (.p (pi m)))),(5,.x (.one (.ptr 105 0)))],mkH [(105,.var [.p (pi share.Num),.p (pi share.Den)])]⟩) ?_
  replace H0:=bind_some H0
  obtain ⟨⟨y,y1⟩,h_0,H0⟩:=H0
  try dsimp only at H0
  refine lok_rt (Env.of E0 [⟨some 12,38,[.one (.p (pi n)),.one (.p (pi m))],[],[.agg [.p (pi y.Num),.p (pi y.Den)],.one (.p (pi y1))],[],True,fun _ => ok_ref01_New n m (y,y1) h_0,[]⟩]) (⟨19,mkS [(5,.x (.one (.ptr 105 0))),(7,.x (.one (.ptr 107 0)))],mkH [(105,.var [.p (pi share.Num),.p (pi share.Den)]),(107,.var [.p (pi y.Num),.p (pi y.Den)])]⟩) ?_
  replace H0:=bind_some H0
  obtain ⟨y2,h_1,H0⟩:=H0
  refine lok_rt (Env.of E0 [⟨some 17,46,[.agg [.p (pi y.Num),.p (pi y.Den)],.agg [.p (pi share.Num),.p (pi share.Den)]],[],[.one (.p (.val (.bool y2)))],[],True,fun _ => ok_ref01_Less y share y2 h_1,[]⟩]) (⟨19,mkS [(6,.x (.one (.p (.val (.bool (!y2))))))],mkH []⟩) ?_
  refine lok_ret ?_
  obtain rfl:=Option.some.inj H0
  try simp only [thenL,blockL]
  exact fin_au _ (.inr rfl) [] (⟨19,mkS [(6,.x (.one (.p (.val (.bool (!y2))))))],mkH []⟩) rfl rfl imp_au
theorem ok_ref35_Share (d:api_Distribution) (share:api_Ratio) (r_:Int × Int) (H0:ref35_Share d share=some r_):CallOK Tryz.prog 23 [.agg [.p (.sl 1 (List.map encI d.Counts))],.agg [.p (pi share.Num),.p (pi share.Den)]] [] [.one (.p (pi r_.1)),.one (.p (pi r_.2))] []:=by
  refine callOK (n:=28) (rs:=[.tmp 4,.tmp 5]) (nb:=0) (V:=[]) Tryz.func23 rfl (by kernel_rfl) rfl rfl rfl rfl (Nat.le_of_ble_eq_true rfl) (by decide) ?_
  unfold ref35_Share at H0
  refine lok_rt E0 (⟨28,mkS [(2,.x (.one (.ptr 102 0))),(3,.x (.one (.ptr 103 0)))],mkH [(102,.var [.p (.sl 1 (List.map encI d.Counts))]),(103,.var [.p (pi share.Num),.p (pi share.Den)])]⟩) ?_
  refine lok_seq ?_
  replace H0:=bind_some H0
  obtain ⟨y,h_0,H0⟩:=H0
  refine lok_rt (Env.of E0 [⟨some 10,44,[.agg [.p (.sl 1 (List.map encI d.Counts))],.agg [.p (pi share.Num),.p (pi share.Den)]],[],[.one (.p (pi y))],[],True,fun _ => ok_ref35_wrong d share y h_0,[]⟩]) (⟨28,mkS [(2,.x (.one (.ptr 102 0))),(3,.x (.one (.ptr 103 0))),(6,.x (.one (.p (pi y))))],mkH [(102,.var [.p (.sl 1 (List.map encI d.Counts))]),(103,.var [.p (pi share.Num),.p (pi share.Den)])]⟩) ?_
  refine lok_rt E0 (⟨28,mkS [(2,.x (.one (.ptr 102 0))),(3,.x (.one (.ptr 103 0))),(6,.x (.one (.p (pi y)))),(12,.x (.one (.p (.val (.bool (y != (0:Int)))))))],mkH [(102,.var [.p (.sl 1 (List.map encI d.Counts))]),(103,.var [.p (pi share.Num),.p (pi share.Den)])]⟩) ?_
  refine lok_c (y != (0:Int)) ?_ ?_
  · intro b_6
    replace H0:=cpos H0 b_6
    refine lok_rt E0 (⟨28,mkS [(4,.x (.one (.p (pi (0:Int))))),(5,.x (.one (.p (pi y))))],mkH []⟩) ?_
    refine lok_ret ?_
    obtain rfl:=Option.some.inj H0
    try simp only [thenL,blockL]
    exact fin_au _ (.inr rfl) [] (⟨28,mkS [(4,.x (.one (.p (pi (0:Int))))),(5,.x (.one (.p (pi y))))],mkH []⟩) rfl rfl imp_au
  · intro b_6
    replace H0:=cneg H0 b_6
    refine lok_skip ?_
    try simp only [thenL,blockL,↓reduceIte,reduceCtorEq]
    refine lok_rt E0 (⟨28,mkS [(2,.x (.one (.ptr 102 0))),(3,.x (.one (.ptr 103 0))),(7,.x (.one (.p (pi (d.Counts.length:Int)))))],mkH [(102,.var [.p (.sl 1 (List.map encI d.Counts))]),(103,.var [.p (pi share.Num),.p (pi share.Den)])]⟩) ?_
    refine lok_join (fun x_:Int => ref35_Share_j1 x_=some r_) (fun x_ => ⟨28,mkS [(7,.x (.one (.p (pi x_))))],mkH []⟩) ?hyref35_Share_j1 ?hxref35_Share_j1
    case hyref35_Share_j1 =>
      rintro b H0
      try dsimp only at H0 ⊢
      unfold ref35_Share_j1 at H0
      refine lok_rt E0 (⟨28,mkS [(4,.x (.one (.p (pi b)))),(5,.x (.one (.p (pi (0:Int)))))],mkH []⟩) ?_
      refine lok_ret ?_
      obtain rfl:=Option.some.inj H0
      try simp only [thenL,blockL]
      exact fin_au _ (.inr rfl) [] (⟨28,mkS [(4,.x (.one (.p (pi b)))),(5,.x (.one (.p (pi (0:Int)))))],mkH []⟩) rfl rfl imp_au
    case hxref35_Share_j1 =>
      refine lok_block ?_
      replace H0:=bind_some H0
      obtain ⟨v_1,hv_1,H0⟩:=H0
      refine lok_iter (fun x_ => ⟨28,mkS [(2,.x (.one (.ptr 102 0))),(3,.x (.one (.ptr 103 0))),(7,.x (.one (.p (pi x_))))],mkH [(102,.var [.p (.sl 1 (List.map encI d.Counts))]),(103,.var [.p (pi share.Num),.p (pi share.Den)])]⟩) hv_1 imp_au ?_
      · rintro b1 o_1 H1 k_1
        unfold ref35_Share_l2 at H1
        try dsimp only at H1 ⊢
        refine lok_seq ?_
        replace H1:=bind_some H1
        obtain ⟨y1,h_2,H1⟩:=H1
        replace H1:=bind_some H1
        obtain ⟨y2,h_3,H1⟩:=H1
        replace H1:=bind_some H1
        obtain ⟨y3,h_4,H1⟩:=H1
        refine lok_dt (Env.of E0 [⟨some 19,39,[.agg [.p (.sl 1 (List.map encI d.Counts))],.one (.p (pi b1))],[],[.one (.p (pi y1))],[],True,fun _ => ok_ref35_reached d b1 y1 h_2,[]⟩,
      ⟨some 21,37,[.agg [.p (.sl 1 (List.map encI d.Counts))]],[],[.one (.p (pi y2))],[],True,fun _ => ok_ref32_Count d y2 h_3,[]⟩,
      ⟨some 23,45,[.one (.p (pi y1)),.one (.p (pi y2)),.agg [.p (pi share.Num),.p (pi share.Den)]],[],[.one (.p (.val (.bool y3)))],[],True,fun _ => ok_ref32_Reaches y1 y2 share y3 h_4,[]⟩]) 6 (⟨28,mkS [(2,.x (.one (.ptr 102 0))),(3,.x (.one (.ptr 103 0))),(7,.x (.one (.p (pi b1)))),(24,.x (.one (.p (.val (.bool (!y3))))))],mkH [(102,.var [.p (.sl 1 (List.map encI d.Counts))]),(103,.var [.p (pi share.Num),.p (pi share.Den)])]⟩) (by kernel_rfl) (by kernel_rfl) ?_
        refine lok_c (!y3) ?_ ?_
        · intro b_5
          replace H1:=cpos H1 b_5
          refine lok_skip ?_
          try simp only [thenL,blockL,↓reduceIte,reduceCtorEq]
          refine lok_block ?_
          refine lok_rl E0 (⟨28,mkS [(2,.x (.one (.ptr 102 0))),(3,.x (.one (.ptr 103 0))),(7,.x (.one (.p (pi (IntKind.i64.wrap (b1-(1:Int)))))))],mkH [(102,.var [.p (.sl 1 (List.map encI d.Counts))]),(103,.var [.p (pi share.Num),.p (pi share.Den)])]⟩) ?_
          try simp only [thenL,blockL,↓reduceIte,reduceCtorEq]
          exact ⟨(IntKind.i64.wrap (b1-(1:Int))),(Option.some.inj H1).symm,imp_au⟩
        · intro b_5
          replace H1:=cneg H1 b_5
          refine lok_exit ?_
          try simp only [thenL,blockL,↓reduceIte,reduceCtorEq]
          have e_1:=k_1 _ (Option.some.inj H1).symm
          subst e_1
          try dsimp only at H0
          try simp only [thenL,blockL,↓reduceIte,reduceCtorEq]
          exact ⟨b1,H0,imp_au⟩
theorem ok_boundary_Nearest (d:api_Distribution) (share:api_Ratio) (r_:Int × Int) (H0:boundary_Nearest d share=some r_):CallOK Tryz.prog 24 [.agg [.p (.sl 1 (List.map encI d.Counts))],.agg [.p (pi share.Num),.p (pi share.Den)]] [] [.one (.p (pi r_.1)),.one (.p (pi r_.2))] []:=by
  refine callOK (n:=16) (rs:=[.tmp 4,.tmp 5]) (nb:=0) (V:=[]) Tryz.func24 rfl (by kernel_rfl) rfl rfl rfl rfl (Nat.le_of_ble_eq_true rfl) (by decide) ?_
  unfold boundary_Nearest at H0
  refine lok_rt E0 (⟨16,mkS [(2,.x (.one (.ptr 102 0))),(3,.x (.one (.ptr 103 0)))],mkH [(102,.var [.p (.sl 1 (List.map encI d.Counts))]),(103,.var [.p (pi share.Num),.p (pi share.Den)])]⟩) ?_
  refine lok_seq ?_
  replace H0:=bind_some H0
  obtain ⟨y,h_0,H0⟩:=H0
  refine lok_rt (Env.of E0 [⟨some 9,42,[.agg [.p (.sl 1 (List.map encI d.Counts))],.agg [.p (pi share.Num),.p (pi share.Den)]],[],[.one (.p (pi y))],[],True,fun _ => ok_boundary_check d share y h_0,[]⟩]) (⟨16,mkS [(2,.x (.one (.ptr 102 0))),(3,.x (.one (.ptr 103 0))),(6,.x (.one (.p (pi y))))],mkH [(102,.var [.p (.sl 1 (List.map encI d.Counts))]),(103,.var [.p (pi share.Num),.p (pi share.Den)])]⟩) ?_
  refine lok_rt E0 (⟨16,mkS [(2,.x (.one (.ptr 102 0))),(3,.x (.one (.ptr 103 0))),(6,.x (.one (.p (pi y)))),(11,.x (.one (.p (.val (.bool (y != (0:Int)))))))],mkH [(102,.var [.p (.sl 1 (List.map encI d.Counts))]),(103,.var [.p (pi share.Num),.p (pi share.Den)])]⟩) ?_
  refine lok_c (y != (0:Int)) ?_ ?_
  · intro b_2
    replace H0:=cpos H0 b_2
    refine lok_rt E0 (⟨16,mkS [(4,.x (.one (.p (pi (0:Int))))),(5,.x (.one (.p (pi y))))],mkH []⟩) ?_
    refine lok_ret ?_
    obtain rfl:=Option.some.inj H0
    try simp only [thenL,blockL]
    exact fin_au _ (.inr rfl) [] (⟨16,mkS [(4,.x (.one (.p (pi (0:Int))))),(5,.x (.one (.p (pi y))))],mkH []⟩) rfl rfl imp_au
  · intro b_2
    replace H0:=cneg H0 b_2
    refine lok_skip ?_
    try simp only [thenL,blockL,↓reduceIte,reduceCtorEq]
    replace H0:=bind_some H0
    obtain ⟨y1,h_1,H0⟩:=H0
    refine lok_rt (Env.of E0 [⟨some 15,36,[.agg [.p (.sl 1 (List.map encI d.Counts))],.agg [.p (pi share.Num),.p (pi share.Den)]],[],[.one (.p (pi y1))],[],True,fun _ => ok_boundary_nearest d share y1 h_1,[]⟩]) (⟨16,mkS [(4,.x (.one (.p (pi y1)))),(5,.x (.one (.p (pi (0:Int)))))],mkH []⟩) ?_
    refine lok_ret ?_
    obtain rfl:=Option.some.inj H0
    try simp only [thenL,blockL]
    exact fin_au _ (.inr rfl) [] (⟨16,mkS [(4,.x (.one (.p (pi y1)))),(5,.x (.one (.p (pi (0:Int)))))],mkH []⟩) rfl rfl imp_au
theorem ok_boundary_Interpolate (high:Int) (low:Int) (steps:Int) (r_:(List Int) × Int) (H0:boundary_Interpolate high low steps=some r_):CallOK Tryz.prog 26 [.one (.p (pi high)),.one (.p (pi low)),.one (.p (pi steps))] [] [.one (.p (.sl 1 (List.map encI r_.1))),.one (.p (pi r_.2))] []:=by
  refine callOK (n:=54) (rs:=[.tmp 6,.tmp 7]) (nb:=0) (V:=[]) Tryz.func26 rfl (by kernel_rfl) rfl rfl rfl rfl (Nat.le_of_ble_eq_true rfl) (by decide) ?_
  unfold boundary_Interpolate at H0
  refine lok_rt E0 (⟨54,mkS [(0,.x (.one (.p (pi high)))),(1,.x (.one (.p (pi low)))),(2,.x (.one (.p (pi steps))))],mkH []⟩) ?_
  refine lok_seq ?_
  refine lok_rt E0 (⟨54,mkS [(0,.x (.one (.p (pi high)))),(1,.x (.one (.p (pi low)))),(2,.x (.one (.p (pi steps)))),(28,.x (.one (.p (.val (.bool (((((decide (low<(0:Int)))||(decide (high<low)))||(decide ((200:Int)<high)))||(decide (steps<(1:Int))))||(decide ((8:Int)<steps))))))))],mkH []⟩) ?_
  refine lok_c (((((decide (low<(0:Int)))||(decide (high<low)))||(decide ((200:Int)<high)))||(decide (steps<(1:Int))))||(decide ((8:Int)<steps))) ?_ ?_
  · intro b_6
    replace H0:=cpos H0 b_6
    refine lok_rt E0 (⟨54,mkS [(6,.x (.one (.vw 106))),(7,.x (.one (.p (pi (2:Int)))))],mkH [(106,.arr 1 (List.map encI ([]:List Int)))]⟩) ?_
    refine lok_ret ?_
    obtain rfl:=Option.some.inj H0
    try simp only [thenL,blockL]
    exact fin_au _ (.inr rfl) [] (⟨54,mkS [(6,.x (.one (.p (.sl 1 (List.map encI ([]:List Int)))))),(7,.x (.one (.p (pi (2:Int)))))],mkH []⟩) rfl rfl (Imp.trans (imp_frz 106 1 (List.map encI ([]:List Int))) imp_au)
  · intro b_6
    replace H0:=cneg H0 b_6
    refine lok_skip ?_
    try simp only [thenL,blockL,↓reduceIte,reduceCtorEq]
    replace H0:=req_some H0
    obtain ⟨q_5,H0⟩:=H0
    refine lok_rt E0 (⟨54,mkS [(0,.x (.one (.p (pi high)))),(1,.x (.one (.p (pi low)))),(2,.x (.one (.p (pi steps)))),(8,.x (.one (.vw 131)))],mkH [(131,.arr 1 (List.map encI (rep (IntKind.i64.wrap (steps+(1:Int))) (0:Int))))]⟩) ?_
    refine lok_join (fun x_:(List Int) => boundary_Interpolate_j1 x_=some r_) (fun x_ => ⟨54,mkS [(8,.x (.one (.vw 131)))],mkH [(131,.arr 1 (List.map encI x_))]⟩) ?hyboundary_Interpolate_j1 ?hxboundary_Interpolate_j1
    case hyboundary_Interpolate_j1 =>
      rintro w H0
      try dsimp only at H0 ⊢
      unfold boundary_Interpolate_j1 at H0
      refine lok_rt E0 (⟨54,mkS [(6,.x (.one (.vw 131))),(7,.x (.one (.p (pi (0:Int)))))],mkH [(131,.arr 1 (List.map encI w))]⟩) ?_
      refine lok_ret ?_
      obtain rfl:=Option.some.inj H0
      try simp only [thenL,blockL]
      exact fin_au _ (.inr rfl) [] (⟨54,mkS [(6,.x (.one (.p (.sl 1 (List.map encI w))))),(7,.x (.one (.p (pi (0:Int)))))],mkH []⟩) rfl rfl (Imp.trans (imp_frz 131 1 (List.map encI w)) imp_au)
    case hxboundary_Interpolate_j1 =>
      refine lok_rt E0 (⟨54,mkS [(0,.x (.one (.p (pi high)))),(1,.x (.one (.p (pi low)))),(2,.x (.one (.p (pi steps)))),(8,.x (.one (.vw 131))),(33,.x (.one (.p (pi ((rep (IntKind.i64.wrap (steps+(1:Int))) (0:Int)).length:Int))))),(34,.x (.one (.p (pi (0:Int)))))],mkH [(131,.arr 1 (List.map encI (rep (IntKind.i64.wrap (steps+(1:Int))) (0:Int))))]⟩) ?_
      refine lok_block ?_
      replace H0:=bind_some H0
      obtain ⟨v_0,hv_0,H0⟩:=H0
      refine lok_iter (fun x_ => ⟨54,mkS [(0,.x (.one (.p (pi high)))),(1,.x (.one (.p (pi low)))),(2,.x (.one (.p (pi steps)))),(8,.x (.one (.vw 131))),(33,.x (.one (.p (pi ((rep (IntKind.i64.wrap (steps+(1:Int))) (0:Int)).length:Int))))),(34,.x (.one (.p (pi x_.1))))],mkH [(131,.arr 1 (List.map encI x_.2))]⟩) hv_0 imp_au ?_
      · rintro ⟨v,w1⟩ o_1 H1 k_1
        unfold boundary_Interpolate_l2 at H1
        try dsimp only at H1 ⊢
        refine lok_rt E0 (⟨54,mkS [(0,.x (.one (.p (pi high)))),(1,.x (.one (.p (pi low)))),(2,.x (.one (.p (pi steps)))),(8,.x (.one (.vw 131))),(33,.x (.one (.p (pi ((rep (IntKind.i64.wrap (steps+(1:Int))) (0:Int)).length:Int))))),(34,.x (.one (.p (pi v)))),(35,.x (.one (.p (.val (.bool (decide (v<((rep (IntKind.i64.wrap (steps+(1:Int))) (0:Int)).length:Int))))))))],mkH [(131,.arr 1 (List.map encI w1))]⟩) ?_
        refine lok_seq ?_
        refine lok_c (decide (v<((rep (IntKind.i64.wrap (steps+(1:Int))) (0:Int)).length:Int))) ?_ ?_
        · intro b_4
          replace H1:=cpos H1 b_4
          refine lok_skip ?_
          try simp only [thenL,blockL,↓reduceIte,reduceCtorEq]
          refine lok_seq ?_
          refine lok_block ?_
          refine lok_rt E0 (⟨54,mkS [(0,.x (.one (.p (pi high)))),(1,.x (.one (.p (pi low)))),(2,.x (.one (.p (pi steps)))),(8,.x (.one (.vw 131))),(9,.x (.one (.p (pi v)))),(33,.x (.one (.p (pi ((rep (IntKind.i64.wrap (steps+(1:Int))) (0:Int)).length:Int))))),(34,.x (.one (.p (pi v))))],mkH [(131,.arr 1 (List.map encI w1))]⟩) ?_
          replace H1:=req_some H1
          obtain ⟨⟨q_2,q_3⟩,H1⟩:=H1
          replace H1:=bindV_some H1
          obtain ⟨w3,a_1,H1⟩:=H1
          refine lok_rlg E0 a_1 (⟨54,mkS [(0,.x (.one (.p (pi high)))),(1,.x (.one (.p (pi low)))),(2,.x (.one (.p (pi steps)))),(8,.x (.one (.vw 131))),(33,.x (.one (.p (pi ((rep (IntKind.i64.wrap (steps+(1:Int))) (0:Int)).length:Int))))),(34,.x (.one (.p (pi v))))],mkH [(131,.arr 1 (List.map encI w3))]⟩) ?_
          try simp only [thenL,blockL,↓reduceIte,reduceCtorEq]
          refine lok_rl E0 (⟨54,mkS [(0,.x (.one (.p (pi high)))),(1,.x (.one (.p (pi low)))),(2,.x (.one (.p (pi steps)))),(8,.x (.one (.vw 131))),(33,.x (.one (.p (pi ((rep (IntKind.i64.wrap (steps+(1:Int))) (0:Int)).length:Int))))),(34,.x (.one (.p (pi (IntKind.i64.wrap (v+(1:Int)))))))],mkH [(131,.arr 1 (List.map encI w3))]⟩) ?_
          try simp only [thenL,blockL,↓reduceIte,reduceCtorEq]
          exact ⟨((IntKind.i64.wrap (v+(1:Int))),w3),(Option.some.inj H1).symm,imp_au⟩
        · intro b_4
          replace H1:=cneg H1 b_4
          refine lok_exit ?_
          try simp only [thenL,blockL,↓reduceIte,reduceCtorEq]
          have e_1:=k_1 _ (Option.some.inj H1).symm
          subst e_1
          try dsimp only at H0
          try simp only [thenL,blockL,↓reduceIte,reduceCtorEq]
          exact ⟨w1,H0,imp_au⟩
theorem ok_ref35_Interpolate (high:Int) (low:Int) (steps:Int) (r_:(List Int) × Int) (H0:ref35_Interpolate high low steps=some r_):CallOK Tryz.prog 27 [.one (.p (pi high)),.one (.p (pi low)),.one (.p (pi steps))] [] [.one (.p (.sl 1 (List.map encI r_.1))),.one (.p (pi r_.2))] []:=by
  refine callOK (n:=50) (rs:=[.tmp 6,.tmp 7]) (nb:=0) (V:=[]) Tryz.func27 rfl (by kernel_rfl) rfl rfl rfl rfl (Nat.le_of_ble_eq_true rfl) (by decide) ?_
  unfold ref35_Interpolate at H0
  refine lok_rt E0 (⟨50,mkS [(0,.x (.one (.p (pi high)))),(1,.x (.one (.p (pi low)))),(2,.x (.one (.p (pi steps))))],mkH []⟩) ?_
  refine lok_seq ?_
  refine lok_rt E0 (⟨50,mkS [(0,.x (.one (.p (pi high)))),(1,.x (.one (.p (pi low)))),(2,.x (.one (.p (pi steps)))),(28,.x (.one (.p (.val (.bool (((((decide (low<(0:Int)))||(decide (high<low)))||(decide ((200:Int)<high)))||(decide (steps<(1:Int))))||(decide ((8:Int)<steps))))))))],mkH []⟩) ?_
  refine lok_c (((((decide (low<(0:Int)))||(decide (high<low)))||(decide ((200:Int)<high)))||(decide (steps<(1:Int))))||(decide ((8:Int)<steps))) ?_ ?_
  · intro b_5
    replace H0:=cpos H0 b_5
    refine lok_rt E0 (⟨50,mkS [(6,.x (.one (.vw 106))),(7,.x (.one (.p (pi (2:Int)))))],mkH [(106,.arr 1 (List.map encI ([]:List Int)))]⟩) ?_
    refine lok_ret ?_
    obtain rfl:=Option.some.inj H0
    try simp only [thenL,blockL]
    exact fin_au _ (.inr rfl) [] (⟨50,mkS [(6,.x (.one (.p (.sl 1 (List.map encI ([]:List Int)))))),(7,.x (.one (.p (pi (2:Int)))))],mkH []⟩) rfl rfl (Imp.trans (imp_frz 106 1 (List.map encI ([]:List Int))) imp_au)
  · intro b_5
    replace H0:=cneg H0 b_5
    refine lok_skip ?_
    try simp only [thenL,blockL,↓reduceIte,reduceCtorEq]
    refine lok_rt E0 (⟨50,mkS [(0,.x (.one (.p (pi high)))),(1,.x (.one (.p (pi low)))),(2,.x (.one (.p (pi steps)))),(8,.x (.one (.vw 108)))],mkH [(108,.arr 1 (List.map encI ([]:List Int)))]⟩) ?_
    refine lok_join (fun x_:(List Int) => ref35_Interpolate_j1 x_=some r_) (fun x_ => ⟨50,mkS [(8,.x (.one (.vw 108)))],mkH [(108,.arr 1 (List.map encI x_))]⟩) ?hyref35_Interpolate_j1 ?hxref35_Interpolate_j1
    case hyref35_Interpolate_j1 =>
      rintro out H0
      try dsimp only at H0 ⊢
      unfold ref35_Interpolate_j1 at H0
      refine lok_rt E0 (⟨50,mkS [(6,.x (.one (.vw 108))),(7,.x (.one (.p (pi (0:Int)))))],mkH [(108,.arr 1 (List.map encI out))]⟩) ?_
      refine lok_ret ?_
      obtain rfl:=Option.some.inj H0
      try simp only [thenL,blockL]
      exact fin_au _ (.inr rfl) [] (⟨50,mkS [(6,.x (.one (.p (.sl 1 (List.map encI out))))),(7,.x (.one (.p (pi (0:Int)))))],mkH []⟩) rfl rfl (Imp.trans (imp_frz 108 1 (List.map encI out)) imp_au)
    case hxref35_Interpolate_j1 =>
      refine lok_rt E0 (⟨50,mkS [(0,.x (.one (.p (pi high)))),(1,.x (.one (.p (pi low)))),(2,.x (.one (.p (pi steps)))),(8,.x (.one (.vw 108))),(9,.x (.one (.p (pi (0:Int)))))],mkH [(108,.arr 1 (List.map encI ([]:List Int)))]⟩) ?_
      refine lok_block ?_
      replace H0:=bind_some H0
      obtain ⟨v_0,hv_0,H0⟩:=H0
      refine lok_iter (fun x_ => ⟨50,mkS [(0,.x (.one (.p (pi high)))),(1,.x (.one (.p (pi low)))),(2,.x (.one (.p (pi steps)))),(8,.x (.one (.vw 108))),(9,.x (.one (.p (pi x_.1))))],mkH [(108,.arr 1 (List.map encI x_.2))]⟩) hv_0 imp_au ?_
      · rintro ⟨i,out1⟩ o_1 H1 k_1
        unfold ref35_Interpolate_l2 at H1
        try dsimp only at H1 ⊢
        refine lok_seq ?_
        refine lok_rt E0 (⟨50,mkS [(0,.x (.one (.p (pi high)))),(1,.x (.one (.p (pi low)))),(2,.x (.one (.p (pi steps)))),(8,.x (.one (.vw 108))),(9,.x (.one (.p (pi i)))),(31,.x (.one (.p (.val (.bool (decide (i≤steps)))))))],mkH [(108,.arr 1 (List.map encI out1))]⟩) ?_
        refine lok_c (decide (i≤steps)) ?_ ?_
        · intro b_4
          replace H1:=cpos H1 b_4
          refine lok_skip ?_
          try simp only [thenL,blockL,↓reduceIte,reduceCtorEq]
          refine lok_seq ?_
          refine lok_block ?_
          replace H1:=req_some H1
          obtain ⟨⟨q_2,q_3⟩,H1⟩:=H1
          replace H1:=bindV_some H1
          obtain ⟨out3,a_1,H1⟩:=H1
          refine lok_rlg E0 a_1 (⟨50,mkS [(0,.x (.one (.p (pi high)))),(1,.x (.one (.p (pi low)))),(2,.x (.one (.p (pi steps)))),(8,.x (.one (.vw 108))),(9,.x (.one (.p (pi i))))],mkH [(108,.arr 1 (List.map encI out3))]⟩) ?_
          try simp only [thenL,blockL,↓reduceIte,reduceCtorEq]
          refine lok_rl E0 (⟨50,mkS [(0,.x (.one (.p (pi high)))),(1,.x (.one (.p (pi low)))),(2,.x (.one (.p (pi steps)))),(8,.x (.one (.vw 108))),(9,.x (.one (.p (pi (IntKind.i64.wrap (i+(1:Int)))))))],mkH [(108,.arr 1 (List.map encI out3))]⟩) ?_
          try simp only [thenL,blockL,↓reduceIte,reduceCtorEq]
          exact ⟨((IntKind.i64.wrap (i+(1:Int))),out3),(Option.some.inj H1).symm,imp_au⟩
        · intro b_4
          replace H1:=cneg H1 b_4
          refine lok_exit ?_
          try simp only [thenL,blockL,↓reduceIte,reduceCtorEq]
          have e_1:=k_1 _ (Option.some.inj H1).symm
          subst e_1
          try dsimp only at H0
          try simp only [thenL,blockL,↓reduceIte,reduceCtorEq]
          exact ⟨out1,H0,imp_au⟩
theorem ok_mark_Light (l:List Int) (r_:Bool) (H0:mark_Light l=some r_):CallOK Tryz.prog 4 [.one (.p (.sl 1 (List.map encI l)))] [] [.one (.p (.val (.bool r_)))] []:=by
  refine callOK (n:=6) (rs:=[.tmp 2]) (nb:=0) (V:=[]) Tryz.func4 rfl (by kernel_rfl) rfl rfl rfl rfl (Nat.le_of_ble_eq_true rfl) (by decide) ?_
  unfold mark_Light at H0
  refine lok_rt E0 (⟨6,mkS [(0,.x (.one (.p (.sl 1 (List.map encI l)))))],mkH []⟩) ?_
  refine lok_rt E0 (⟨6,mkS [(2,.x (.one (.p (.val (.bool (decide ((l.length:Int)≤(600:Int))))))))],mkH []⟩) ?_
  refine lok_ret ?_
  obtain rfl:=Option.some.inj H0
  try simp only [thenL,blockL]
  exact fin_au _ (.inr rfl) [] (⟨6,mkS [(2,.x (.one (.p (.val (.bool (decide ((l.length:Int)≤(600:Int))))))))],mkH []⟩) rfl rfl imp_au
theorem ok_law35_sane  (r_:Bool) (H0:law35_sane=some r_):CallOK Tryz.prog 5 [] [] [.one (.p (.val (.bool r_)))] []:=by
  refine callOK (n:=76) (rs:=[.tmp 0]) (nb:=0) (V:=[]) Tryz.func5 rfl (by kernel_rfl) rfl rfl rfl rfl (Nat.le_of_ble_eq_true rfl) (by decide) ?_
  unfold law35_sane at H0
  refine lok_rt E0 (⟨76,mkS [],mkH []⟩) ?_
  refine lok_rt E0 (⟨76,mkS [(1,.x (.one (.ptr 101 0)))],mkH [(101,.var [.fl 1 (List.map encI ([(1:Int),(1:Int),(1:Int),(1:Int)]))])]⟩) ?_
  replace H0:=bind_some H0
  obtain ⟨⟨y,y1⟩,h_0,H0⟩:=H0
  try dsimp only at H0
  refine lok_rt (Env.of E0 [⟨some 15,22,[.agg [.p (.sl 1 (List.map encI ([(1:Int),(1:Int),(1:Int),(1:Int)])))],.agg [.p (pi (1:Int)),.p (pi (2:Int))]],[],[.one (.p (pi y)),.one (.p (pi y1))],[],True,fun _ => ok_boundary_Share (api_Distribution.mk ([(1:Int),(1:Int),(1:Int),(1:Int)])) (api_Ratio.mk (1:Int) (2:Int)) (y,y1) h_0,[]⟩]) (⟨76,mkS [(1,.x (.one (.ptr 101 0))),(2,.x (.one (.p (pi y)))),(3,.x (.one (.p (pi y1))))],mkH [(101,.var [.fl 1 (List.map encI ([(1:Int),(1:Int),(1:Int),(1:Int)]))])]⟩) ?_
  replace H0:=bind_some H0
  obtain ⟨⟨y2,y3⟩,h_1,H0⟩:=H0
  try dsimp only at H0
  refine lok_rt (Env.of E0 [⟨some 21,22,[.agg [.p (.sl 1 (List.map encI ([(1:Int),(1:Int),(1:Int),(1:Int)])))],.agg [.p (pi (0:Int)),.p (pi (1:Int))]],[],[.one (.p (pi y2)),.one (.p (pi y3))],[],True,fun _ => ok_boundary_Share (api_Distribution.mk ([(1:Int),(1:Int),(1:Int),(1:Int)])) (api_Ratio.mk (0:Int) (1:Int)) (y2,y3) h_1,[]⟩]) (⟨76,mkS [(1,.x (.one (.ptr 101 0))),(2,.x (.one (.p (pi y)))),(3,.x (.one (.p (pi y1)))),(4,.x (.one (.p (pi y2)))),(5,.x (.one (.p (pi y3))))],mkH [(101,.var [.fl 1 (List.map encI ([(1:Int),(1:Int),(1:Int),(1:Int)]))])]⟩) ?_
  replace H0:=bind_some H0
  obtain ⟨⟨y4,y5⟩,h_2,H0⟩:=H0
  try dsimp only at H0
  refine lok_rt (Env.of E0 [⟨some 25,26,[.one (.p (pi (70:Int))),.one (.p (pi (40:Int))),.one (.p (pi (4:Int)))],[],[.one (.p (.sl 1 (List.map encI y4))),.one (.p (pi y5))],[],True,fun _ => ok_boundary_Interpolate (70:Int) (40:Int) (4:Int) (y4,y5) h_2,[]⟩]) (⟨76,mkS [(1,.x (.one (.ptr 101 0))),(2,.x (.one (.p (pi y)))),(3,.x (.one (.p (pi y1)))),(4,.x (.one (.p (pi y2)))),(5,.x (.one (.p (pi y3)))),(6,.x (.one (.p (.sl 1 (List.map encI y4))))),(7,.x (.one (.p (pi y5))))],mkH [(101,.var [.fl 1 (List.map encI ([(1:Int),(1:Int),(1:Int),(1:Int)]))])]⟩) ?_
  replace H0:=bind_some H0
  obtain ⟨⟨y6,y7⟩,h_3,H0⟩:=H0
  try dsimp only at H0
  refine lok_rt (Env.of E0 [⟨some 31,14,[.agg [.p (.sl 1 (List.map encI ([(1:Int),(1:Int),(1:Int),(1:Int)])))],.one (.p (.sl 1 (List.map encI ([(3:Int),(1:Int)]))))],[],[.one (.p (.sl 1 (List.map encI y6))),.one (.p (pi y7))],[],True,fun _ => ok_boundary_Tally (api_Distribution.mk ([(1:Int),(1:Int),(1:Int),(1:Int)])) ([(3:Int),(1:Int)]) (y6,y7) h_3,[]⟩]) (⟨76,mkS [(2,.x (.one (.p (pi y)))),(3,.x (.one (.p (pi y1)))),(4,.x (.one (.p (pi y2)))),(5,.x (.one (.p (pi y3)))),(6,.x (.one (.p (.sl 1 (List.map encI y4))))),(7,.x (.one (.p (pi y5)))),(8,.x (.one (.p (.sl 1 (List.map encI y6))))),(9,.x (.one (.p (pi y7))))],mkH []⟩) ?_
  replace H0:=req_some H0
  obtain ⟨⟨q_4,q_5,q_6,q_7⟩,H0⟩:=H0
  refine lok_rt (Env.of E0 [⟨some 59,18,[.one (.p (.sl 1 (List.map encI y4))),.one (.p (.sl 1 (List.map encI ([(70:Int),(62:Int),(55:Int),(47:Int),(40:Int)]))))],[],[.one (.p (.val (.bool ((law35_same y4 ([(70:Int),(62:Int),(55:Int),(47:Int),(40:Int)])).getD default))))],[],(law35_same y4 ([(70:Int),(62:Int),(55:Int),(47:Int),(40:Int)])).isSome=true,fun h => ok_law35_same y4 ([(70:Int),(62:Int),(55:Int),(47:Int),(40:Int)]) _ (isSome_get h),[]⟩,
      ⟨some 64,18,[.one (.p (.sl 1 (List.map encI y6))),.one (.p (.sl 1 (List.map encI ([(1:Int),(2:Int),(1:Int)]))))],[],[.one (.p (.val (.bool ((law35_same y6 ([(1:Int),(2:Int),(1:Int)])).getD default))))],[],(law35_same y6 ([(1:Int),(2:Int),(1:Int)])).isSome=true,fun h => ok_law35_same y6 ([(1:Int),(2:Int),(1:Int)]) _ (isSome_get h),[]⟩,
      ⟨some 68,12,[.one (.p (.sl 1 (List.map encI ([(3:Int),(1:Int)])))),.one (.p (pi (2:Int)))],[],[.one (.p (pi ((boundary_Grade ([(3:Int),(1:Int)]) (2:Int)).getD default)))],[],(boundary_Grade ([(3:Int),(1:Int)]) (2:Int)).isSome=true,fun h => ok_boundary_Grade ([(3:Int),(1:Int)]) (2:Int) _ (isSome_get h),[]⟩,
      ⟨some 73,10,[.one (.p (.sl 1 (List.map encI ([(3:Int),(1:Int)])))),.one (.p (pi (3:Int)))],[],[.one (.p (pi ((boundary_Check ([(3:Int),(1:Int)]) (3:Int)).getD default)))],[],(boundary_Check ([(3:Int),(1:Int)]) (3:Int)).isSome=true,fun h => ok_boundary_Check ([(3:Int),(1:Int)]) (3:Int) _ (isSome_get h),[]⟩]) (⟨76,mkS [(0,.x (.one (.p (.val (.bool ((((((((((y1==(0:Int))&&(y3==(0:Int)))&&(y5==(0:Int)))&&(y7==(0:Int)))&&(y==(2:Int)))&&(y2==(4:Int)))&&((law35_same y4 ([(70:Int),(62:Int),(55:Int),(47:Int),(40:Int)])).getD default))&&((law35_same y6 ([(1:Int),(2:Int),(1:Int)])).getD default))&&(((boundary_Grade ([(3:Int),(1:Int)]) (2:Int)).getD default)==(1:Int)))&&(((boundary_Check ([(3:Int),(1:Int)]) (3:Int)).getD default)==(0:Int))))))))],mkH []⟩) ?_
  refine lok_ret ?_
  obtain rfl:=Option.some.inj H0
  try simp only [thenL,blockL]
  exact fin_au _ (.inr rfl) [] (⟨76,mkS [(0,.x (.one (.p (.val (.bool ((((((((((y1==(0:Int))&&(y3==(0:Int)))&&(y5==(0:Int)))&&(y7==(0:Int)))&&(y==(2:Int)))&&(y2==(4:Int)))&&((law35_same y4 ([(70:Int),(62:Int),(55:Int),(47:Int),(40:Int)])).getD default))&&((law35_same y6 ([(1:Int),(2:Int),(1:Int)])).getD default))&&(((boundary_Grade ([(3:Int),(1:Int)]) (2:Int)).getD default)==(1:Int)))&&(((boundary_Check ([(3:Int),(1:Int)]) (3:Int)).getD default)==(0:Int))))))))],mkH []⟩) rfl rfl imp_au
theorem ok_mark_Roll (l:List Int) (r_:mark_Dice) (H0:mark_Roll l=some r_):CallOK Tryz.prog 6 [.one (.p (.sl 1 (List.map encI l)))] [] [.one (.ptr 0 0)] [some (.var [.p (.sl 1 (List.map encI r_.L)),.p (pi r_.At)])]:=by
  refine callOK (n:=6) (rs:=[.tmp 2]) (nb:=0) (V:=[]) Tryz.func6 rfl (by kernel_rfl) rfl rfl rfl rfl (Nat.le_of_ble_eq_true rfl) (by decide) ?_
  unfold mark_Roll at H0
  refine lok_rt E0 (⟨6,mkS [(0,.x (.one (.p (.sl 1 (List.map encI l)))))],mkH []⟩) ?_
  refine lok_rt E0 (⟨6,mkS [(2,.x (.one (.ptr 105 0)))],mkH [(105,.var [.p (.sl 1 (List.map encI l)),.p (pi (0:Int))])]⟩) ?_
  refine lok_ret ?_
  obtain rfl:=Option.some.inj H0
  try simp only [thenL,blockL]
  exact fin_nu [105] _ (.inr rfl) [105] (⟨6,mkS [(2,.x (.one (.ptr 105 0)))],mkH [(105,.var [.p (.sl 1 (List.map encI l)),.p (pi (0:Int))])]⟩) rfl rfl imp_au
theorem ok_mark_Dice_Pick (d:mark_Dice) (l:List Int) (r_:Int × mark_Dice) (H0:mark_Dice_Pick d l=some r_):CallOK Tryz.prog 28 [.one (.ptr 0 0),.one (.p (.sl 1 (List.map encI l)))] [.var [.p (.sl 1 (List.map encI d.L)),.p (pi d.At)]] [.one (.p (pi r_.1))] [some (.var [.p (.sl 1 (List.map encI r_.2.L)),.p (pi r_.2.At)])]:=by
  refine callOK (n:=12) (rs:=[.tmp 4]) (nb:=1) (V:=[0]) Tryz.func28 rfl (by kernel_rfl) rfl rfl rfl rfl (Nat.le_of_ble_eq_true rfl) (by decide) ?_
  unfold mark_Dice_Pick at H0
  refine lok_rt E0 (⟨12,mkS [(0,.x (.one (.ptr 0 0))),(1,.x (.one (.p (.sl 1 (List.map encI l)))))],mkH [(0,.var [.p (.sl 1 (List.map encI d.L)),.p (pi d.At)])]⟩) ?_
  replace H0:=bind_some H0
  obtain ⟨⟨y,y1⟩,h_0,H0⟩:=H0
  try dsimp only at H0
  replace H0:=req_some H0
  obtain ⟨q_1,H0⟩:=H0
  refine lok_rt (Env.of E0 [⟨some 9,9,[.one (.ptr 0 0),.one (.p (pi (l.length:Int)))],[.var [.p (.sl 1 (List.map encI d.L)),.p (pi d.At)]],[.one (.p (pi y))],[some (.var [.p (.sl 1 (List.map encI y1.L)),.p (pi y1.At)])],True,fun _ => ok_mark_Dice_Next d (l.length:Int) (y,y1) h_0,[]⟩]) (⟨12,mkS [(4,.x (.one (.p (pi (ix l y)))))],mkH [(0,.var [.p (.sl 1 (List.map encI y1.L)),.p (pi y1.At)])]⟩) ?_
  refine lok_ret ?_
  obtain rfl:=Option.some.inj H0
  try simp only [thenL,blockL]
  exact fin_au _ (.inr rfl) [0] (⟨12,mkS [(4,.x (.one (.p (pi (ix l y)))))],mkH [(0,.var [.p (.sl 1 (List.map encI y1.L)),.p (pi y1.At)])]⟩) rfl rfl imp_au
set_option maxHeartbeats 4000000 in
theorem ok_mark_Dice_Distribution (d:mark_Dice) (n:Int) (full:Bool) (r_:api_Distribution × mark_Dice) (H0:mark_Dice_Distribution d n full=some r_):CallOK Tryz.prog 7 [.one (.ptr 0 0),.one (.p (pi n)),.one (.p (.val (.bool full)))] [.var [.p (.sl 1 (List.map encI d.L)),.p (pi d.At)]] [.agg [.p (.sl 1 (List.map encI r_.1.Counts))]] [some (.var [.p (.sl 1 (List.map encI r_.2.L)),.p (pi r_.2.At)])]:=by
  refine callOK (n:=31) (rs:=[.cell 6 24]) (nb:=1) (V:=[0]) Tryz.func7 rfl (by kernel_rfl) rfl rfl rfl rfl (Nat.le_of_ble_eq_true rfl) (by decide) ?_
  unfold mark_Dice_Distribution at H0
  refine lok_rt E0 (⟨31,mkS [(0,.x (.one (.ptr 0 0))),(1,.x (.one (.p (pi n)))),(2,.x (.one (.p (.val (.bool full))))),(6,.x (.one (.ptr 106 0)))],mkH [(0,.var [.p (.sl 1 (List.map encI d.L)),.p (pi d.At)]),(106,.var [.p .nil])]⟩) ?_
  refine lok_rt E0 (⟨31,mkS [(0,.x (.one (.ptr 0 0))),(1,.x (.one (.p (pi n)))),(2,.x (.one (.p (.val (.bool full))))),(6,.x (.one (.ptr 106 0))),(7,.x (.one (.ptr 107 0)))],mkH [(0,.var [.p (.sl 1 (List.map encI d.L)),.p (pi d.At)]),(106,.var [.p .nil]),(107,.var [.p .nil])]⟩) ?_
  refine lok_rt E0 (⟨31,mkS [(0,.x (.one (.ptr 0 0))),(1,.x (.one (.p (pi n)))),(2,.x (.one (.p (.val (.bool full))))),(6,.x (.one (.ptr 106 0))),(7,.x (.one (.ptr 107 0))),(8,.x (.one (.p (pi (0:Int)))))],mkH [(0,.var [.p (.sl 1 (List.map encI d.L)),.p (pi d.At)]),(106,.var [.p .nil]),(107,.var [.p .nil])]⟩) ?_
  refine lok_join (fun x_:Int => mark_Dice_Distribution_j3 d n x_=some r_) (fun x_ => ⟨31,mkS [(0,.x (.one (.ptr 0 0))),(1,.x (.one (.p (pi n)))),(6,.x (.one (.ptr 106 0))),(7,.x (.one (.ptr 107 0))),(8,.x (.one (.p (pi x_))))],mkH [(0,.var [.p (.sl 1 (List.map encI d.L)),.p (pi d.At)]),(106,.var [.p .nil]),(107,.var [.p .nil])]⟩) ?hymark_Dice_Distribution_j3 ?hxmark_Dice_Distribution_j3
  case hymark_Dice_Distribution_j3 =>
    rintro least H0
    try dsimp only at H0 ⊢
    unfold mark_Dice_Distribution_j3 at H0
    refine lok_join (fun x_:(List Int) × Int × (List Int) => mark_Dice_Distribution_j1 x_.1 x_.2.1 x_.2.2=some r_) (fun x_ => ⟨31,mkS [(6,.x (.one (.ptr 106 0))),(7,.x (.one (.ptr 107 0)))],mkH [(0,.var [.p (.sl 1 (List.map encI x_.1)),.p (pi x_.2.1)]),(106,.var [.p .nil]),(107,.var [.vw 128]),(128,.arr 1 (List.map encI x_.2.2))]⟩) ?hymark_Dice_Distribution_j1 ?hxmark_Dice_Distribution_j1
    case hymark_Dice_Distribution_j1 =>
      rintro ⟨d1,d2,w⟩ H0
      try dsimp only at H0 ⊢
      unfold mark_Dice_Distribution_j1 at H0
      refine lok_rt E0 (⟨31,mkS [(6,.x (.one (.ptr 106 0)))],mkH [(0,.var [.p (.sl 1 (List.map encI d1)),.p (pi d2)]),(106,.var [.vw 128]),(128,.arr 1 (List.map encI w))]⟩) ?_
      refine lok_ret ?_
      obtain rfl:=Option.some.inj H0
      try simp only [thenL,blockL]
      exact fin_au _ (.inr rfl) [0] (⟨31,mkS [(6,.x (.one (.ptr 106 0)))],mkH [(0,.var [.p (.sl 1 (List.map encI d1)),.p (pi d2)]),(106,.var [.p (.sl 1 (List.map encI w))])]⟩) rfl rfl (Imp.trans (imp_frz 128 1 (List.map encI w)) imp_au)
    case hxmark_Dice_Distribution_j1 =>
      replace H0:=bind_some H0
      obtain ⟨⟨y,y1⟩,h_0,H0⟩:=H0
      try dsimp only at H0
      refine lok_rt (Env.of E0 [⟨some 14,9,[.one (.ptr 0 0),.one (.p (pi (IntKind.i64.wrap (n+(1:Int)))))],[.var [.p (.sl 1 (List.map encI d.L)),.p (pi d.At)]],[.one (.p (pi y))],[some (.var [.p (.sl 1 (List.map encI y1.L)),.p (pi y1.At)])],True,fun _ => ok_mark_Dice_Next d (IntKind.i64.wrap (n+(1:Int))) (y,y1) h_0,[]⟩]) (⟨31,mkS [(0,.x (.one (.ptr 0 0))),(6,.x (.one (.ptr 106 0))),(7,.x (.one (.ptr 107 0))),(8,.x (.one (.p (pi least)))),(9,.x (.one (.p (pi (IntKind.i64.wrap ((1:Int)+y))))))],mkH [(0,.var [.p (.sl 1 (List.map encI y1.L)),.p (pi y1.At)]),(106,.var [.p .nil]),(107,.var [.p .nil])]⟩) ?_
      refine lok_block ?_
      replace H0:=bind_some H0
      obtain ⟨v_1,hv_1,H0⟩:=H0
      refine lok_iter (fun x_ => ⟨31,mkS [(0,.x (.one (.ptr 0 0))),(6,.x (.one (.ptr 106 0))),(7,.x (.one (.ptr 107 0))),(8,.x (.one (.p (pi least)))),(9,.x (.one (.p (pi x_.1))))],mkH [(0,.var [.p (.sl 1 (List.map encI x_.2.1)),.p (pi x_.2.2.1)]),(106,.var [.p .nil]),(107,.var [.vw 128]),(128,.arr 1 (List.map encI x_.2.2.2))]⟩) hv_1 imp_au ?_
      · rintro ⟨i,d3,d4,w1⟩ o_1 H1 k_1
        unfold mark_Dice_Distribution_l2 at H1
        try dsimp only at H1 ⊢
        refine lok_seq ?_
        refine lok_rt E0 (⟨31,mkS [(0,.x (.one (.ptr 0 0))),(6,.x (.one (.ptr 106 0))),(7,.x (.one (.ptr 107 0))),(8,.x (.one (.p (pi least)))),(9,.x (.one (.p (pi i)))),(17,.x (.one (.p (.val (.bool (decide ((0:Int)<i)))))))],mkH [(0,.var [.p (.sl 1 (List.map encI d3)),.p (pi d4)]),(106,.var [.p .nil]),(107,.var [.vw 128]),(128,.arr 1 (List.map encI w1))]⟩) ?_
        refine lok_c (decide ((0:Int)<i)) ?_ ?_
        · intro b_4
          replace H1:=cpos H1 b_4
          refine lok_skip ?_
          try simp only [thenL,blockL,↓reduceIte,reduceCtorEq]
          refine lok_seq ?_
          refine lok_block ?_
          replace H1:=bind_some H1
          obtain ⟨⟨y2,y3⟩,h_2,H1⟩:=H1
          try dsimp only at H1
          replace H1:=req_some H1
          obtain ⟨q_3,H1⟩:=H1
          refine lok_el (Env.of E0 [⟨some 25,28,[.one (.ptr 0 0),.one (.p (.sl 1 (List.map encI ([(0:Int),(1:Int),(2:Int),(5:Int),(0:Int)]))))],[.var [.p (.sl 1 (List.map encI d3)),.p (pi d4)]],[.one (.p (pi y2))],[some (.var [.p (.sl 1 (List.map encI y3.L)),.p (pi y3.At)])],True,fun _ => ok_mark_Dice_Pick (mark_Dice.mk d3 d4) ([(0:Int),(1:Int),(2:Int),(5:Int),(0:Int)]) (y2,y3) h_2,[]⟩]) 31 [⟨[(7,.x (.one (.ptr 107 0)))],[],[(20,.x (.one (.ptr 107 0)))],[],none⟩,
      ⟨[(20,.x (.one (.ptr 107 0)))],[(107,some (.var [.vw 128]))],[(21,.x (.one (.vw 128)))],[],none⟩,
      ⟨[(8,.x (.one (.p (pi least))))],[],[(22,.x (.one (.p (pi least))))],[],none⟩,
      ⟨[(0,.x (.one (.ptr 0 0)))],[],[(23,.x (.one (.ptr 0 0)))],[],none⟩,
      ⟨[],[],[(24,.x (.one (.fl 1 (List.map encI ([(0:Int),(1:Int),(2:Int),(5:Int),(0:Int)])))))],[],none⟩,
      ⟨[(23,.x (.one (.ptr 0 0))),(24,.x (.one (.fl 1 (List.map encI ([(0:Int),(1:Int),(2:Int),(5:Int),(0:Int)])))))],[(0,some (.var [.p (.sl 1 (List.map encI d3)),.p (pi d4)]))],[(25,.x (.one (.p (pi y2))))],[(0,some (.var [.p (.sl 1 (List.map encI y3.L)),.p (pi y3.At)]))],none⟩,
      ⟨[(22,.x (.one (.p (pi least)))),(25,.x (.one (.p (pi y2))))],[],[(26,.x (.one (.p (pi (IntKind.i64.wrap (least+y2))))))],[],none⟩,
      ⟨[(26,.x (.one (.p (pi (IntKind.i64.wrap (least+y2))))))],[],[(27,.x (.one (.fl 1 (List.map encI ([(IntKind.i64.wrap (least+y2))])))))],[],none⟩] (⟨31,mkS [(0,.x (.one (.ptr 0 0))),(6,.x (.one (.ptr 106 0))),(7,.x (.one (.ptr 107 0))),(8,.x (.one (.p (pi least)))),(9,.x (.one (.p (pi i))))],mkH [(0,.var [.p (.sl 1 (List.map encI y3.L)),.p (pi y3.At)]),(106,.var [.p .nil]),(107,.var [.vw 128]),(128,.arr 1 (List.map encI (w1 ++ [(IntKind.i64.wrap (least+y2))])))]⟩) (by kernel_rfl) (by kernel_rfl) (by kernel_rfl) rfl rfl rfl ?_
          try simp only [thenL,blockL,↓reduceIte,reduceCtorEq]
          refine lok_rl E0 (⟨31,mkS [(0,.x (.one (.ptr 0 0))),(6,.x (.one (.ptr 106 0))),(7,.x (.one (.ptr 107 0))),(8,.x (.one (.p (pi least)))),(9,.x (.one (.p (pi (IntKind.i64.wrap (i-(1:Int)))))))],mkH [(0,.var [.p (.sl 1 (List.map encI y3.L)),.p (pi y3.At)]),(106,.var [.p .nil]),(107,.var [.vw 128]),(128,.arr 1 (List.map encI (w1 ++ [(IntKind.i64.wrap (least+y2))])))]⟩) ?_
          try simp only [thenL,blockL,↓reduceIte,reduceCtorEq]
          exact ⟨((IntKind.i64.wrap (i-(1:Int))),y3.L,y3.At,(w1 ++ [(IntKind.i64.wrap (least+y2))])),(Option.some.inj H1).symm,imp_au⟩
        · intro b_4
          replace H1:=cneg H1 b_4
          refine lok_exit ?_
          try simp only [thenL,blockL,↓reduceIte,reduceCtorEq]
          have e_1:=k_1 _ (Option.some.inj H1).symm
          subst e_1
          try dsimp only at H0
          try simp only [thenL,blockL,↓reduceIte,reduceCtorEq]
          exact ⟨(d3,d4,w1),H0,imp_au⟩
  case hxmark_Dice_Distribution_j3 =>
    refine lok_rt E0 (⟨31,mkS [(0,.x (.one (.ptr 0 0))),(1,.x (.one (.p (pi n)))),(6,.x (.one (.ptr 106 0))),(7,.x (.one (.ptr 107 0))),(8,.x (.one (.p (pi (0:Int))))),(10,.x (.one (.p (.val (.bool full)))))],mkH [(0,.var [.p (.sl 1 (List.map encI d.L)),.p (pi d.At)]),(106,.var [.p .nil]),(107,.var [.p .nil])]⟩) ?_
    refine lok_c full ?_ ?_
    · intro b_5
      replace H0:=cpos H0 b_5
      refine lok_rl E0 (⟨31,mkS [(0,.x (.one (.ptr 0 0))),(1,.x (.one (.p (pi n)))),(6,.x (.one (.ptr 106 0))),(7,.x (.one (.ptr 107 0))),(8,.x (.one (.p (pi (1:Int)))))],mkH [(0,.var [.p (.sl 1 (List.map encI d.L)),.p (pi d.At)]),(106,.var [.p .nil]),(107,.var [.p .nil])]⟩) ?_
      try simp only [thenL,blockL,↓reduceIte,reduceCtorEq]
      exact ⟨(1:Int),H0,imp_au⟩
    · intro b_5
      replace H0:=cneg H0 b_5
      refine lok_skip ?_
      try simp only [thenL,blockL,↓reduceIte,reduceCtorEq]
      exact ⟨(0:Int),H0,imp_au⟩
theorem ok_mark_Dice_Bounds (d:mark_Dice) (most:Int) (r_:(List Int) × mark_Dice) (H0:mark_Dice_Bounds d most=some r_):CallOK Tryz.prog 8 [.one (.ptr 0 0),.one (.p (pi most))] [.var [.p (.sl 1 (List.map encI d.L)),.p (pi d.At)]] [.one (.p (.sl 1 (List.map encI r_.1)))] [some (.var [.p (.sl 1 (List.map encI r_.2.L)),.p (pi r_.2.At)])]:=by
  refine callOK (n:=29) (rs:=[.tmp 4]) (nb:=1) (V:=[0]) Tryz.func8 rfl (by kernel_rfl) rfl rfl rfl rfl (Nat.le_of_ble_eq_true rfl) (by decide) ?_
  unfold mark_Dice_Bounds at H0
  refine lok_rt E0 (⟨29,mkS [(0,.x (.one (.ptr 0 0))),(1,.x (.one (.p (pi most))))],mkH [(0,.var [.p (.sl 1 (List.map encI d.L)),.p (pi d.At)])]⟩) ?_
  refine lok_rt E0 (⟨29,mkS [(0,.x (.one (.ptr 0 0))),(1,.x (.one (.p (pi most)))),(5,.x (.one (.vw 105)))],mkH [(0,.var [.p (.sl 1 (List.map encI d.L)),.p (pi d.At)]),(105,.arr 1 (List.map encI ([]:List Int)))]⟩) ?_
  refine lok_rt E0 (⟨29,mkS [(0,.x (.one (.ptr 0 0))),(5,.x (.one (.vw 105))),(6,.x (.one (.p (pi (IntKind.i64.wrap (most+(1:Int)))))))],mkH [(0,.var [.p (.sl 1 (List.map encI d.L)),.p (pi d.At)]),(105,.arr 1 (List.map encI ([]:List Int)))]⟩) ?_
  refine lok_join (fun x_:(List Int) × Int × (List Int) => mark_Dice_Bounds_j1 x_.1 x_.2.1 x_.2.2=some r_) (fun x_ => ⟨29,mkS [(5,.x (.one (.vw 105)))],mkH [(0,.var [.p (.sl 1 (List.map encI x_.1)),.p (pi x_.2.1)]),(105,.arr 1 (List.map encI x_.2.2))]⟩) ?hymark_Dice_Bounds_j1 ?hxmark_Dice_Bounds_j1
  case hymark_Dice_Bounds_j1 =>
    rintro ⟨d1,d2,out⟩ H0
    try dsimp only at H0 ⊢
    unfold mark_Dice_Bounds_j1 at H0
    refine lok_rt E0 (⟨29,mkS [(4,.x (.one (.vw 105)))],mkH [(0,.var [.p (.sl 1 (List.map encI d1)),.p (pi d2)]),(105,.arr 1 (List.map encI out))]⟩) ?_
    refine lok_ret ?_
    obtain rfl:=Option.some.inj H0
    try simp only [thenL,blockL]
    exact fin_au _ (.inr rfl) [0] (⟨29,mkS [(4,.x (.one (.p (.sl 1 (List.map encI out)))))],mkH [(0,.var [.p (.sl 1 (List.map encI d1)),.p (pi d2)])]⟩) rfl rfl (Imp.trans (imp_frz 105 1 (List.map encI out)) imp_au)
  case hxmark_Dice_Bounds_j1 =>
    replace H0:=bind_some H0
    obtain ⟨⟨y,y1⟩,h_0,H0⟩:=H0
    try dsimp only at H0
    refine lok_rt (Env.of E0 [⟨some 11,9,[.one (.ptr 0 0),.one (.p (pi (4:Int)))],[.var [.p (.sl 1 (List.map encI d.L)),.p (pi d.At)]],[.one (.p (pi y))],[some (.var [.p (.sl 1 (List.map encI y1.L)),.p (pi y1.At)])],True,fun _ => ok_mark_Dice_Next d (4:Int) (y,y1) h_0,[]⟩]) (⟨29,mkS [(0,.x (.one (.ptr 0 0))),(5,.x (.one (.vw 105))),(6,.x (.one (.p (pi (IntKind.i64.wrap (most+(1:Int))))))),(7,.x (.one (.p (pi (IntKind.i64.wrap ((1:Int)+y))))))],mkH [(0,.var [.p (.sl 1 (List.map encI y1.L)),.p (pi y1.At)]),(105,.arr 1 (List.map encI ([]:List Int)))]⟩) ?_
    refine lok_block ?_
    replace H0:=bind_some H0
    obtain ⟨v_1,hv_1,H0⟩:=H0
    refine lok_iter (fun x_ => ⟨29,mkS [(0,.x (.one (.ptr 0 0))),(5,.x (.one (.vw 105))),(6,.x (.one (.p (pi x_.1)))),(7,.x (.one (.p (pi x_.2.1))))],mkH [(0,.var [.p (.sl 1 (List.map encI x_.2.2.1)),.p (pi x_.2.2.2.1)]),(105,.arr 1 (List.map encI x_.2.2.2.2))]⟩) hv_1 imp_au ?_
    · rintro ⟨b,i,d3,d4,out1⟩ o_1 H1 k_1
      unfold mark_Dice_Bounds_l2 at H1
      try dsimp only at H1 ⊢
      refine lok_seq ?_
      refine lok_rt E0 (⟨29,mkS [(0,.x (.one (.ptr 0 0))),(5,.x (.one (.vw 105))),(6,.x (.one (.p (pi b)))),(7,.x (.one (.p (pi i)))),(14,.x (.one (.p (.val (.bool (decide ((0:Int)<i)))))))],mkH [(0,.var [.p (.sl 1 (List.map encI d3)),.p (pi d4)]),(105,.arr 1 (List.map encI out1))]⟩) ?_
      refine lok_c (decide ((0:Int)<i)) ?_ ?_
      · intro b_4
        replace H1:=cpos H1 b_4
        refine lok_skip ?_
        try simp only [thenL,blockL,↓reduceIte,reduceCtorEq]
        refine lok_seq ?_
        refine lok_block ?_
        replace H1:=bind_some H1
        obtain ⟨⟨y2,y3⟩,h_2,H1⟩:=H1
        try dsimp only at H1
        refine lok_rt (Env.of E0 [⟨some 22,9,[.one (.ptr 0 0),.one (.p (pi (IntKind.i64.wrap ((IntKind.i64.wrap (Int.tdiv b (2:Int)))+(1:Int)))))],[.var [.p (.sl 1 (List.map encI d3)),.p (pi d4)]],[.one (.p (pi y2))],[some (.var [.p (.sl 1 (List.map encI y3.L)),.p (pi y3.At)])],True,fun _ => ok_mark_Dice_Next (mark_Dice.mk d3 d4) (IntKind.i64.wrap ((IntKind.i64.wrap (Int.tdiv b (2:Int)))+(1:Int))) (y2,y3) h_2,[]⟩]) (⟨29,mkS [(0,.x (.one (.ptr 0 0))),(5,.x (.one (.vw 105))),(6,.x (.one (.p (pi (IntKind.i64.wrap (b-y2)))))),(7,.x (.one (.p (pi i))))],mkH [(0,.var [.p (.sl 1 (List.map encI y3.L)),.p (pi y3.At)]),(105,.arr 1 (List.map encI out1))]⟩) ?_
        replace H1:=req_some H1
        obtain ⟨q_3,H1⟩:=H1
        refine lok_rl E0 (⟨29,mkS [(0,.x (.one (.ptr 0 0))),(5,.x (.one (.vw 105))),(6,.x (.one (.p (pi (IntKind.i64.wrap (b-y2)))))),(7,.x (.one (.p (pi i))))],mkH [(0,.var [.p (.sl 1 (List.map encI y3.L)),.p (pi y3.At)]),(105,.arr 1 (List.map encI (out1 ++ [(IntKind.i64.wrap (b-y2))])))]⟩) ?_
        try simp only [thenL,blockL,↓reduceIte,reduceCtorEq]
        refine lok_rl E0 (⟨29,mkS [(0,.x (.one (.ptr 0 0))),(5,.x (.one (.vw 105))),(6,.x (.one (.p (pi (IntKind.i64.wrap (b-y2)))))),(7,.x (.one (.p (pi (IntKind.i64.wrap (i-(1:Int)))))))],mkH [(0,.var [.p (.sl 1 (List.map encI y3.L)),.p (pi y3.At)]),(105,.arr 1 (List.map encI (out1 ++ [(IntKind.i64.wrap (b-y2))])))]⟩) ?_
        try simp only [thenL,blockL,↓reduceIte,reduceCtorEq]
        exact ⟨((IntKind.i64.wrap (b-y2)),(IntKind.i64.wrap (i-(1:Int))),y3.L,y3.At,(out1 ++ [(IntKind.i64.wrap (b-y2))])),(Option.some.inj H1).symm,imp_au⟩
      · intro b_4
        replace H1:=cneg H1 b_4
        refine lok_exit ?_
        try simp only [thenL,blockL,↓reduceIte,reduceCtorEq]
        have e_1:=k_1 _ (Option.some.inj H1).symm
        subst e_1
        try dsimp only at H0
        try simp only [thenL,blockL,↓reduceIte,reduceCtorEq]
        exact ⟨(d3,d4,out1),H0,imp_au⟩
set_option maxHeartbeats 4000000 in
theorem ok_law35_BoundaryExact (t:List Int) (raw:List Int) (x:api_Distribution) (share:api_Ratio) (curve:api_Curve) (m:Int) (most:Int) (r_:Bool) (H0:law35_BoundaryExact t raw x share curve m most=some r_):CallOK Tryz.prog 3 [.one (.p (.sl 1 (List.map encI t))),.one (.p (.sl 1 (List.map encI raw))),.agg [.p (.sl 1 (List.map encI x.Counts))],.agg [.p (pi share.Num),.p (pi share.Den)],.agg [.p (.sl 4 (List.map enc_api_Point curve.Points))],.one (.p (pi m)),.one (.p (pi most))] [] [.one (.p (.val (.bool r_)))] []:=by
  refine callOK (n:=349) (rs:=[.tmp 14]) (nb:=0) (V:=[]) Tryz.func3 rfl (by kernel_rfl) rfl rfl rfl rfl (Nat.le_of_ble_eq_true rfl) (by decide) ?_
  unfold law35_BoundaryExact at H0
  refine lok_rt E0 (⟨349,mkS [(0,.x (.one (.p (.sl 1 (List.map encI t))))),(1,.x (.one (.p (.sl 1 (List.map encI raw))))),(5,.x (.one (.p (pi m)))),(6,.x (.one (.p (pi most)))),(9,.x (.one (.ptr 109 0))),(10,.x (.one (.ptr 110 0))),(11,.x (.one (.ptr 111 0)))],mkH [(109,.var [.p (.sl 1 (List.map encI x.Counts))]),(110,.var [.p (pi share.Num),.p (pi share.Den)]),(111,.var [.p (.sl 4 (List.map enc_api_Point curve.Points))])]⟩) ?_
  refine lok_seq ?_
  replace H0:=bind_some H0
  obtain ⟨y,h_0,H0⟩:=H0
  refine lok_rt (Env.of E0 [⟨some 61,4,[.one (.p (.sl 1 (List.map encI t)))],[],[.one (.p (.val (.bool y)))],[],True,fun _ => ok_mark_Light t y h_0,[]⟩]) (⟨349,mkS [(0,.x (.one (.p (.sl 1 (List.map encI t))))),(1,.x (.one (.p (.sl 1 (List.map encI raw))))),(5,.x (.one (.p (pi m)))),(6,.x (.one (.p (pi most)))),(9,.x (.one (.ptr 109 0))),(10,.x (.one (.ptr 110 0))),(11,.x (.one (.ptr 111 0))),(79,.x (.one (.p (.val (.bool ((((!y)||(decide ((20:Int)<(raw.length:Int))))||(decide ((40:Int)<(x.Counts.length:Int))))||(decide ((20:Int)<(curve.Points.length:Int)))))))))],mkH [(109,.var [.p (.sl 1 (List.map encI x.Counts))]),(110,.var [.p (pi share.Num),.p (pi share.Den)]),(111,.var [.p (.sl 4 (List.map enc_api_Point curve.Points))])]⟩) ?_
  refine lok_c ((((!y)||(decide ((20:Int)<(raw.length:Int))))||(decide ((40:Int)<(x.Counts.length:Int))))||(decide ((20:Int)<(curve.Points.length:Int)))) ?_ ?_
  · intro b_69
    replace H0:=cpos H0 b_69
    replace H0:=bind_some H0
    obtain ⟨y1,h_1,H0⟩:=H0
    refine lok_rt (Env.of E0 [⟨some 80,5,[],[],[.one (.p (.val (.bool y1)))],[],True,fun _ => ok_law35_sane y1 h_1,[]⟩]) (⟨349,mkS [(14,.x (.one (.p (.val (.bool y1)))))],mkH []⟩) ?_
    refine lok_ret ?_
    obtain rfl:=Option.some.inj H0
    try simp only [thenL,blockL]
    exact fin_au _ (.inr rfl) [] (⟨349,mkS [(14,.x (.one (.p (.val (.bool y1)))))],mkH []⟩) rfl rfl imp_au
  · intro b_69
    replace H0:=cneg H0 b_69
    refine lok_skip ?_
    try simp only [thenL,blockL,↓reduceIte,reduceCtorEq]
    replace H0:=bind_some H0
    obtain ⟨y2,h_2,H0⟩:=H0
    refine lok_rt (Env.of E0 [⟨some 82,6,[.one (.p (.sl 1 (List.map encI t)))],[],[.one (.ptr 0 0)],[some (.var [.p (.sl 1 (List.map encI y2.L)),.p (pi y2.At)])],True,fun _ => ok_mark_Roll t y2 h_2,[]⟩]) (⟨349,mkS [(1,.x (.one (.p (.sl 1 (List.map encI raw))))),(5,.x (.one (.p (pi m)))),(6,.x (.one (.p (pi most)))),(9,.x (.one (.ptr 109 0))),(10,.x (.one (.ptr 110 0))),(11,.x (.one (.ptr 111 0))),(15,.x (.one (.ptr 1082 0)))],mkH [(109,.var [.p (.sl 1 (List.map encI x.Counts))]),(110,.var [.p (pi share.Num),.p (pi share.Den)]),(111,.var [.p (.sl 4 (List.map enc_api_Point curve.Points))]),(1082,.var [.p (.sl 1 (List.map encI y2.L)),.p (pi y2.At)])]⟩) ?_
    replace H0:=bind_some H0
    obtain ⟨⟨y3,y4⟩,h_3,H0⟩:=H0
    try dsimp only at H0
    replace H0:=bind_some H0
    obtain ⟨⟨y5,y6⟩,h_4,H0⟩:=H0
    try dsimp only at H0
    refine lok_rt (Env.of E0 [⟨some 84,7,[.one (.ptr 0 0),.one (.p (pi (9:Int))),.one (.p (.val (.bool false)))],[.var [.p (.sl 1 (List.map encI y2.L)),.p (pi y2.At)]],[.agg [.p (.sl 1 (List.map encI y3.Counts))]],[some (.var [.p (.sl 1 (List.map encI y4.L)),.p (pi y4.At)])],True,fun _ => ok_mark_Dice_Distribution y2 (9:Int) false (y3,y4) h_3,[]⟩,
      ⟨some 86,7,[.one (.ptr 0 0),.one (.p (pi (9:Int))),.one (.p (.val (.bool false)))],[.var [.p (.sl 1 (List.map encI y4.L)),.p (pi y4.At)]],[.agg [.p (.sl 1 (List.map encI y5.Counts))]],[some (.var [.p (.sl 1 (List.map encI y6.L)),.p (pi y6.At)])],True,fun _ => ok_mark_Dice_Distribution y4 (9:Int) false (y5,y6) h_4,[]⟩]) (⟨349,mkS [(1,.x (.one (.p (.sl 1 (List.map encI raw))))),(5,.x (.one (.p (pi m)))),(6,.x (.one (.p (pi most)))),(9,.x (.one (.ptr 109 0))),(10,.x (.one (.ptr 110 0))),(11,.x (.one (.ptr 111 0))),(15,.x (.one (.ptr 1082 0))),(16,.x (.one (.ptr 116 0))),(17,.x (.one (.ptr 117 0)))],mkH [(109,.var [.p (.sl 1 (List.map encI x.Counts))]),(110,.var [.p (pi share.Num),.p (pi share.Den)]),(111,.var [.p (.sl 4 (List.map enc_api_Point curve.Points))]),(116,.var [.p (.sl 1 (List.map encI y3.Counts))]),(117,.var [.p (.sl 1 (List.map encI y5.Counts))]),(1082,.var [.p (.sl 1 (List.map encI y6.L)),.p (pi y6.At)])]⟩) ?_
    replace H0:=bind_some H0
    obtain ⟨⟨y7,y8⟩,h_5,H0⟩:=H0
    try dsimp only at H0
    refine lok_rt (Env.of E0 [⟨some 92,8,[.one (.ptr 0 0),.one (.p (pi (IntKind.i64.wrap ((y5.Counts.length:Int)-(1:Int)))))],[.var [.p (.sl 1 (List.map encI y6.L)),.p (pi y6.At)]],[.one (.p (.sl 1 (List.map encI y7)))],[some (.var [.p (.sl 1 (List.map encI y8.L)),.p (pi y8.At)])],True,fun _ => ok_mark_Dice_Bounds y6 (IntKind.i64.wrap ((y5.Counts.length:Int)-(1:Int))) (y7,y8) h_5,[]⟩]) (⟨349,mkS [(1,.x (.one (.p (.sl 1 (List.map encI raw))))),(5,.x (.one (.p (pi m)))),(6,.x (.one (.p (pi most)))),(9,.x (.one (.ptr 109 0))),(10,.x (.one (.ptr 110 0))),(11,.x (.one (.ptr 111 0))),(15,.x (.one (.ptr 1082 0))),(16,.x (.one (.ptr 116 0))),(17,.x (.one (.ptr 117 0))),(18,.x (.one (.p (.sl 1 (List.map encI y7)))))],mkH [(109,.var [.p (.sl 1 (List.map encI x.Counts))]),(110,.var [.p (pi share.Num),.p (pi share.Den)]),(111,.var [.p (.sl 4 (List.map enc_api_Point curve.Points))]),(116,.var [.p (.sl 1 (List.map encI y3.Counts))]),(117,.var [.p (.sl 1 (List.map encI y5.Counts))]),(1082,.var [.p (.sl 1 (List.map encI y8.L)),.p (pi y8.At)])]⟩) ?_
    replace H0:=req_some H0
    obtain ⟨q_67,H0⟩:=H0
    replace H0:=bind_some H0
    obtain ⟨⟨y9,y10⟩,h_6,H0⟩:=H0
    try dsimp only at H0
    replace H0:=req_some H0
    obtain ⟨q_68,H0⟩:=H0
    refine lok_rt (Env.of E0 [⟨some 96,9,[.one (.ptr 0 0),.one (.p (pi (12:Int)))],[.var [.p (.sl 1 (List.map encI y8.L)),.p (pi y8.At)]],[.one (.p (pi y9))],[some (.var [.p (.sl 1 (List.map encI y10.L)),.p (pi y10.At)])],True,fun _ => ok_mark_Dice_Next y8 (12:Int) (y9,y10) h_6,[]⟩]) (⟨349,mkS [(1,.x (.one (.p (.sl 1 (List.map encI raw))))),(5,.x (.one (.p (pi m)))),(6,.x (.one (.p (pi most)))),(9,.x (.one (.ptr 109 0))),(10,.x (.one (.ptr 110 0))),(11,.x (.one (.ptr 111 0))),(15,.x (.one (.ptr 1082 0))),(16,.x (.one (.ptr 116 0))),(17,.x (.one (.ptr 117 0))),(18,.x (.one (.p (.sl 1 (List.map encI y7))))),(19,.x (.one (.vw 194)))],mkH [(109,.var [.p (.sl 1 (List.map encI x.Counts))]),(110,.var [.p (pi share.Num),.p (pi share.Den)]),(111,.var [.p (.sl 4 (List.map enc_api_Point curve.Points))]),(116,.var [.p (.sl 1 (List.map encI y3.Counts))]),(117,.var [.p (.sl 1 (List.map encI y5.Counts))]),(194,.arr 1 (List.map encI (y7 ++ [(IntKind.i64.wrap (y9-(1:Int)))]))),(1082,.var [.p (.sl 1 (List.map encI y10.L)),.p (pi y10.At)])]⟩) ?_
    refine lok_join (fun x_:(List Int) × Int => law35_BoundaryExact_j7 x share m most y3 y5 x_.1 x_.2=some r_) (fun x_ => ⟨349,mkS [(5,.x (.one (.p (pi m)))),(6,.x (.one (.p (pi most)))),(9,.x (.one (.ptr 109 0))),(10,.x (.one (.ptr 110 0))),(15,.x (.one (.ptr 1082 0))),(16,.x (.one (.ptr 116 0))),(17,.x (.one (.ptr 117 0)))],mkH [(109,.var [.p (.sl 1 (List.map encI x.Counts))]),(110,.var [.p (pi share.Num),.p (pi share.Den)]),(116,.var [.p (.sl 1 (List.map encI y3.Counts))]),(117,.var [.p (.sl 1 (List.map encI y5.Counts))]),(1082,.var [.p (.sl 1 (List.map encI x_.1)),.p (pi x_.2)])]⟩) ?hylaw35_BoundaryExact_j7 ?hxlaw35_BoundaryExact_j7
    case hylaw35_BoundaryExact_j7 =>
      rintro ⟨w,w1⟩ H0
      try dsimp only at H0 ⊢
      unfold law35_BoundaryExact_j7 at H0
      refine lok_join (fun x_:(List Int) × Int => law35_BoundaryExact_j3 m most x_.1 x_.2=some r_) (fun x_ => ⟨349,mkS [(5,.x (.one (.p (pi m)))),(6,.x (.one (.p (pi most)))),(15,.x (.one (.ptr 1082 0)))],mkH [(1082,.var [.p (.sl 1 (List.map encI x_.1)),.p (pi x_.2)])]⟩) ?hylaw35_BoundaryExact_j3 ?hxlaw35_BoundaryExact_j3
      case hylaw35_BoundaryExact_j3 =>
        rintro ⟨w2,w3⟩ H0
        try dsimp only at H0 ⊢
        unfold law35_BoundaryExact_j3 at H0
        refine lok_join (fun x_:Unit => law35_BoundaryExact_j1=some r_) (fun x_ => ⟨349,mkS [],mkH []⟩) ?hylaw35_BoundaryExact_j1 ?hxlaw35_BoundaryExact_j1
        case hylaw35_BoundaryExact_j1 =>
          rintro _ H0
          try dsimp only at H0 ⊢
          unfold law35_BoundaryExact_j1 at H0
          replace H0:=bind_some H0
          obtain ⟨y11,h_7,H0⟩:=H0
          refine lok_rt (Env.of E0 [⟨some 348,5,[],[],[.one (.p (.val (.bool y11)))],[],True,fun _ => ok_law35_sane y11 h_7,[]⟩]) (⟨349,mkS [(14,.x (.one (.p (.val (.bool y11)))))],mkH []⟩) ?_
          refine lok_ret ?_
          obtain rfl:=Option.some.inj H0
          try simp only [thenL,blockL]
          exact fin_au _ (.inr rfl) [] (⟨349,mkS [(14,.x (.one (.p (.val (.bool y11)))))],mkH []⟩) rfl rfl imp_au
        case hxlaw35_BoundaryExact_j1 =>
          replace H0:=bind_some H0
          obtain ⟨⟨y12,y13⟩,h_8,H0⟩:=H0
          try dsimp only at H0
          replace H0:=bind_some H0
          obtain ⟨⟨y14,y15⟩,h_9,H0⟩:=H0
          try dsimp only at H0
          replace H0:=bind_some H0
          obtain ⟨⟨y16,y17⟩,h_10,H0⟩:=H0
          try dsimp only at H0
          replace H0:=bind_some H0
          obtain ⟨⟨y18,y19⟩,h_11,H0⟩:=H0
          try dsimp only at H0
          refine lok_rt (Env.of E0 [⟨some 303,9,[.one (.ptr 0 0),.one (.p (pi (11:Int)))],[.var [.p (.sl 1 (List.map encI w2)),.p (pi w3)]],[.one (.p (pi y12))],[some (.var [.p (.sl 1 (List.map encI y13.L)),.p (pi y13.At)])],True,fun _ => ok_mark_Dice_Next (mark_Dice.mk w2 w3) (11:Int) (y12,y13) h_8,[]⟩,
      ⟨some 306,9,[.one (.ptr 0 0),.one (.p (pi (200:Int)))],[.var [.p (.sl 1 (List.map encI y13.L)),.p (pi y13.At)]],[.one (.p (pi y14))],[some (.var [.p (.sl 1 (List.map encI y15.L)),.p (pi y15.At)])],True,fun _ => ok_mark_Dice_Next y13 (200:Int) (y14,y15) h_9,[]⟩,
      ⟨some 308,9,[.one (.ptr 0 0),.one (.p (pi (80:Int)))],[.var [.p (.sl 1 (List.map encI y15.L)),.p (pi y15.At)]],[.one (.p (pi y16))],[some (.var [.p (.sl 1 (List.map encI y17.L)),.p (pi y17.At)])],True,fun _ => ok_mark_Dice_Next y15 (80:Int) (y16,y17) h_10,[]⟩,
      ⟨some 310,9,[.one (.ptr 0 0),.one (.p (pi (9:Int)))],[.var [.p (.sl 1 (List.map encI y17.L)),.p (pi y17.At)]],[.one (.p (pi y18))],[some (.var [.p (.sl 1 (List.map encI y19.L)),.p (pi y19.At)])],True,fun _ => ok_mark_Dice_Next y17 (9:Int) (y18,y19) h_11,[]⟩]) (⟨349,mkS [(314,.x (.agg [.p (pi m),.p (pi most),.p (pi y12),.p (pi y14),.p (pi y16),.p (pi (IntKind.i64.wrap ((1:Int)+y18))),.p (pi (70:Int)),.p (pi (40:Int)),.p (pi (3:Int))])),(315,.x (.one (.p (pi (0:Int)))))],mkH []⟩) ?_
          refine lok_block ?_
          replace H0:=bind_some H0
          obtain ⟨v_12,hv_12,H0⟩:=H0
          refine lok_iter (fun x_ => ⟨349,mkS [(314,.x (.agg [.p (pi m),.p (pi most),.p (pi y12),.p (pi y14),.p (pi y16),.p (pi (IntKind.i64.wrap ((1:Int)+y18))),.p (pi (70:Int)),.p (pi (40:Int)),.p (pi (3:Int))])),(315,.x (.one (.p (pi x_))))],mkH []⟩) hv_12 imp_au ?_
          · rintro v o_1 H1 k_1
            unfold law35_BoundaryExact_l2 at H1
            try dsimp only at H1 ⊢
            refine lok_rt E0 (⟨349,mkS [(314,.x (.agg [.p (pi m),.p (pi most),.p (pi y12),.p (pi y14),.p (pi y16),.p (pi (IntKind.i64.wrap ((1:Int)+y18))),.p (pi (70:Int)),.p (pi (40:Int)),.p (pi (3:Int))])),(315,.x (.one (.p (pi v)))),(316,.x (.one (.p (.val (.bool (decide (v<(3:Int))))))))],mkH []⟩) ?_
            refine lok_seq ?_
            refine lok_c (decide (v<(3:Int))) ?_ ?_
            · intro b_21
              replace H1:=cpos H1 b_21
              refine lok_skip ?_
              try simp only [thenL,blockL,↓reduceIte,reduceCtorEq]
              refine lok_seq ?_
              refine lok_block ?_
              replace H1:=req_some H1
              obtain ⟨q_20,H1⟩:=H1
              replace H1:=bindV_some H1
              obtain ⟨k,a_13,H1⟩:=H1
              replace H1:=bindV_some H1
              obtain ⟨k1,a_14,H1⟩:=H1
              replace H1:=bindV_some H1
              obtain ⟨k2,a_15,H1⟩:=H1
              refine lok_rtg E0 (And.intro a_13 (And.intro a_14 a_15)) (⟨349,mkS [(55,.x (.one (.ptr 155 0))),(314,.x (.agg [.p (pi m),.p (pi most),.p (pi y12),.p (pi y14),.p (pi y16),.p (pi (IntKind.i64.wrap ((1:Int)+y18))),.p (pi (70:Int)),.p (pi (40:Int)),.p (pi (3:Int))])),(315,.x (.one (.p (pi v))))],mkH [(155,.var [.p (pi k),.p (pi k1),.p (pi k2)])]⟩) ?_
              replace H1:=bind_some H1
              obtain ⟨⟨y20,y21⟩,h_16,H1⟩:=H1
              try dsimp only at H1
              refine lok_rt (Env.of E0 [⟨some 325,26,[.one (.p (pi k)),.one (.p (pi k1)),.one (.p (pi k2))],[],[.one (.p (.sl 1 (List.map encI y20))),.one (.p (pi y21))],[],True,fun _ => ok_boundary_Interpolate k k1 k2 (y20,y21) h_16,[]⟩]) (⟨349,mkS [(55,.x (.one (.ptr 155 0))),(56,.x (.one (.p (.sl 1 (List.map encI y20))))),(57,.x (.one (.p (pi y21)))),(314,.x (.agg [.p (pi m),.p (pi most),.p (pi y12),.p (pi y14),.p (pi y16),.p (pi (IntKind.i64.wrap ((1:Int)+y18))),.p (pi (70:Int)),.p (pi (40:Int)),.p (pi (3:Int))])),(315,.x (.one (.p (pi v))))],mkH [(155,.var [.p (pi k),.p (pi k1),.p (pi k2)])]⟩) ?_
              replace H1:=bind_some H1
              obtain ⟨⟨y22,y23⟩,h_17,H1⟩:=H1
              try dsimp only at H1
              refine lok_rt (Env.of E0 [⟨some 335,27,[.one (.p (pi k)),.one (.p (pi k1)),.one (.p (pi k2))],[],[.one (.p (.sl 1 (List.map encI y22))),.one (.p (pi y23))],[],True,fun _ => ok_ref35_Interpolate k k1 k2 (y22,y23) h_17,[]⟩]) (⟨349,mkS [(56,.x (.one (.p (.sl 1 (List.map encI y20))))),(57,.x (.one (.p (pi y21)))),(58,.x (.one (.p (.sl 1 (List.map encI y22))))),(59,.x (.one (.p (pi y23)))),(314,.x (.agg [.p (pi m),.p (pi most),.p (pi y12),.p (pi y14),.p (pi y16),.p (pi (IntKind.i64.wrap ((1:Int)+y18))),.p (pi (70:Int)),.p (pi (40:Int)),.p (pi (3:Int))])),(315,.x (.one (.p (pi v))))],mkH []⟩) ?_
              replace H1:=bind_some H1
              obtain ⟨y24,h_18,H1⟩:=H1
              refine lok_rt (Env.of E0 [⟨some 340,18,[.one (.p (.sl 1 (List.map encI y20))),.one (.p (.sl 1 (List.map encI y22)))],[],[.one (.p (.val (.bool y24)))],[],True,fun _ => ok_law35_same y20 y22 y24 h_18,[]⟩]) (⟨349,mkS [(314,.x (.agg [.p (pi m),.p (pi most),.p (pi y12),.p (pi y14),.p (pi y16),.p (pi (IntKind.i64.wrap ((1:Int)+y18))),.p (pi (70:Int)),.p (pi (40:Int)),.p (pi (3:Int))])),(315,.x (.one (.p (pi v)))),(346,.x (.one (.p (.val (.bool ((!y24)||(y21 != y23)))))))],mkH []⟩) ?_
              refine lok_c ((!y24)||(y21 != y23)) ?_ ?_
              · intro b_19
                replace H1:=cpos H1 b_19
                refine lok_rt E0 (⟨349,mkS [(14,.x (.one (.p (.val (.bool false)))))],mkH []⟩) ?_
                refine lok_ret ?_
                try simp only [thenL,blockL,↓reduceIte,reduceCtorEq]
                have e_1:=k_1 _ (Option.some.inj H1).symm
                subst e_1
                try dsimp only at H0
                obtain rfl:=Option.some.inj H0
                try simp only [thenL,blockL]
                exact fin_au _ (.inr rfl) [] (⟨349,mkS [(14,.x (.one (.p (.val (.bool false)))))],mkH []⟩) rfl rfl imp_au
              · intro b_19
                replace H1:=cneg H1 b_19
                refine lok_skip ?_
                try simp only [thenL,blockL,↓reduceIte,reduceCtorEq]
                refine lok_rl E0 (⟨349,mkS [(314,.x (.agg [.p (pi m),.p (pi most),.p (pi y12),.p (pi y14),.p (pi y16),.p (pi (IntKind.i64.wrap ((1:Int)+y18))),.p (pi (70:Int)),.p (pi (40:Int)),.p (pi (3:Int))])),(315,.x (.one (.p (pi (IntKind.i64.wrap (v+(1:Int)))))))],mkH []⟩) ?_
                try simp only [thenL,blockL,↓reduceIte,reduceCtorEq]
                exact ⟨(IntKind.i64.wrap (v+(1:Int))),(Option.some.inj H1).symm,imp_au⟩
            · intro b_21
              replace H1:=cneg H1 b_21
              refine lok_exit ?_
              try simp only [thenL,blockL,↓reduceIte,reduceCtorEq]
              have e_1:=k_1 _ (Option.some.inj H1).symm
              subst e_1
              try dsimp only at H0
              try simp only [thenL,blockL,↓reduceIte,reduceCtorEq]
              exact ⟨(),H0,imp_au⟩
      case hxlaw35_BoundaryExact_j3 =>
        refine lok_rt E0 (⟨349,mkS [(5,.x (.one (.p (pi m)))),(6,.x (.one (.p (pi most)))),(10,.x (.one (.ptr 110 0))),(15,.x (.one (.ptr 1082 0))),(242,.x (.agg [.p (.sl 1 (List.map encI y3.Counts)),.p (.sl 1 (List.map encI y5.Counts)),.p (.sl 1 (List.map encI x.Counts))])),(243,.x (.one (.p (pi (0:Int)))))],mkH [(110,.var [.p (pi share.Num),.p (pi share.Den)]),(1082,.var [.p (.sl 1 (List.map encI w)),.p (pi w1)])]⟩) ?_
        refine lok_block ?_
        replace H0:=bind_some H0
        obtain ⟨v_22,hv_22,H0⟩:=H0
        refine lok_iter (fun x_ => ⟨349,mkS [(5,.x (.one (.p (pi m)))),(6,.x (.one (.p (pi most)))),(10,.x (.one (.ptr 110 0))),(15,.x (.one (.ptr 1082 0))),(242,.x (.agg [.p (.sl 1 (List.map encI y3.Counts)),.p (.sl 1 (List.map encI y5.Counts)),.p (.sl 1 (List.map encI x.Counts))])),(243,.x (.one (.p (pi x_.1))))],mkH [(110,.var [.p (pi share.Num),.p (pi share.Den)]),(1082,.var [.p (.sl 1 (List.map encI x_.2.1)),.p (pi x_.2.2)])]⟩) hv_22 imp_au ?_
        · rintro ⟨v1,w4,w5⟩ o_1 H1 k_1
          unfold law35_BoundaryExact_l6 at H1
          try dsimp only at H1 ⊢
          refine lok_rt E0 (⟨349,mkS [(5,.x (.one (.p (pi m)))),(6,.x (.one (.p (pi most)))),(10,.x (.one (.ptr 110 0))),(15,.x (.one (.ptr 1082 0))),(242,.x (.agg [.p (.sl 1 (List.map encI y3.Counts)),.p (.sl 1 (List.map encI y5.Counts)),.p (.sl 1 (List.map encI x.Counts))])),(243,.x (.one (.p (pi v1)))),(244,.x (.one (.p (.val (.bool (decide (v1<(3:Int))))))))],mkH [(110,.var [.p (pi share.Num),.p (pi share.Den)]),(1082,.var [.p (.sl 1 (List.map encI w4)),.p (pi w5)])]⟩) ?_
          refine lok_seq ?_
          refine lok_c (decide (v1<(3:Int))) ?_ ?_
          · intro b_35
            replace H1:=cpos H1 b_35
            refine lok_skip ?_
            try simp only [thenL,blockL,↓reduceIte,reduceCtorEq]
            refine lok_join (fun x_:(List Int) × Int => law35_BoundaryExact_j4 v1 x_.1 x_.2=some o_1) (fun x_ => ⟨349,mkS [(5,.x (.one (.p (pi m)))),(6,.x (.one (.p (pi most)))),(10,.x (.one (.ptr 110 0))),(15,.x (.one (.ptr 1082 0))),(242,.x (.agg [.p (.sl 1 (List.map encI y3.Counts)),.p (.sl 1 (List.map encI y5.Counts)),.p (.sl 1 (List.map encI x.Counts))])),(243,.x (.one (.p (pi v1))))],mkH [(110,.var [.p (pi share.Num),.p (pi share.Den)]),(1082,.var [.p (.sl 1 (List.map encI x_.1)),.p (pi x_.2)])]⟩) ?hylaw35_BoundaryExact_j4 ?hxlaw35_BoundaryExact_j4
            case hylaw35_BoundaryExact_j4 =>
              rintro ⟨w8,w9⟩ H1
              try dsimp only at H1 ⊢
              unfold law35_BoundaryExact_j4 at H1
              refine lok_rl E0 (⟨349,mkS [(5,.x (.one (.p (pi m)))),(6,.x (.one (.p (pi most)))),(10,.x (.one (.ptr 110 0))),(15,.x (.one (.ptr 1082 0))),(242,.x (.agg [.p (.sl 1 (List.map encI y3.Counts)),.p (.sl 1 (List.map encI y5.Counts)),.p (.sl 1 (List.map encI x.Counts))])),(243,.x (.one (.p (pi (IntKind.i64.wrap (v1+(1:Int)))))))],mkH [(110,.var [.p (pi share.Num),.p (pi share.Den)]),(1082,.var [.p (.sl 1 (List.map encI w8)),.p (pi w9)])]⟩) ?_
              try simp only [thenL,blockL,↓reduceIte,reduceCtorEq]
              exact ⟨((IntKind.i64.wrap (v1+(1:Int))),w8,w9),(Option.some.inj H1).symm,imp_au⟩
            case hxlaw35_BoundaryExact_j4 =>
              refine lok_block ?_
              replace H1:=req_some H1
              obtain ⟨q_34,H1⟩:=H1
              refine lok_rt E0 (⟨349,mkS [(5,.x (.one (.p (pi m)))),(6,.x (.one (.p (pi most)))),(10,.x (.one (.ptr 110 0))),(15,.x (.one (.ptr 1082 0))),(43,.x (.one (.ptr 143 0))),(242,.x (.agg [.p (.sl 1 (List.map encI y3.Counts)),.p (.sl 1 (List.map encI y5.Counts)),.p (.sl 1 (List.map encI x.Counts))])),(243,.x (.one (.p (pi v1))))],mkH [(110,.var [.p (pi share.Num),.p (pi share.Den)]),(143,.var [.p (.sl 1 (List.map encI ((ix [y3,y5,x] v1).Counts)))]),(1082,.var [.p (.sl 1 (List.map encI w4)),.p (pi w5)])]⟩) ?_
              replace H1:=bind_some H1
              obtain ⟨⟨y25,y26⟩,h_23,H1⟩:=H1
              try dsimp only at H1
              refine lok_et (Env.of E0 [⟨some 249,9,[.one (.ptr 0 0),.one (.p (pi (4:Int)))],[.var [.p (.sl 1 (List.map encI w4)),.p (pi w5)]],[.one (.p (pi y25))],[some (.var [.p (.sl 1 (List.map encI y26.L)),.p (pi y26.At)])],True,fun _ => ok_mark_Dice_Next (mark_Dice.mk w4 w5) (4:Int) (y25,y26) h_23,[]⟩]) 349 [⟨[(10,.x (.one (.ptr 110 0)))],[(110,some (.var [.p (pi share.Num),.p (pi share.Den)]))],[(246,.x (.agg [.p (pi share.Num),.p (pi share.Den)]))],[],none⟩,
      ⟨[],[],[(247,.x (.agg [.p (pi (1:Int)),.p (pi (3:Int))]))],[],none⟩,
      ⟨[(15,.x (.one (.ptr 1082 0)))],[],[(248,.x (.one (.ptr 1082 0)))],[],none⟩,
      ⟨[(248,.x (.one (.ptr 1082 0)))],[(1082,some (.var [.p (.sl 1 (List.map encI w4)),.p (pi w5)]))],[(249,.x (.one (.p (pi y25))))],[(1082,some (.var [.p (.sl 1 (List.map encI y26.L)),.p (pi y26.At)]))],none⟩,
      ⟨[(249,.x (.one (.p (pi y25))))],[],[(250,.x (.agg [.p (pi y25),.p (pi (3:Int))]))],[],none⟩,
      ⟨[],[],[(251,.x (.agg [.p (pi (1:Int)),.p (pi (2:Int))]))],[],none⟩,
      ⟨[(246,.x (.agg [.p (pi share.Num),.p (pi share.Den)])),(247,.x (.agg [.p (pi (1:Int)),.p (pi (3:Int))])),(250,.x (.agg [.p (pi y25),.p (pi (3:Int))])),(251,.x (.agg [.p (pi (1:Int)),.p (pi (2:Int))]))],[],[(252,.x (.agg [.p (pi share.Num),.p (pi share.Den),.p (pi (1:Int)),.p (pi (3:Int)),.p (pi y25),.p (pi (3:Int)),.p (pi (1:Int)),.p (pi (2:Int))]))],[],none⟩,
      ⟨[],[],[(253,.x (.one (.p (pi (0:Int)))))],[],none⟩] (⟨349,mkS [(5,.x (.one (.p (pi m)))),(6,.x (.one (.p (pi most)))),(10,.x (.one (.ptr 110 0))),(15,.x (.one (.ptr 1082 0))),(43,.x (.one (.ptr 143 0))),(242,.x (.agg [.p (.sl 1 (List.map encI y3.Counts)),.p (.sl 1 (List.map encI y5.Counts)),.p (.sl 1 (List.map encI x.Counts))])),(243,.x (.one (.p (pi v1)))),(252,.x (.agg [.p (pi share.Num),.p (pi share.Den),.p (pi (1:Int)),.p (pi (3:Int)),.p (pi y25),.p (pi (3:Int)),.p (pi (1:Int)),.p (pi (2:Int))])),(253,.x (.one (.p (pi (0:Int)))))],mkH [(110,.var [.p (pi share.Num),.p (pi share.Den)]),(143,.var [.p (.sl 1 (List.map encI ((ix [y3,y5,x] v1).Counts)))]),(1082,.var [.p (.sl 1 (List.map encI y26.L)),.p (pi y26.At)])]⟩) (by kernel_rfl) (by kernel_rfl) (by kernel_rfl) rfl rfl rfl ?_
              refine lok_block ?_
              replace H1:=bind_some H1
              obtain ⟨v_24,hv_24,H1⟩:=H1
              refine lok_iter (fun x_ => ⟨349,mkS [(5,.x (.one (.p (pi m)))),(6,.x (.one (.p (pi most)))),(10,.x (.one (.ptr 110 0))),(15,.x (.one (.ptr 1082 0))),(43,.x (.one (.ptr 143 0))),(242,.x (.agg [.p (.sl 1 (List.map encI y3.Counts)),.p (.sl 1 (List.map encI y5.Counts)),.p (.sl 1 (List.map encI x.Counts))])),(243,.x (.one (.p (pi v1)))),(252,.x (.agg [.p (pi share.Num),.p (pi share.Den),.p (pi (1:Int)),.p (pi (3:Int)),.p (pi y25),.p (pi (3:Int)),.p (pi (1:Int)),.p (pi (2:Int))])),(253,.x (.one (.p (pi x_))))],mkH [(110,.var [.p (pi share.Num),.p (pi share.Den)]),(143,.var [.p (.sl 1 (List.map encI ((ix [y3,y5,x] v1).Counts)))]),(1082,.var [.p (.sl 1 (List.map encI y26.L)),.p (pi y26.At)])]⟩) hv_24 imp_au ?_
              · rintro v2 o_2 H2 k_2
                unfold law35_BoundaryExact_l5 at H2
                try dsimp only at H2 ⊢
                refine lok_rt E0 (⟨349,mkS [(5,.x (.one (.p (pi m)))),(6,.x (.one (.p (pi most)))),(10,.x (.one (.ptr 110 0))),(15,.x (.one (.ptr 1082 0))),(43,.x (.one (.ptr 143 0))),(242,.x (.agg [.p (.sl 1 (List.map encI y3.Counts)),.p (.sl 1 (List.map encI y5.Counts)),.p (.sl 1 (List.map encI x.Counts))])),(243,.x (.one (.p (pi v1)))),(252,.x (.agg [.p (pi share.Num),.p (pi share.Den),.p (pi (1:Int)),.p (pi (3:Int)),.p (pi y25),.p (pi (3:Int)),.p (pi (1:Int)),.p (pi (2:Int))])),(253,.x (.one (.p (pi v2)))),(254,.x (.one (.p (.val (.bool (decide (v2<(4:Int))))))))],mkH [(110,.var [.p (pi share.Num),.p (pi share.Den)]),(143,.var [.p (.sl 1 (List.map encI ((ix [y3,y5,x] v1).Counts)))]),(1082,.var [.p (.sl 1 (List.map encI y26.L)),.p (pi y26.At)])]⟩) ?_
                refine lok_seq ?_
                refine lok_c (decide (v2<(4:Int))) ?_ ?_
                · intro b_33
                  replace H2:=cpos H2 b_33
                  refine lok_skip ?_
                  try simp only [thenL,blockL,↓reduceIte,reduceCtorEq]
                  refine lok_seq ?_
                  refine lok_block ?_
                  replace H2:=req_some H2
                  obtain ⟨q_32,H2⟩:=H2
                  replace H2:=bindV_some H2
                  obtain ⟨s,a_25,H2⟩:=H2
                  replace H2:=bindV_some H2
                  obtain ⟨s1,a_26,H2⟩:=H2
                  refine lok_rtg E0 (And.intro a_25 a_26) (⟨349,mkS [(5,.x (.one (.p (pi m)))),(6,.x (.one (.p (pi most)))),(10,.x (.one (.ptr 110 0))),(15,.x (.one (.ptr 1082 0))),(43,.x (.one (.ptr 143 0))),(45,.x (.one (.ptr 145 0))),(242,.x (.agg [.p (.sl 1 (List.map encI y3.Counts)),.p (.sl 1 (List.map encI y5.Counts)),.p (.sl 1 (List.map encI x.Counts))])),(243,.x (.one (.p (pi v1)))),(252,.x (.agg [.p (pi share.Num),.p (pi share.Den),.p (pi (1:Int)),.p (pi (3:Int)),.p (pi y25),.p (pi (3:Int)),.p (pi (1:Int)),.p (pi (2:Int))])),(253,.x (.one (.p (pi v2))))],mkH [(110,.var [.p (pi share.Num),.p (pi share.Den)]),(143,.var [.p (.sl 1 (List.map encI ((ix [y3,y5,x] v1).Counts)))]),(145,.var [.p (pi s),.p (pi s1)]),(1082,.var [.p (.sl 1 (List.map encI y26.L)),.p (pi y26.At)])]⟩) ?_
                  replace H2:=bind_some H2
                  obtain ⟨⟨y27,y28⟩,h_27,H2⟩:=H2
                  try dsimp only at H2
                  refine lok_rt (Env.of E0 [⟨some 259,22,[.agg [.p (.sl 1 (List.map encI ((ix [y3,y5,x] v1).Counts)))],.agg [.p (pi s),.p (pi s1)]],[],[.one (.p (pi y27)),.one (.p (pi y28))],[],True,fun _ => ok_boundary_Share (ix [y3,y5,x] v1) (api_Ratio.mk s s1) (y27,y28) h_27,[]⟩]) (⟨349,mkS [(5,.x (.one (.p (pi m)))),(6,.x (.one (.p (pi most)))),(10,.x (.one (.ptr 110 0))),(15,.x (.one (.ptr 1082 0))),(43,.x (.one (.ptr 143 0))),(45,.x (.one (.ptr 145 0))),(46,.x (.one (.p (pi y27)))),(47,.x (.one (.p (pi y28)))),(242,.x (.agg [.p (.sl 1 (List.map encI y3.Counts)),.p (.sl 1 (List.map encI y5.Counts)),.p (.sl 1 (List.map encI x.Counts))])),(243,.x (.one (.p (pi v1)))),(252,.x (.agg [.p (pi share.Num),.p (pi share.Den),.p (pi (1:Int)),.p (pi (3:Int)),.p (pi y25),.p (pi (3:Int)),.p (pi (1:Int)),.p (pi (2:Int))])),(253,.x (.one (.p (pi v2))))],mkH [(110,.var [.p (pi share.Num),.p (pi share.Den)]),(143,.var [.p (.sl 1 (List.map encI ((ix [y3,y5,x] v1).Counts)))]),(145,.var [.p (pi s),.p (pi s1)]),(1082,.var [.p (.sl 1 (List.map encI y26.L)),.p (pi y26.At)])]⟩) ?_
                  replace H2:=bind_some H2
                  obtain ⟨⟨y29,y30⟩,h_28,H2⟩:=H2
                  try dsimp only at H2
                  refine lok_rt (Env.of E0 [⟨some 265,23,[.agg [.p (.sl 1 (List.map encI ((ix [y3,y5,x] v1).Counts)))],.agg [.p (pi s),.p (pi s1)]],[],[.one (.p (pi y29)),.one (.p (pi y30))],[],True,fun _ => ok_ref35_Share (ix [y3,y5,x] v1) (api_Ratio.mk s s1) (y29,y30) h_28,[]⟩]) (⟨349,mkS [(5,.x (.one (.p (pi m)))),(6,.x (.one (.p (pi most)))),(10,.x (.one (.ptr 110 0))),(15,.x (.one (.ptr 1082 0))),(43,.x (.one (.ptr 143 0))),(45,.x (.one (.ptr 145 0))),(46,.x (.one (.p (pi y27)))),(47,.x (.one (.p (pi y28)))),(48,.x (.one (.p (pi y29)))),(49,.x (.one (.p (pi y30)))),(242,.x (.agg [.p (.sl 1 (List.map encI y3.Counts)),.p (.sl 1 (List.map encI y5.Counts)),.p (.sl 1 (List.map encI x.Counts))])),(243,.x (.one (.p (pi v1)))),(252,.x (.agg [.p (pi share.Num),.p (pi share.Den),.p (pi (1:Int)),.p (pi (3:Int)),.p (pi y25),.p (pi (3:Int)),.p (pi (1:Int)),.p (pi (2:Int))])),(253,.x (.one (.p (pi v2))))],mkH [(110,.var [.p (pi share.Num),.p (pi share.Den)]),(143,.var [.p (.sl 1 (List.map encI ((ix [y3,y5,x] v1).Counts)))]),(145,.var [.p (pi s),.p (pi s1)]),(1082,.var [.p (.sl 1 (List.map encI y26.L)),.p (pi y26.At)])]⟩) ?_
                  replace H2:=bind_some H2
                  obtain ⟨⟨y31,y32⟩,h_29,H2⟩:=H2
                  try dsimp only at H2
                  refine lok_rt (Env.of E0 [⟨some 271,24,[.agg [.p (.sl 1 (List.map encI ((ix [y3,y5,x] v1).Counts)))],.agg [.p (pi s),.p (pi s1)]],[],[.one (.p (pi y31)),.one (.p (pi y32))],[],True,fun _ => ok_boundary_Nearest (ix [y3,y5,x] v1) (api_Ratio.mk s s1) (y31,y32) h_29,[]⟩]) (⟨349,mkS [(5,.x (.one (.p (pi m)))),(6,.x (.one (.p (pi most)))),(10,.x (.one (.ptr 110 0))),(15,.x (.one (.ptr 1082 0))),(43,.x (.one (.ptr 143 0))),(45,.x (.one (.ptr 145 0))),(46,.x (.one (.p (pi y27)))),(47,.x (.one (.p (pi y28)))),(48,.x (.one (.p (pi y29)))),(49,.x (.one (.p (pi y30)))),(50,.x (.one (.p (pi y31)))),(51,.x (.one (.p (pi y32)))),(242,.x (.agg [.p (.sl 1 (List.map encI y3.Counts)),.p (.sl 1 (List.map encI y5.Counts)),.p (.sl 1 (List.map encI x.Counts))])),(243,.x (.one (.p (pi v1)))),(252,.x (.agg [.p (pi share.Num),.p (pi share.Den),.p (pi (1:Int)),.p (pi (3:Int)),.p (pi y25),.p (pi (3:Int)),.p (pi (1:Int)),.p (pi (2:Int))])),(253,.x (.one (.p (pi v2))))],mkH [(110,.var [.p (pi share.Num),.p (pi share.Den)]),(143,.var [.p (.sl 1 (List.map encI ((ix [y3,y5,x] v1).Counts)))]),(145,.var [.p (pi s),.p (pi s1)]),(1082,.var [.p (.sl 1 (List.map encI y26.L)),.p (pi y26.At)])]⟩) ?_
                  replace H2:=bind_some H2
                  obtain ⟨⟨y33,y34⟩,h_30,H2⟩:=H2
                  try dsimp only at H2
                  refine lok_rt (Env.of E0 [⟨some 277,25,[.agg [.p (.sl 1 (List.map encI ((ix [y3,y5,x] v1).Counts)))],.agg [.p (pi s),.p (pi s1)]],[],[.one (.p (pi y33)),.one (.p (pi y34))],[],True,fun _ => ok_ref35_Nearest (ix [y3,y5,x] v1) (api_Ratio.mk s s1) (y33,y34) h_30,[]⟩]) (⟨349,mkS [(5,.x (.one (.p (pi m)))),(6,.x (.one (.p (pi most)))),(10,.x (.one (.ptr 110 0))),(15,.x (.one (.ptr 1082 0))),(43,.x (.one (.ptr 143 0))),(46,.x (.one (.p (pi y27)))),(47,.x (.one (.p (pi y28)))),(48,.x (.one (.p (pi y29)))),(49,.x (.one (.p (pi y30)))),(50,.x (.one (.p (pi y31)))),(51,.x (.one (.p (pi y32)))),(52,.x (.one (.p (pi y33)))),(53,.x (.one (.p (pi y34)))),(242,.x (.agg [.p (.sl 1 (List.map encI y3.Counts)),.p (.sl 1 (List.map encI y5.Counts)),.p (.sl 1 (List.map encI x.Counts))])),(243,.x (.one (.p (pi v1)))),(252,.x (.agg [.p (pi share.Num),.p (pi share.Den),.p (pi (1:Int)),.p (pi (3:Int)),.p (pi y25),.p (pi (3:Int)),.p (pi (1:Int)),.p (pi (2:Int))])),(253,.x (.one (.p (pi v2))))],mkH [(110,.var [.p (pi share.Num),.p (pi share.Den)]),(143,.var [.p (.sl 1 (List.map encI ((ix [y3,y5,x] v1).Counts)))]),(1082,.var [.p (.sl 1 (List.map encI y26.L)),.p (pi y26.At)])]⟩) ?_
                  refine lok_rt E0 (⟨349,mkS [(5,.x (.one (.p (pi m)))),(6,.x (.one (.p (pi most)))),(10,.x (.one (.ptr 110 0))),(15,.x (.one (.ptr 1082 0))),(43,.x (.one (.ptr 143 0))),(242,.x (.agg [.p (.sl 1 (List.map encI y3.Counts)),.p (.sl 1 (List.map encI y5.Counts)),.p (.sl 1 (List.map encI x.Counts))])),(243,.x (.one (.p (pi v1)))),(252,.x (.agg [.p (pi share.Num),.p (pi share.Den),.p (pi (1:Int)),.p (pi (3:Int)),.p (pi y25),.p (pi (3:Int)),.p (pi (1:Int)),.p (pi (2:Int))])),(253,.x (.one (.p (pi v2)))),(297,.x (.one (.p (.val (.bool ((((y27 != y29)||(y28 != y30))||(y31 != y33))||(y32 != y34)))))))],mkH [(110,.var [.p (pi share.Num),.p (pi share.Den)]),(143,.var [.p (.sl 1 (List.map encI ((ix [y3,y5,x] v1).Counts)))]),(1082,.var [.p (.sl 1 (List.map encI y26.L)),.p (pi y26.At)])]⟩) ?_
                  refine lok_c ((((y27 != y29)||(y28 != y30))||(y31 != y33))||(y32 != y34)) ?_ ?_
                  · intro b_31
                    replace H2:=cpos H2 b_31
                    refine lok_rt E0 (⟨349,mkS [(14,.x (.one (.p (.val (.bool false)))))],mkH []⟩) ?_
                    refine lok_ret ?_
                    try simp only [thenL,blockL,↓reduceIte,reduceCtorEq]
                    have e_2:=k_2 _ (Option.some.inj H2).symm
                    subst e_2
                    try dsimp only at H1
                    try simp only [thenL,blockL,↓reduceIte,reduceCtorEq]
                    have e_1:=k_1 _ (Option.some.inj H1).symm
                    subst e_1
                    try dsimp only at H0
                    obtain rfl:=Option.some.inj H0
                    try simp only [thenL,blockL]
                    exact fin_au _ (.inr rfl) [] (⟨349,mkS [(14,.x (.one (.p (.val (.bool false)))))],mkH []⟩) rfl rfl imp_au
                  · intro b_31
                    replace H2:=cneg H2 b_31
                    refine lok_skip ?_
                    try simp only [thenL,blockL,↓reduceIte,reduceCtorEq]
                    refine lok_rl E0 (⟨349,mkS [(5,.x (.one (.p (pi m)))),(6,.x (.one (.p (pi most)))),(10,.x (.one (.ptr 110 0))),(15,.x (.one (.ptr 1082 0))),(43,.x (.one (.ptr 143 0))),(242,.x (.agg [.p (.sl 1 (List.map encI y3.Counts)),.p (.sl 1 (List.map encI y5.Counts)),.p (.sl 1 (List.map encI x.Counts))])),(243,.x (.one (.p (pi v1)))),(252,.x (.agg [.p (pi share.Num),.p (pi share.Den),.p (pi (1:Int)),.p (pi (3:Int)),.p (pi y25),.p (pi (3:Int)),.p (pi (1:Int)),.p (pi (2:Int))])),(253,.x (.one (.p (pi (IntKind.i64.wrap (v2+(1:Int)))))))],mkH [(110,.var [.p (pi share.Num),.p (pi share.Den)]),(143,.var [.p (.sl 1 (List.map encI ((ix [y3,y5,x] v1).Counts)))]),(1082,.var [.p (.sl 1 (List.map encI y26.L)),.p (pi y26.At)])]⟩) ?_
                    try simp only [thenL,blockL,↓reduceIte,reduceCtorEq]
                    exact ⟨(IntKind.i64.wrap (v2+(1:Int))),(Option.some.inj H2).symm,imp_au⟩
                · intro b_33
                  replace H2:=cneg H2 b_33
                  refine lok_exit ?_
                  try simp only [thenL,blockL,↓reduceIte,reduceCtorEq]
                  have e_2:=k_2 _ (Option.some.inj H2).symm
                  subst e_2
                  try dsimp only at H1
                  try simp only [thenL,blockL,↓reduceIte,reduceCtorEq]
                  exact ⟨(y26.L,y26.At),H1,imp_au⟩
          · intro b_35
            replace H1:=cneg H1 b_35
            refine lok_exit ?_
            try simp only [thenL,blockL,↓reduceIte,reduceCtorEq]
            have e_1:=k_1 _ (Option.some.inj H1).symm
            subst e_1
            try dsimp only at H0
            try simp only [thenL,blockL,↓reduceIte,reduceCtorEq]
            exact ⟨(w4,w5),H0,imp_au⟩
    case hxlaw35_BoundaryExact_j7 =>
      refine lok_rt E0 (⟨349,mkS [(5,.x (.one (.p (pi m)))),(6,.x (.one (.p (pi most)))),(9,.x (.one (.ptr 109 0))),(10,.x (.one (.ptr 110 0))),(11,.x (.one (.ptr 111 0))),(15,.x (.one (.ptr 1082 0))),(16,.x (.one (.ptr 116 0))),(17,.x (.one (.ptr 117 0))),(103,.x (.agg [.p (.sl 1 (List.map encI y7)),.vw 194,.p (.sl 1 (List.map encI raw))])),(104,.x (.one (.p (pi (0:Int)))))],mkH [(109,.var [.p (.sl 1 (List.map encI x.Counts))]),(110,.var [.p (pi share.Num),.p (pi share.Den)]),(111,.var [.p (.sl 4 (List.map enc_api_Point curve.Points))]),(116,.var [.p (.sl 1 (List.map encI y3.Counts))]),(117,.var [.p (.sl 1 (List.map encI y5.Counts))]),(194,.arr 1 (List.map encI (y7 ++ [(IntKind.i64.wrap (y9-(1:Int)))]))),(1082,.var [.p (.sl 1 (List.map encI y10.L)),.p (pi y10.At)])]⟩) ?_
      refine lok_block ?_
      replace H0:=bind_some H0
      obtain ⟨v_36,hv_36,H0⟩:=H0
      refine lok_iter (fun x_ => ⟨349,mkS [(5,.x (.one (.p (pi m)))),(6,.x (.one (.p (pi most)))),(9,.x (.one (.ptr 109 0))),(10,.x (.one (.ptr 110 0))),(11,.x (.one (.ptr 111 0))),(15,.x (.one (.ptr 1082 0))),(16,.x (.one (.ptr 116 0))),(17,.x (.one (.ptr 117 0))),(103,.x (.agg [.p (.sl 1 (List.map encI y7)),.p (.sl 1 (List.map encI (y7 ++ [(IntKind.i64.wrap (y9-(1:Int)))]))),.p (.sl 1 (List.map encI raw))])),(104,.x (.one (.p (pi x_.1))))],mkH [(109,.var [.p (.sl 1 (List.map encI x.Counts))]),(110,.var [.p (pi share.Num),.p (pi share.Den)]),(111,.var [.p (.sl 4 (List.map enc_api_Point curve.Points))]),(116,.var [.p (.sl 1 (List.map encI y3.Counts))]),(117,.var [.p (.sl 1 (List.map encI y5.Counts))]),(1082,.var [.p (.sl 1 (List.map encI x_.2.1)),.p (pi x_.2.2)])]⟩) hv_36 (Imp.trans (imp_frz 194 1 (List.map encI (y7 ++ [(IntKind.i64.wrap (y9-(1:Int)))]))) imp_au) ?_
      · rintro ⟨v3,w10,w11⟩ o_1 H1 k_1
        unfold law35_BoundaryExact_l12 at H1
        try dsimp only at H1 ⊢
        refine lok_rt E0 (⟨349,mkS [(5,.x (.one (.p (pi m)))),(6,.x (.one (.p (pi most)))),(9,.x (.one (.ptr 109 0))),(10,.x (.one (.ptr 110 0))),(11,.x (.one (.ptr 111 0))),(15,.x (.one (.ptr 1082 0))),(16,.x (.one (.ptr 116 0))),(17,.x (.one (.ptr 117 0))),(103,.x (.agg [.p (.sl 1 (List.map encI y7)),.p (.sl 1 (List.map encI (y7 ++ [(IntKind.i64.wrap (y9-(1:Int)))]))),.p (.sl 1 (List.map encI raw))])),(104,.x (.one (.p (pi v3)))),(105,.x (.one (.p (.val (.bool (decide (v3<(3:Int))))))))],mkH [(109,.var [.p (.sl 1 (List.map encI x.Counts))]),(110,.var [.p (pi share.Num),.p (pi share.Den)]),(111,.var [.p (.sl 4 (List.map enc_api_Point curve.Points))]),(116,.var [.p (.sl 1 (List.map encI y3.Counts))]),(117,.var [.p (.sl 1 (List.map encI y5.Counts))]),(1082,.var [.p (.sl 1 (List.map encI w10)),.p (pi w11)])]⟩) ?_
        refine lok_seq ?_
        refine lok_c (decide (v3<(3:Int))) ?_ ?_
        · intro b_66
          replace H1:=cpos H1 b_66
          refine lok_skip ?_
          try simp only [thenL,blockL,↓reduceIte,reduceCtorEq]
          refine lok_join (fun x_:(List Int) × Int => law35_BoundaryExact_j8 v3 x_.1 x_.2=some o_1) (fun x_ => ⟨349,mkS [(5,.x (.one (.p (pi m)))),(6,.x (.one (.p (pi most)))),(9,.x (.one (.ptr 109 0))),(10,.x (.one (.ptr 110 0))),(11,.x (.one (.ptr 111 0))),(15,.x (.one (.ptr 1082 0))),(16,.x (.one (.ptr 116 0))),(17,.x (.one (.ptr 117 0))),(103,.x (.agg [.p (.sl 1 (List.map encI y7)),.p (.sl 1 (List.map encI (y7 ++ [(IntKind.i64.wrap (y9-(1:Int)))]))),.p (.sl 1 (List.map encI raw))])),(104,.x (.one (.p (pi v3))))],mkH [(109,.var [.p (.sl 1 (List.map encI x.Counts))]),(110,.var [.p (pi share.Num),.p (pi share.Den)]),(111,.var [.p (.sl 4 (List.map enc_api_Point curve.Points))]),(116,.var [.p (.sl 1 (List.map encI y3.Counts))]),(117,.var [.p (.sl 1 (List.map encI y5.Counts))]),(1082,.var [.p (.sl 1 (List.map encI x_.1)),.p (pi x_.2)])]⟩) ?hylaw35_BoundaryExact_j8 ?hxlaw35_BoundaryExact_j8
          case hylaw35_BoundaryExact_j8 =>
            rintro ⟨w14,w15⟩ H1
            try dsimp only at H1 ⊢
            unfold law35_BoundaryExact_j8 at H1
            refine lok_rl E0 (⟨349,mkS [(5,.x (.one (.p (pi m)))),(6,.x (.one (.p (pi most)))),(9,.x (.one (.ptr 109 0))),(10,.x (.one (.ptr 110 0))),(11,.x (.one (.ptr 111 0))),(15,.x (.one (.ptr 1082 0))),(16,.x (.one (.ptr 116 0))),(17,.x (.one (.ptr 117 0))),(103,.x (.agg [.p (.sl 1 (List.map encI y7)),.p (.sl 1 (List.map encI (y7 ++ [(IntKind.i64.wrap (y9-(1:Int)))]))),.p (.sl 1 (List.map encI raw))])),(104,.x (.one (.p (pi (IntKind.i64.wrap (v3+(1:Int)))))))],mkH [(109,.var [.p (.sl 1 (List.map encI x.Counts))]),(110,.var [.p (pi share.Num),.p (pi share.Den)]),(111,.var [.p (.sl 4 (List.map enc_api_Point curve.Points))]),(116,.var [.p (.sl 1 (List.map encI y3.Counts))]),(117,.var [.p (.sl 1 (List.map encI y5.Counts))]),(1082,.var [.p (.sl 1 (List.map encI w14)),.p (pi w15)])]⟩) ?_
            try simp only [thenL,blockL,↓reduceIte,reduceCtorEq]
            exact ⟨((IntKind.i64.wrap (v3+(1:Int))),w14,w15),(Option.some.inj H1).symm,imp_au⟩
          case hxlaw35_BoundaryExact_j8 =>
            refine lok_block ?_
            replace H1:=req_some H1
            obtain ⟨q_65,H1⟩:=H1
            refine lok_rt E0 (⟨349,mkS [(5,.x (.one (.p (pi m)))),(6,.x (.one (.p (pi most)))),(9,.x (.one (.ptr 109 0))),(10,.x (.one (.ptr 110 0))),(11,.x (.one (.ptr 111 0))),(15,.x (.one (.ptr 1082 0))),(16,.x (.one (.ptr 116 0))),(17,.x (.one (.ptr 117 0))),(21,.x (.one (.p (.sl 1 (List.map encI (ix [y7,(y7 ++ [(IntKind.i64.wrap (y9-(1:Int)))]),raw] v3)))))),(103,.x (.agg [.p (.sl 1 (List.map encI y7)),.p (.sl 1 (List.map encI (y7 ++ [(IntKind.i64.wrap (y9-(1:Int)))]))),.p (.sl 1 (List.map encI raw))])),(104,.x (.one (.p (pi v3))))],mkH [(109,.var [.p (.sl 1 (List.map encI x.Counts))]),(110,.var [.p (pi share.Num),.p (pi share.Den)]),(111,.var [.p (.sl 4 (List.map enc_api_Point curve.Points))]),(116,.var [.p (.sl 1 (List.map encI y3.Counts))]),(117,.var [.p (.sl 1 (List.map encI y5.Counts))]),(1082,.var [.p (.sl 1 (List.map encI w10)),.p (pi w11)])]⟩) ?_
            refine lok_seq ?_
            replace H1:=bind_some H1
            obtain ⟨y35,h_37,H1⟩:=H1
            replace H1:=bind_some H1
            obtain ⟨y36,h_38,H1⟩:=H1
            replace H1:=req_some H1
            obtain ⟨⟨q_61,q_62,q_63,q_64⟩,H1⟩:=H1
            refine lok_rt (Env.of E0 [⟨some 109,10,[.one (.p (.sl 1 (List.map encI (ix [y7,(y7 ++ [(IntKind.i64.wrap (y9-(1:Int)))]),raw] v3)))),.one (.p (pi most))],[],[.one (.p (pi y35))],[],True,fun _ => ok_boundary_Check (ix [y7,(y7 ++ [(IntKind.i64.wrap (y9-(1:Int)))]),raw] v3) most y35 h_37,[]⟩,
      ⟨some 112,11,[.one (.p (.sl 1 (List.map encI (ix [y7,(y7 ++ [(IntKind.i64.wrap (y9-(1:Int)))]),raw] v3)))),.one (.p (pi most))],[],[.one (.p (pi y36))],[],True,fun _ => ok_ref35_Check (ix [y7,(y7 ++ [(IntKind.i64.wrap (y9-(1:Int)))]),raw] v3) most y36 h_38,[]⟩,
      ⟨some 116,10,[.one (.p (.sl 1 (List.map encI (ix [y7,(y7 ++ [(IntKind.i64.wrap (y9-(1:Int)))]),raw] v3)))),.one (.p (pi (9:Int)))],[],[.one (.p (pi ((boundary_Check (ix [y7,(y7 ++ [(IntKind.i64.wrap (y9-(1:Int)))]),raw] v3) (9:Int)).getD default)))],[],(boundary_Check (ix [y7,(y7 ++ [(IntKind.i64.wrap (y9-(1:Int)))]),raw] v3) (9:Int)).isSome=true,fun h => ok_boundary_Check (ix [y7,(y7 ++ [(IntKind.i64.wrap (y9-(1:Int)))]),raw] v3) (9:Int) _ (isSome_get h),[]⟩,
      ⟨some 118,11,[.one (.p (.sl 1 (List.map encI (ix [y7,(y7 ++ [(IntKind.i64.wrap (y9-(1:Int)))]),raw] v3)))),.one (.p (pi (9:Int)))],[],[.one (.p (pi ((ref35_Check (ix [y7,(y7 ++ [(IntKind.i64.wrap (y9-(1:Int)))]),raw] v3) (9:Int)).getD default)))],[],(ref35_Check (ix [y7,(y7 ++ [(IntKind.i64.wrap (y9-(1:Int)))]),raw] v3) (9:Int)).isSome=true,fun h => ok_ref35_Check (ix [y7,(y7 ++ [(IntKind.i64.wrap (y9-(1:Int)))]),raw] v3) (9:Int) _ (isSome_get h),[]⟩,
      ⟨some 124,12,[.one (.p (.sl 1 (List.map encI (ix [y7,(y7 ++ [(IntKind.i64.wrap (y9-(1:Int)))]),raw] v3)))),.one (.p (pi m))],[],[.one (.p (pi ((boundary_Grade (ix [y7,(y7 ++ [(IntKind.i64.wrap (y9-(1:Int)))]),raw] v3) m).getD default)))],[],(boundary_Grade (ix [y7,(y7 ++ [(IntKind.i64.wrap (y9-(1:Int)))]),raw] v3) m).isSome=true,fun h => ok_boundary_Grade (ix [y7,(y7 ++ [(IntKind.i64.wrap (y9-(1:Int)))]),raw] v3) m _ (isSome_get h),[]⟩,
      ⟨some 127,13,[.one (.p (.sl 1 (List.map encI (ix [y7,(y7 ++ [(IntKind.i64.wrap (y9-(1:Int)))]),raw] v3)))),.one (.p (pi m))],[],[.one (.p (pi ((ref35_Grade (ix [y7,(y7 ++ [(IntKind.i64.wrap (y9-(1:Int)))]),raw] v3) m).getD default)))],[],(ref35_Grade (ix [y7,(y7 ++ [(IntKind.i64.wrap (y9-(1:Int)))]),raw] v3) m).isSome=true,fun h => ok_ref35_Grade (ix [y7,(y7 ++ [(IntKind.i64.wrap (y9-(1:Int)))]),raw] v3) m _ (isSome_get h),[]⟩]) (⟨349,mkS [(5,.x (.one (.p (pi m)))),(6,.x (.one (.p (pi most)))),(9,.x (.one (.ptr 109 0))),(10,.x (.one (.ptr 110 0))),(11,.x (.one (.ptr 111 0))),(15,.x (.one (.ptr 1082 0))),(16,.x (.one (.ptr 116 0))),(17,.x (.one (.ptr 117 0))),(21,.x (.one (.p (.sl 1 (List.map encI (ix [y7,(y7 ++ [(IntKind.i64.wrap (y9-(1:Int)))]),raw] v3)))))),(103,.x (.agg [.p (.sl 1 (List.map encI y7)),.p (.sl 1 (List.map encI (y7 ++ [(IntKind.i64.wrap (y9-(1:Int)))]))),.p (.sl 1 (List.map encI raw))])),(104,.x (.one (.p (pi v3)))),(129,.x (.one (.p (.val (.bool (((y35 != y36)||(((boundary_Check (ix [y7,(y7 ++ [(IntKind.i64.wrap (y9-(1:Int)))]),raw] v3) (9:Int)).getD default) != ((ref35_Check (ix [y7,(y7 ++ [(IntKind.i64.wrap (y9-(1:Int)))]),raw] v3) (9:Int)).getD default)))||(((boundary_Grade (ix [y7,(y7 ++ [(IntKind.i64.wrap (y9-(1:Int)))]),raw] v3) m).getD default) != ((ref35_Grade (ix [y7,(y7 ++ [(IntKind.i64.wrap (y9-(1:Int)))]),raw] v3) m).getD default))))))))],mkH [(109,.var [.p (.sl 1 (List.map encI x.Counts))]),(110,.var [.p (pi share.Num),.p (pi share.Den)]),(111,.var [.p (.sl 4 (List.map enc_api_Point curve.Points))]),(116,.var [.p (.sl 1 (List.map encI y3.Counts))]),(117,.var [.p (.sl 1 (List.map encI y5.Counts))]),(1082,.var [.p (.sl 1 (List.map encI w10)),.p (pi w11)])]⟩) ?_
            refine lok_c (((y35 != y36)||(((boundary_Check (ix [y7,(y7 ++ [(IntKind.i64.wrap (y9-(1:Int)))]),raw] v3) (9:Int)).getD default) != ((ref35_Check (ix [y7,(y7 ++ [(IntKind.i64.wrap (y9-(1:Int)))]),raw] v3) (9:Int)).getD default)))||(((boundary_Grade (ix [y7,(y7 ++ [(IntKind.i64.wrap (y9-(1:Int)))]),raw] v3) m).getD default) != ((ref35_Grade (ix [y7,(y7 ++ [(IntKind.i64.wrap (y9-(1:Int)))]),raw] v3) m).getD default))) ?_ ?_
            · intro b_60
              replace H1:=cpos H1 b_60
              refine lok_rt E0 (⟨349,mkS [(14,.x (.one (.p (.val (.bool false)))))],mkH []⟩) ?_
              refine lok_ret ?_
              try simp only [thenL,blockL,↓reduceIte,reduceCtorEq]
              have e_1:=k_1 _ (Option.some.inj H1).symm
              subst e_1
              try dsimp only at H0
              obtain rfl:=Option.some.inj H0
              try simp only [thenL,blockL]
              exact fin_au _ (.inr rfl) [] (⟨349,mkS [(14,.x (.one (.p (.val (.bool false)))))],mkH []⟩) rfl rfl imp_au
            · intro b_60
              replace H1:=cneg H1 b_60
              refine lok_skip ?_
              try simp only [thenL,blockL,↓reduceIte,reduceCtorEq]
              refine lok_join (fun x_:Unit => law35_BoundaryExact_j10 raw curve most y7 y9 v3 w10 w11=some o_1) (fun x_ => ⟨349,mkS [(5,.x (.one (.p (pi m)))),(6,.x (.one (.p (pi most)))),(9,.x (.one (.ptr 109 0))),(10,.x (.one (.ptr 110 0))),(11,.x (.one (.ptr 111 0))),(15,.x (.one (.ptr 1082 0))),(16,.x (.one (.ptr 116 0))),(17,.x (.one (.ptr 117 0))),(21,.x (.one (.p (.sl 1 (List.map encI (ix [y7,(y7 ++ [(IntKind.i64.wrap (y9-(1:Int)))]),raw] v3)))))),(103,.x (.agg [.p (.sl 1 (List.map encI y7)),.p (.sl 1 (List.map encI (y7 ++ [(IntKind.i64.wrap (y9-(1:Int)))]))),.p (.sl 1 (List.map encI raw))])),(104,.x (.one (.p (pi v3))))],mkH [(109,.var [.p (.sl 1 (List.map encI x.Counts))]),(110,.var [.p (pi share.Num),.p (pi share.Den)]),(111,.var [.p (.sl 4 (List.map enc_api_Point curve.Points))]),(116,.var [.p (.sl 1 (List.map encI y3.Counts))]),(117,.var [.p (.sl 1 (List.map encI y5.Counts))]),(1082,.var [.p (.sl 1 (List.map encI w10)),.p (pi w11)])]⟩) ?hylaw35_BoundaryExact_j10 ?hxlaw35_BoundaryExact_j10
              case hylaw35_BoundaryExact_j10 =>
                rintro _ H1
                try dsimp only at H1 ⊢
                unfold law35_BoundaryExact_j10 at H1
                replace H1:=bind_some H1
                obtain ⟨⟨y37,y38⟩,h_39,H1⟩:=H1
                try dsimp only at H1
                refine lok_et (Env.of E0 [⟨some 185,19,[.one (.ptr 0 0)],[.var [.p (.sl 1 (List.map encI w10)),.p (pi w11)]],[.agg [.p (.sl 4 (List.map enc_api_Point y37.Points))]],[some (.var [.p (.sl 1 (List.map encI y38.L)),.p (pi y38.At)])],True,fun _ => ok_mark_Dice_Curve (mark_Dice.mk w10 w11) (y37,y38) h_39,[]⟩]) 349 [⟨[(15,.x (.one (.ptr 1082 0)))],[],[(184,.x (.one (.ptr 1082 0)))],[],none⟩,
      ⟨[(184,.x (.one (.ptr 1082 0)))],[(1082,some (.var [.p (.sl 1 (List.map encI w10)),.p (pi w11)]))],[(185,.x (.agg [.p (.sl 4 (List.map enc_api_Point y37.Points))]))],[(1082,some (.var [.p (.sl 1 (List.map encI y38.L)),.p (pi y38.At)]))],none⟩,
      ⟨[(11,.x (.one (.ptr 111 0)))],[(111,some (.var [.p (.sl 4 (List.map enc_api_Point curve.Points))]))],[(186,.x (.agg [.p (.sl 4 (List.map enc_api_Point curve.Points))]))],[],none⟩,
      ⟨[(185,.x (.agg [.p (.sl 4 (List.map enc_api_Point y37.Points))])),(186,.x (.agg [.p (.sl 4 (List.map enc_api_Point curve.Points))]))],[],[(187,.x (.agg [.p (.sl 4 (List.map enc_api_Point y37.Points)),.p (.sl 4 (List.map enc_api_Point curve.Points))]))],[],none⟩,
      ⟨[],[],[(188,.x (.one (.p (pi (0:Int)))))],[],none⟩] (⟨349,mkS [(5,.x (.one (.p (pi m)))),(6,.x (.one (.p (pi most)))),(9,.x (.one (.ptr 109 0))),(10,.x (.one (.ptr 110 0))),(11,.x (.one (.ptr 111 0))),(15,.x (.one (.ptr 1082 0))),(16,.x (.one (.ptr 116 0))),(17,.x (.one (.ptr 117 0))),(21,.x (.one (.p (.sl 1 (List.map encI (ix [y7,(y7 ++ [(IntKind.i64.wrap (y9-(1:Int)))]),raw] v3)))))),(103,.x (.agg [.p (.sl 1 (List.map encI y7)),.p (.sl 1 (List.map encI (y7 ++ [(IntKind.i64.wrap (y9-(1:Int)))]))),.p (.sl 1 (List.map encI raw))])),(104,.x (.one (.p (pi v3)))),(187,.x (.agg [.p (.sl 4 (List.map enc_api_Point y37.Points)),.p (.sl 4 (List.map enc_api_Point curve.Points))])),(188,.x (.one (.p (pi (0:Int)))))],mkH [(109,.var [.p (.sl 1 (List.map encI x.Counts))]),(110,.var [.p (pi share.Num),.p (pi share.Den)]),(111,.var [.p (.sl 4 (List.map enc_api_Point curve.Points))]),(116,.var [.p (.sl 1 (List.map encI y3.Counts))]),(117,.var [.p (.sl 1 (List.map encI y5.Counts))]),(1082,.var [.p (.sl 1 (List.map encI y38.L)),.p (pi y38.At)])]⟩) (by kernel_rfl) (by kernel_rfl) (by kernel_rfl) rfl rfl rfl ?_
                refine lok_block ?_
                replace H1:=bind_some H1
                obtain ⟨v_40,hv_40,H1⟩:=H1
                refine lok_iter (fun x_ => ⟨349,mkS [(5,.x (.one (.p (pi m)))),(6,.x (.one (.p (pi most)))),(9,.x (.one (.ptr 109 0))),(10,.x (.one (.ptr 110 0))),(11,.x (.one (.ptr 111 0))),(15,.x (.one (.ptr 1082 0))),(16,.x (.one (.ptr 116 0))),(17,.x (.one (.ptr 117 0))),(21,.x (.one (.p (.sl 1 (List.map encI (ix [y7,(y7 ++ [(IntKind.i64.wrap (y9-(1:Int)))]),raw] v3)))))),(103,.x (.agg [.p (.sl 1 (List.map encI y7)),.p (.sl 1 (List.map encI (y7 ++ [(IntKind.i64.wrap (y9-(1:Int)))]))),.p (.sl 1 (List.map encI raw))])),(104,.x (.one (.p (pi v3)))),(187,.x (.agg [.p (.sl 4 (List.map enc_api_Point y37.Points)),.p (.sl 4 (List.map enc_api_Point curve.Points))])),(188,.x (.one (.p (pi x_))))],mkH [(109,.var [.p (.sl 1 (List.map encI x.Counts))]),(110,.var [.p (pi share.Num),.p (pi share.Den)]),(111,.var [.p (.sl 4 (List.map enc_api_Point curve.Points))]),(116,.var [.p (.sl 1 (List.map encI y3.Counts))]),(117,.var [.p (.sl 1 (List.map encI y5.Counts))]),(1082,.var [.p (.sl 1 (List.map encI y38.L)),.p (pi y38.At)])]⟩) hv_40 imp_au ?_
                · rintro v4 o_2 H2 k_2
                  unfold law35_BoundaryExact_l9 at H2
                  try dsimp only at H2 ⊢
                  refine lok_rt E0 (⟨349,mkS [(5,.x (.one (.p (pi m)))),(6,.x (.one (.p (pi most)))),(9,.x (.one (.ptr 109 0))),(10,.x (.one (.ptr 110 0))),(11,.x (.one (.ptr 111 0))),(15,.x (.one (.ptr 1082 0))),(16,.x (.one (.ptr 116 0))),(17,.x (.one (.ptr 117 0))),(21,.x (.one (.p (.sl 1 (List.map encI (ix [y7,(y7 ++ [(IntKind.i64.wrap (y9-(1:Int)))]),raw] v3)))))),(103,.x (.agg [.p (.sl 1 (List.map encI y7)),.p (.sl 1 (List.map encI (y7 ++ [(IntKind.i64.wrap (y9-(1:Int)))]))),.p (.sl 1 (List.map encI raw))])),(104,.x (.one (.p (pi v3)))),(187,.x (.agg [.p (.sl 4 (List.map enc_api_Point y37.Points)),.p (.sl 4 (List.map enc_api_Point curve.Points))])),(188,.x (.one (.p (pi v4)))),(189,.x (.one (.p (.val (.bool (decide (v4<(2:Int))))))))],mkH [(109,.var [.p (.sl 1 (List.map encI x.Counts))]),(110,.var [.p (pi share.Num),.p (pi share.Den)]),(111,.var [.p (.sl 4 (List.map enc_api_Point curve.Points))]),(116,.var [.p (.sl 1 (List.map encI y3.Counts))]),(117,.var [.p (.sl 1 (List.map encI y5.Counts))]),(1082,.var [.p (.sl 1 (List.map encI y38.L)),.p (pi y38.At)])]⟩) ?_
                  refine lok_seq ?_
                  refine lok_c (decide (v4<(2:Int))) ?_ ?_
                  · intro b_49
                    replace H2:=cpos H2 b_49
                    refine lok_skip ?_
                    try simp only [thenL,blockL,↓reduceIte,reduceCtorEq]
                    refine lok_seq ?_
                    refine lok_block ?_
                    replace H2:=req_some H2
                    obtain ⟨q_48,H2⟩:=H2
                    refine lok_rt E0 (⟨349,mkS [(5,.x (.one (.p (pi m)))),(6,.x (.one (.p (pi most)))),(9,.x (.one (.ptr 109 0))),(10,.x (.one (.ptr 110 0))),(11,.x (.one (.ptr 111 0))),(15,.x (.one (.ptr 1082 0))),(16,.x (.one (.ptr 116 0))),(17,.x (.one (.ptr 117 0))),(21,.x (.one (.p (.sl 1 (List.map encI (ix [y7,(y7 ++ [(IntKind.i64.wrap (y9-(1:Int)))]),raw] v3)))))),(33,.x (.one (.ptr 133 0))),(103,.x (.agg [.p (.sl 1 (List.map encI y7)),.p (.sl 1 (List.map encI (y7 ++ [(IntKind.i64.wrap (y9-(1:Int)))]))),.p (.sl 1 (List.map encI raw))])),(104,.x (.one (.p (pi v3)))),(187,.x (.agg [.p (.sl 4 (List.map enc_api_Point y37.Points)),.p (.sl 4 (List.map enc_api_Point curve.Points))])),(188,.x (.one (.p (pi v4))))],mkH [(109,.var [.p (.sl 1 (List.map encI x.Counts))]),(110,.var [.p (pi share.Num),.p (pi share.Den)]),(111,.var [.p (.sl 4 (List.map enc_api_Point curve.Points))]),(116,.var [.p (.sl 1 (List.map encI y3.Counts))]),(117,.var [.p (.sl 1 (List.map encI y5.Counts))]),(133,.var [.p (.sl 4 (List.map enc_api_Point ((ix [y37,curve] v4).Points)))]),(1082,.var [.p (.sl 1 (List.map encI y38.L)),.p (pi y38.At)])]⟩) ?_
                    replace H2:=bind_some H2
                    obtain ⟨⟨y39,y40⟩,h_41,H2⟩:=H2
                    try dsimp only at H2
                    refine lok_rt (Env.of E0 [⟨some 195,20,[.one (.p (.sl 1 (List.map encI (ix [y7,(y7 ++ [(IntKind.i64.wrap (y9-(1:Int)))]),raw] v3)))),.agg [.p (.sl 4 (List.map enc_api_Point ((ix [y37,curve] v4).Points)))],.one (.p (pi most))],[],[.one (.p (.sl 1 (List.map encI y39))),.one (.p (pi y40))],[],True,fun _ => ok_boundary_Transfer (ix [y7,(y7 ++ [(IntKind.i64.wrap (y9-(1:Int)))]),raw] v3) (ix [y37,curve] v4) most (y39,y40) h_41,[]⟩]) (⟨349,mkS [(5,.x (.one (.p (pi m)))),(6,.x (.one (.p (pi most)))),(9,.x (.one (.ptr 109 0))),(10,.x (.one (.ptr 110 0))),(11,.x (.one (.ptr 111 0))),(15,.x (.one (.ptr 1082 0))),(16,.x (.one (.ptr 116 0))),(17,.x (.one (.ptr 117 0))),(21,.x (.one (.p (.sl 1 (List.map encI (ix [y7,(y7 ++ [(IntKind.i64.wrap (y9-(1:Int)))]),raw] v3)))))),(33,.x (.one (.ptr 133 0))),(34,.x (.one (.p (.sl 1 (List.map encI y39))))),(35,.x (.one (.p (pi y40)))),(103,.x (.agg [.p (.sl 1 (List.map encI y7)),.p (.sl 1 (List.map encI (y7 ++ [(IntKind.i64.wrap (y9-(1:Int)))]))),.p (.sl 1 (List.map encI raw))])),(104,.x (.one (.p (pi v3)))),(187,.x (.agg [.p (.sl 4 (List.map enc_api_Point y37.Points)),.p (.sl 4 (List.map enc_api_Point curve.Points))])),(188,.x (.one (.p (pi v4))))],mkH [(109,.var [.p (.sl 1 (List.map encI x.Counts))]),(110,.var [.p (pi share.Num),.p (pi share.Den)]),(111,.var [.p (.sl 4 (List.map enc_api_Point curve.Points))]),(116,.var [.p (.sl 1 (List.map encI y3.Counts))]),(117,.var [.p (.sl 1 (List.map encI y5.Counts))]),(133,.var [.p (.sl 4 (List.map enc_api_Point ((ix [y37,curve] v4).Points)))]),(1082,.var [.p (.sl 1 (List.map encI y38.L)),.p (pi y38.At)])]⟩) ?_
                    replace H2:=bind_some H2
                    obtain ⟨⟨y41,y42⟩,h_42,H2⟩:=H2
                    try dsimp only at H2
                    refine lok_rt (Env.of E0 [⟨some 202,21,[.one (.p (.sl 1 (List.map encI (ix [y7,(y7 ++ [(IntKind.i64.wrap (y9-(1:Int)))]),raw] v3)))),.agg [.p (.sl 4 (List.map enc_api_Point ((ix [y37,curve] v4).Points)))],.one (.p (pi most))],[],[.one (.p (.sl 1 (List.map encI y41))),.one (.p (pi y42))],[],True,fun _ => ok_ref35_Transfer (ix [y7,(y7 ++ [(IntKind.i64.wrap (y9-(1:Int)))]),raw] v3) (ix [y37,curve] v4) most (y41,y42) h_42,[]⟩]) (⟨349,mkS [(5,.x (.one (.p (pi m)))),(6,.x (.one (.p (pi most)))),(9,.x (.one (.ptr 109 0))),(10,.x (.one (.ptr 110 0))),(11,.x (.one (.ptr 111 0))),(15,.x (.one (.ptr 1082 0))),(16,.x (.one (.ptr 116 0))),(17,.x (.one (.ptr 117 0))),(21,.x (.one (.p (.sl 1 (List.map encI (ix [y7,(y7 ++ [(IntKind.i64.wrap (y9-(1:Int)))]),raw] v3)))))),(33,.x (.one (.ptr 133 0))),(34,.x (.one (.p (.sl 1 (List.map encI y39))))),(35,.x (.one (.p (pi y40)))),(36,.x (.one (.p (.sl 1 (List.map encI y41))))),(37,.x (.one (.p (pi y42)))),(103,.x (.agg [.p (.sl 1 (List.map encI y7)),.p (.sl 1 (List.map encI (y7 ++ [(IntKind.i64.wrap (y9-(1:Int)))]))),.p (.sl 1 (List.map encI raw))])),(104,.x (.one (.p (pi v3)))),(187,.x (.agg [.p (.sl 4 (List.map enc_api_Point y37.Points)),.p (.sl 4 (List.map enc_api_Point curve.Points))])),(188,.x (.one (.p (pi v4))))],mkH [(109,.var [.p (.sl 1 (List.map encI x.Counts))]),(110,.var [.p (pi share.Num),.p (pi share.Den)]),(111,.var [.p (.sl 4 (List.map enc_api_Point curve.Points))]),(116,.var [.p (.sl 1 (List.map encI y3.Counts))]),(117,.var [.p (.sl 1 (List.map encI y5.Counts))]),(133,.var [.p (.sl 4 (List.map enc_api_Point ((ix [y37,curve] v4).Points)))]),(1082,.var [.p (.sl 1 (List.map encI y38.L)),.p (pi y38.At)])]⟩) ?_
                    replace H2:=bind_some H2
                    obtain ⟨⟨y43,y44⟩,h_43,H2⟩:=H2
                    try dsimp only at H2
                    refine lok_rt (Env.of E0 [⟨some 208,20,[.one (.p (.sl 1 (List.map encI (ix [y7,(y7 ++ [(IntKind.i64.wrap (y9-(1:Int)))]),raw] v3)))),.agg [.p (.sl 4 (List.map enc_api_Point ((ix [y37,curve] v4).Points)))],.one (.p (pi (12:Int)))],[],[.one (.p (.sl 1 (List.map encI y43))),.one (.p (pi y44))],[],True,fun _ => ok_boundary_Transfer (ix [y7,(y7 ++ [(IntKind.i64.wrap (y9-(1:Int)))]),raw] v3) (ix [y37,curve] v4) (12:Int) (y43,y44) h_43,[]⟩]) (⟨349,mkS [(5,.x (.one (.p (pi m)))),(6,.x (.one (.p (pi most)))),(9,.x (.one (.ptr 109 0))),(10,.x (.one (.ptr 110 0))),(11,.x (.one (.ptr 111 0))),(15,.x (.one (.ptr 1082 0))),(16,.x (.one (.ptr 116 0))),(17,.x (.one (.ptr 117 0))),(21,.x (.one (.p (.sl 1 (List.map encI (ix [y7,(y7 ++ [(IntKind.i64.wrap (y9-(1:Int)))]),raw] v3)))))),(33,.x (.one (.ptr 133 0))),(34,.x (.one (.p (.sl 1 (List.map encI y39))))),(35,.x (.one (.p (pi y40)))),(36,.x (.one (.p (.sl 1 (List.map encI y41))))),(37,.x (.one (.p (pi y42)))),(38,.x (.one (.p (.sl 1 (List.map encI y43))))),(39,.x (.one (.p (pi y44)))),(103,.x (.agg [.p (.sl 1 (List.map encI y7)),.p (.sl 1 (List.map encI (y7 ++ [(IntKind.i64.wrap (y9-(1:Int)))]))),.p (.sl 1 (List.map encI raw))])),(104,.x (.one (.p (pi v3)))),(187,.x (.agg [.p (.sl 4 (List.map enc_api_Point y37.Points)),.p (.sl 4 (List.map enc_api_Point curve.Points))])),(188,.x (.one (.p (pi v4))))],mkH [(109,.var [.p (.sl 1 (List.map encI x.Counts))]),(110,.var [.p (pi share.Num),.p (pi share.Den)]),(111,.var [.p (.sl 4 (List.map enc_api_Point curve.Points))]),(116,.var [.p (.sl 1 (List.map encI y3.Counts))]),(117,.var [.p (.sl 1 (List.map encI y5.Counts))]),(133,.var [.p (.sl 4 (List.map enc_api_Point ((ix [y37,curve] v4).Points)))]),(1082,.var [.p (.sl 1 (List.map encI y38.L)),.p (pi y38.At)])]⟩) ?_
                    replace H2:=bind_some H2
                    obtain ⟨⟨y45,y46⟩,h_44,H2⟩:=H2
                    try dsimp only at H2
                    refine lok_rt (Env.of E0 [⟨some 214,21,[.one (.p (.sl 1 (List.map encI (ix [y7,(y7 ++ [(IntKind.i64.wrap (y9-(1:Int)))]),raw] v3)))),.agg [.p (.sl 4 (List.map enc_api_Point ((ix [y37,curve] v4).Points)))],.one (.p (pi (12:Int)))],[],[.one (.p (.sl 1 (List.map encI y45))),.one (.p (pi y46))],[],True,fun _ => ok_ref35_Transfer (ix [y7,(y7 ++ [(IntKind.i64.wrap (y9-(1:Int)))]),raw] v3) (ix [y37,curve] v4) (12:Int) (y45,y46) h_44,[]⟩]) (⟨349,mkS [(5,.x (.one (.p (pi m)))),(6,.x (.one (.p (pi most)))),(9,.x (.one (.ptr 109 0))),(10,.x (.one (.ptr 110 0))),(11,.x (.one (.ptr 111 0))),(15,.x (.one (.ptr 1082 0))),(16,.x (.one (.ptr 116 0))),(17,.x (.one (.ptr 117 0))),(21,.x (.one (.p (.sl 1 (List.map encI (ix [y7,(y7 ++ [(IntKind.i64.wrap (y9-(1:Int)))]),raw] v3)))))),(34,.x (.one (.p (.sl 1 (List.map encI y39))))),(35,.x (.one (.p (pi y40)))),(36,.x (.one (.p (.sl 1 (List.map encI y41))))),(37,.x (.one (.p (pi y42)))),(38,.x (.one (.p (.sl 1 (List.map encI y43))))),(39,.x (.one (.p (pi y44)))),(40,.x (.one (.p (.sl 1 (List.map encI y45))))),(41,.x (.one (.p (pi y46)))),(103,.x (.agg [.p (.sl 1 (List.map encI y7)),.p (.sl 1 (List.map encI (y7 ++ [(IntKind.i64.wrap (y9-(1:Int)))]))),.p (.sl 1 (List.map encI raw))])),(104,.x (.one (.p (pi v3)))),(187,.x (.agg [.p (.sl 4 (List.map enc_api_Point y37.Points)),.p (.sl 4 (List.map enc_api_Point curve.Points))])),(188,.x (.one (.p (pi v4))))],mkH [(109,.var [.p (.sl 1 (List.map encI x.Counts))]),(110,.var [.p (pi share.Num),.p (pi share.Den)]),(111,.var [.p (.sl 4 (List.map enc_api_Point curve.Points))]),(116,.var [.p (.sl 1 (List.map encI y3.Counts))]),(117,.var [.p (.sl 1 (List.map encI y5.Counts))]),(1082,.var [.p (.sl 1 (List.map encI y38.L)),.p (pi y38.At)])]⟩) ?_
                    replace H2:=bind_some H2
                    obtain ⟨y47,h_45,H2⟩:=H2
                    replace H2:=req_some H2
                    obtain ⟨q_47,H2⟩:=H2
                    refine lok_rt (Env.of E0 [⟨some 219,18,[.one (.p (.sl 1 (List.map encI y39))),.one (.p (.sl 1 (List.map encI y41)))],[],[.one (.p (.val (.bool y47)))],[],True,fun _ => ok_law35_same y39 y41 y47 h_45,[]⟩,
      ⟨some 229,18,[.one (.p (.sl 1 (List.map encI y43))),.one (.p (.sl 1 (List.map encI y45)))],[],[.one (.p (.val (.bool ((law35_same y43 y45).getD default))))],[],(law35_same y43 y45).isSome=true,fun h => ok_law35_same y43 y45 _ (isSome_get h),[]⟩]) (⟨349,mkS [(5,.x (.one (.p (pi m)))),(6,.x (.one (.p (pi most)))),(9,.x (.one (.ptr 109 0))),(10,.x (.one (.ptr 110 0))),(11,.x (.one (.ptr 111 0))),(15,.x (.one (.ptr 1082 0))),(16,.x (.one (.ptr 116 0))),(17,.x (.one (.ptr 117 0))),(21,.x (.one (.p (.sl 1 (List.map encI (ix [y7,(y7 ++ [(IntKind.i64.wrap (y9-(1:Int)))]),raw] v3)))))),(103,.x (.agg [.p (.sl 1 (List.map encI y7)),.p (.sl 1 (List.map encI (y7 ++ [(IntKind.i64.wrap (y9-(1:Int)))]))),.p (.sl 1 (List.map encI raw))])),(104,.x (.one (.p (pi v3)))),(187,.x (.agg [.p (.sl 4 (List.map enc_api_Point y37.Points)),.p (.sl 4 (List.map enc_api_Point curve.Points))])),(188,.x (.one (.p (pi v4)))),(236,.x (.one (.p (.val (.bool ((((!y47)||(y40 != y42))||(!((law35_same y43 y45).getD default)))||(y44 != y46)))))))],mkH [(109,.var [.p (.sl 1 (List.map encI x.Counts))]),(110,.var [.p (pi share.Num),.p (pi share.Den)]),(111,.var [.p (.sl 4 (List.map enc_api_Point curve.Points))]),(116,.var [.p (.sl 1 (List.map encI y3.Counts))]),(117,.var [.p (.sl 1 (List.map encI y5.Counts))]),(1082,.var [.p (.sl 1 (List.map encI y38.L)),.p (pi y38.At)])]⟩) ?_
                    refine lok_c ((((!y47)||(y40 != y42))||(!((law35_same y43 y45).getD default)))||(y44 != y46)) ?_ ?_
                    · intro b_46
                      replace H2:=cpos H2 b_46
                      refine lok_rt E0 (⟨349,mkS [(14,.x (.one (.p (.val (.bool false)))))],mkH []⟩) ?_
                      refine lok_ret ?_
                      try simp only [thenL,blockL,↓reduceIte,reduceCtorEq]
                      have e_2:=k_2 _ (Option.some.inj H2).symm
                      subst e_2
                      try dsimp only at H1
                      try simp only [thenL,blockL,↓reduceIte,reduceCtorEq]
                      have e_1:=k_1 _ (Option.some.inj H1).symm
                      subst e_1
                      try dsimp only at H0
                      obtain rfl:=Option.some.inj H0
                      try simp only [thenL,blockL]
                      exact fin_au _ (.inr rfl) [] (⟨349,mkS [(14,.x (.one (.p (.val (.bool false)))))],mkH []⟩) rfl rfl imp_au
                    · intro b_46
                      replace H2:=cneg H2 b_46
                      refine lok_skip ?_
                      try simp only [thenL,blockL,↓reduceIte,reduceCtorEq]
                      refine lok_rl E0 (⟨349,mkS [(5,.x (.one (.p (pi m)))),(6,.x (.one (.p (pi most)))),(9,.x (.one (.ptr 109 0))),(10,.x (.one (.ptr 110 0))),(11,.x (.one (.ptr 111 0))),(15,.x (.one (.ptr 1082 0))),(16,.x (.one (.ptr 116 0))),(17,.x (.one (.ptr 117 0))),(21,.x (.one (.p (.sl 1 (List.map encI (ix [y7,(y7 ++ [(IntKind.i64.wrap (y9-(1:Int)))]),raw] v3)))))),(103,.x (.agg [.p (.sl 1 (List.map encI y7)),.p (.sl 1 (List.map encI (y7 ++ [(IntKind.i64.wrap (y9-(1:Int)))]))),.p (.sl 1 (List.map encI raw))])),(104,.x (.one (.p (pi v3)))),(187,.x (.agg [.p (.sl 4 (List.map enc_api_Point y37.Points)),.p (.sl 4 (List.map enc_api_Point curve.Points))])),(188,.x (.one (.p (pi (IntKind.i64.wrap (v4+(1:Int)))))))],mkH [(109,.var [.p (.sl 1 (List.map encI x.Counts))]),(110,.var [.p (pi share.Num),.p (pi share.Den)]),(111,.var [.p (.sl 4 (List.map enc_api_Point curve.Points))]),(116,.var [.p (.sl 1 (List.map encI y3.Counts))]),(117,.var [.p (.sl 1 (List.map encI y5.Counts))]),(1082,.var [.p (.sl 1 (List.map encI y38.L)),.p (pi y38.At)])]⟩) ?_
                      try simp only [thenL,blockL,↓reduceIte,reduceCtorEq]
                      exact ⟨(IntKind.i64.wrap (v4+(1:Int))),(Option.some.inj H2).symm,imp_au⟩
                  · intro b_49
                    replace H2:=cneg H2 b_49
                    refine lok_exit ?_
                    try simp only [thenL,blockL,↓reduceIte,reduceCtorEq]
                    have e_2:=k_2 _ (Option.some.inj H2).symm
                    subst e_2
                    try dsimp only at H1
                    try simp only [thenL,blockL,↓reduceIte,reduceCtorEq]
                    exact ⟨(y38.L,y38.At),H1,imp_au⟩
              case hxlaw35_BoundaryExact_j10 =>
                refine lok_rt E0 (⟨349,mkS [(5,.x (.one (.p (pi m)))),(6,.x (.one (.p (pi most)))),(9,.x (.one (.ptr 109 0))),(10,.x (.one (.ptr 110 0))),(11,.x (.one (.ptr 111 0))),(15,.x (.one (.ptr 1082 0))),(16,.x (.one (.ptr 116 0))),(17,.x (.one (.ptr 117 0))),(21,.x (.one (.p (.sl 1 (List.map encI (ix [y7,(y7 ++ [(IntKind.i64.wrap (y9-(1:Int)))]),raw] v3)))))),(103,.x (.agg [.p (.sl 1 (List.map encI y7)),.p (.sl 1 (List.map encI (y7 ++ [(IntKind.i64.wrap (y9-(1:Int)))]))),.p (.sl 1 (List.map encI raw))])),(104,.x (.one (.p (pi v3)))),(133,.x (.agg [.p (.sl 1 (List.map encI y3.Counts)),.p (.sl 1 (List.map encI y5.Counts)),.p (.sl 1 (List.map encI x.Counts))])),(134,.x (.one (.p (pi (0:Int)))))],mkH [(109,.var [.p (.sl 1 (List.map encI x.Counts))]),(110,.var [.p (pi share.Num),.p (pi share.Den)]),(111,.var [.p (.sl 4 (List.map enc_api_Point curve.Points))]),(116,.var [.p (.sl 1 (List.map encI y3.Counts))]),(117,.var [.p (.sl 1 (List.map encI y5.Counts))]),(1082,.var [.p (.sl 1 (List.map encI w10)),.p (pi w11)])]⟩) ?_
                refine lok_block ?_
                replace H1:=bind_some H1
                obtain ⟨v_50,hv_50,H1⟩:=H1
                refine lok_iter (fun x_ => ⟨349,mkS [(5,.x (.one (.p (pi m)))),(6,.x (.one (.p (pi most)))),(9,.x (.one (.ptr 109 0))),(10,.x (.one (.ptr 110 0))),(11,.x (.one (.ptr 111 0))),(15,.x (.one (.ptr 1082 0))),(16,.x (.one (.ptr 116 0))),(17,.x (.one (.ptr 117 0))),(21,.x (.one (.p (.sl 1 (List.map encI (ix [y7,(y7 ++ [(IntKind.i64.wrap (y9-(1:Int)))]),raw] v3)))))),(103,.x (.agg [.p (.sl 1 (List.map encI y7)),.p (.sl 1 (List.map encI (y7 ++ [(IntKind.i64.wrap (y9-(1:Int)))]))),.p (.sl 1 (List.map encI raw))])),(104,.x (.one (.p (pi v3)))),(133,.x (.agg [.p (.sl 1 (List.map encI y3.Counts)),.p (.sl 1 (List.map encI y5.Counts)),.p (.sl 1 (List.map encI x.Counts))])),(134,.x (.one (.p (pi x_))))],mkH [(109,.var [.p (.sl 1 (List.map encI x.Counts))]),(110,.var [.p (pi share.Num),.p (pi share.Den)]),(111,.var [.p (.sl 4 (List.map enc_api_Point curve.Points))]),(116,.var [.p (.sl 1 (List.map encI y3.Counts))]),(117,.var [.p (.sl 1 (List.map encI y5.Counts))]),(1082,.var [.p (.sl 1 (List.map encI w10)),.p (pi w11)])]⟩) hv_50 imp_au ?_
                · rintro v5 o_2 H2 k_2
                  unfold law35_BoundaryExact_l11 at H2
                  try dsimp only at H2 ⊢
                  refine lok_rt E0 (⟨349,mkS [(5,.x (.one (.p (pi m)))),(6,.x (.one (.p (pi most)))),(9,.x (.one (.ptr 109 0))),(10,.x (.one (.ptr 110 0))),(11,.x (.one (.ptr 111 0))),(15,.x (.one (.ptr 1082 0))),(16,.x (.one (.ptr 116 0))),(17,.x (.one (.ptr 117 0))),(21,.x (.one (.p (.sl 1 (List.map encI (ix [y7,(y7 ++ [(IntKind.i64.wrap (y9-(1:Int)))]),raw] v3)))))),(103,.x (.agg [.p (.sl 1 (List.map encI y7)),.p (.sl 1 (List.map encI (y7 ++ [(IntKind.i64.wrap (y9-(1:Int)))]))),.p (.sl 1 (List.map encI raw))])),(104,.x (.one (.p (pi v3)))),(133,.x (.agg [.p (.sl 1 (List.map encI y3.Counts)),.p (.sl 1 (List.map encI y5.Counts)),.p (.sl 1 (List.map encI x.Counts))])),(134,.x (.one (.p (pi v5)))),(135,.x (.one (.p (.val (.bool (decide (v5<(3:Int))))))))],mkH [(109,.var [.p (.sl 1 (List.map encI x.Counts))]),(110,.var [.p (pi share.Num),.p (pi share.Den)]),(111,.var [.p (.sl 4 (List.map enc_api_Point curve.Points))]),(116,.var [.p (.sl 1 (List.map encI y3.Counts))]),(117,.var [.p (.sl 1 (List.map encI y5.Counts))]),(1082,.var [.p (.sl 1 (List.map encI w10)),.p (pi w11)])]⟩) ?_
                  refine lok_seq ?_
                  refine lok_c (decide (v5<(3:Int))) ?_ ?_
                  · intro b_59
                    replace H2:=cpos H2 b_59
                    refine lok_skip ?_
                    try simp only [thenL,blockL,↓reduceIte,reduceCtorEq]
                    refine lok_seq ?_
                    refine lok_block ?_
                    replace H2:=req_some H2
                    obtain ⟨q_58,H2⟩:=H2
                    refine lok_rt E0 (⟨349,mkS [(5,.x (.one (.p (pi m)))),(6,.x (.one (.p (pi most)))),(9,.x (.one (.ptr 109 0))),(10,.x (.one (.ptr 110 0))),(11,.x (.one (.ptr 111 0))),(15,.x (.one (.ptr 1082 0))),(16,.x (.one (.ptr 116 0))),(17,.x (.one (.ptr 117 0))),(21,.x (.one (.p (.sl 1 (List.map encI (ix [y7,(y7 ++ [(IntKind.i64.wrap (y9-(1:Int)))]),raw] v3)))))),(23,.x (.one (.ptr 123 0))),(103,.x (.agg [.p (.sl 1 (List.map encI y7)),.p (.sl 1 (List.map encI (y7 ++ [(IntKind.i64.wrap (y9-(1:Int)))]))),.p (.sl 1 (List.map encI raw))])),(104,.x (.one (.p (pi v3)))),(133,.x (.agg [.p (.sl 1 (List.map encI y3.Counts)),.p (.sl 1 (List.map encI y5.Counts)),.p (.sl 1 (List.map encI x.Counts))])),(134,.x (.one (.p (pi v5))))],mkH [(109,.var [.p (.sl 1 (List.map encI x.Counts))]),(110,.var [.p (pi share.Num),.p (pi share.Den)]),(111,.var [.p (.sl 4 (List.map enc_api_Point curve.Points))]),(116,.var [.p (.sl 1 (List.map encI y3.Counts))]),(117,.var [.p (.sl 1 (List.map encI y5.Counts))]),(123,.var [.p (.sl 1 (List.map encI ((ix [y3,y5,x] v5).Counts)))]),(1082,.var [.p (.sl 1 (List.map encI w10)),.p (pi w11)])]⟩) ?_
                    replace H2:=bind_some H2
                    obtain ⟨⟨y48,y49⟩,h_51,H2⟩:=H2
                    try dsimp only at H2
                    refine lok_rt (Env.of E0 [⟨some 140,14,[.agg [.p (.sl 1 (List.map encI ((ix [y3,y5,x] v5).Counts)))],.one (.p (.sl 1 (List.map encI (ix [y7,(y7 ++ [(IntKind.i64.wrap (y9-(1:Int)))]),raw] v3))))],[],[.one (.p (.sl 1 (List.map encI y48))),.one (.p (pi y49))],[],True,fun _ => ok_boundary_Tally (ix [y3,y5,x] v5) (ix [y7,(y7 ++ [(IntKind.i64.wrap (y9-(1:Int)))]),raw] v3) (y48,y49) h_51,[]⟩]) (⟨349,mkS [(5,.x (.one (.p (pi m)))),(6,.x (.one (.p (pi most)))),(9,.x (.one (.ptr 109 0))),(10,.x (.one (.ptr 110 0))),(11,.x (.one (.ptr 111 0))),(15,.x (.one (.ptr 1082 0))),(16,.x (.one (.ptr 116 0))),(17,.x (.one (.ptr 117 0))),(21,.x (.one (.p (.sl 1 (List.map encI (ix [y7,(y7 ++ [(IntKind.i64.wrap (y9-(1:Int)))]),raw] v3)))))),(23,.x (.one (.ptr 123 0))),(24,.x (.one (.p (.sl 1 (List.map encI y48))))),(25,.x (.one (.p (pi y49)))),(103,.x (.agg [.p (.sl 1 (List.map encI y7)),.p (.sl 1 (List.map encI (y7 ++ [(IntKind.i64.wrap (y9-(1:Int)))]))),.p (.sl 1 (List.map encI raw))])),(104,.x (.one (.p (pi v3)))),(133,.x (.agg [.p (.sl 1 (List.map encI y3.Counts)),.p (.sl 1 (List.map encI y5.Counts)),.p (.sl 1 (List.map encI x.Counts))])),(134,.x (.one (.p (pi v5))))],mkH [(109,.var [.p (.sl 1 (List.map encI x.Counts))]),(110,.var [.p (pi share.Num),.p (pi share.Den)]),(111,.var [.p (.sl 4 (List.map enc_api_Point curve.Points))]),(116,.var [.p (.sl 1 (List.map encI y3.Counts))]),(117,.var [.p (.sl 1 (List.map encI y5.Counts))]),(123,.var [.p (.sl 1 (List.map encI ((ix [y3,y5,x] v5).Counts)))]),(1082,.var [.p (.sl 1 (List.map encI w10)),.p (pi w11)])]⟩) ?_
                    replace H2:=bind_some H2
                    obtain ⟨⟨y50,y51⟩,h_52,H2⟩:=H2
                    try dsimp only at H2
                    refine lok_rt (Env.of E0 [⟨some 146,15,[.agg [.p (.sl 1 (List.map encI ((ix [y3,y5,x] v5).Counts)))],.one (.p (.sl 1 (List.map encI (ix [y7,(y7 ++ [(IntKind.i64.wrap (y9-(1:Int)))]),raw] v3))))],[],[.one (.p (.sl 1 (List.map encI y50))),.one (.p (pi y51))],[],True,fun _ => ok_ref35_Tally (ix [y3,y5,x] v5) (ix [y7,(y7 ++ [(IntKind.i64.wrap (y9-(1:Int)))]),raw] v3) (y50,y51) h_52,[]⟩]) (⟨349,mkS [(5,.x (.one (.p (pi m)))),(6,.x (.one (.p (pi most)))),(9,.x (.one (.ptr 109 0))),(10,.x (.one (.ptr 110 0))),(11,.x (.one (.ptr 111 0))),(15,.x (.one (.ptr 1082 0))),(16,.x (.one (.ptr 116 0))),(17,.x (.one (.ptr 117 0))),(21,.x (.one (.p (.sl 1 (List.map encI (ix [y7,(y7 ++ [(IntKind.i64.wrap (y9-(1:Int)))]),raw] v3)))))),(23,.x (.one (.ptr 123 0))),(24,.x (.one (.p (.sl 1 (List.map encI y48))))),(25,.x (.one (.p (pi y49)))),(26,.x (.one (.p (.sl 1 (List.map encI y50))))),(27,.x (.one (.p (pi y51)))),(103,.x (.agg [.p (.sl 1 (List.map encI y7)),.p (.sl 1 (List.map encI (y7 ++ [(IntKind.i64.wrap (y9-(1:Int)))]))),.p (.sl 1 (List.map encI raw))])),(104,.x (.one (.p (pi v3)))),(133,.x (.agg [.p (.sl 1 (List.map encI y3.Counts)),.p (.sl 1 (List.map encI y5.Counts)),.p (.sl 1 (List.map encI x.Counts))])),(134,.x (.one (.p (pi v5))))],mkH [(109,.var [.p (.sl 1 (List.map encI x.Counts))]),(110,.var [.p (pi share.Num),.p (pi share.Den)]),(111,.var [.p (.sl 4 (List.map enc_api_Point curve.Points))]),(116,.var [.p (.sl 1 (List.map encI y3.Counts))]),(117,.var [.p (.sl 1 (List.map encI y5.Counts))]),(123,.var [.p (.sl 1 (List.map encI ((ix [y3,y5,x] v5).Counts)))]),(1082,.var [.p (.sl 1 (List.map encI w10)),.p (pi w11)])]⟩) ?_
                    replace H2:=bind_some H2
                    obtain ⟨⟨y52,y53⟩,h_53,H2⟩:=H2
                    try dsimp only at H2
                    refine lok_rt (Env.of E0 [⟨some 153,16,[.agg [.p (.sl 1 (List.map encI ((ix [y3,y5,x] v5).Counts)))],.agg [.p (.sl 1 (List.map encI y5.Counts))],.one (.p (.sl 1 (List.map encI (ix [y7,(y7 ++ [(IntKind.i64.wrap (y9-(1:Int)))]),raw] v3))))],[],[.one (.p (.sl 1 (List.map encI y52))),.one (.p (pi y53))],[],True,fun _ => ok_boundary_Reference (ix [y3,y5,x] v5) y5 (ix [y7,(y7 ++ [(IntKind.i64.wrap (y9-(1:Int)))]),raw] v3) (y52,y53) h_53,[]⟩]) (⟨349,mkS [(5,.x (.one (.p (pi m)))),(6,.x (.one (.p (pi most)))),(9,.x (.one (.ptr 109 0))),(10,.x (.one (.ptr 110 0))),(11,.x (.one (.ptr 111 0))),(15,.x (.one (.ptr 1082 0))),(16,.x (.one (.ptr 116 0))),(17,.x (.one (.ptr 117 0))),(21,.x (.one (.p (.sl 1 (List.map encI (ix [y7,(y7 ++ [(IntKind.i64.wrap (y9-(1:Int)))]),raw] v3)))))),(23,.x (.one (.ptr 123 0))),(24,.x (.one (.p (.sl 1 (List.map encI y48))))),(25,.x (.one (.p (pi y49)))),(26,.x (.one (.p (.sl 1 (List.map encI y50))))),(27,.x (.one (.p (pi y51)))),(28,.x (.one (.p (.sl 1 (List.map encI y52))))),(29,.x (.one (.p (pi y53)))),(103,.x (.agg [.p (.sl 1 (List.map encI y7)),.p (.sl 1 (List.map encI (y7 ++ [(IntKind.i64.wrap (y9-(1:Int)))]))),.p (.sl 1 (List.map encI raw))])),(104,.x (.one (.p (pi v3)))),(133,.x (.agg [.p (.sl 1 (List.map encI y3.Counts)),.p (.sl 1 (List.map encI y5.Counts)),.p (.sl 1 (List.map encI x.Counts))])),(134,.x (.one (.p (pi v5))))],mkH [(109,.var [.p (.sl 1 (List.map encI x.Counts))]),(110,.var [.p (pi share.Num),.p (pi share.Den)]),(111,.var [.p (.sl 4 (List.map enc_api_Point curve.Points))]),(116,.var [.p (.sl 1 (List.map encI y3.Counts))]),(117,.var [.p (.sl 1 (List.map encI y5.Counts))]),(123,.var [.p (.sl 1 (List.map encI ((ix [y3,y5,x] v5).Counts)))]),(1082,.var [.p (.sl 1 (List.map encI w10)),.p (pi w11)])]⟩) ?_
                    replace H2:=bind_some H2
                    obtain ⟨⟨y54,y55⟩,h_54,H2⟩:=H2
                    try dsimp only at H2
                    refine lok_rt (Env.of E0 [⟨some 160,17,[.agg [.p (.sl 1 (List.map encI ((ix [y3,y5,x] v5).Counts)))],.agg [.p (.sl 1 (List.map encI y5.Counts))],.one (.p (.sl 1 (List.map encI (ix [y7,(y7 ++ [(IntKind.i64.wrap (y9-(1:Int)))]),raw] v3))))],[],[.one (.p (.sl 1 (List.map encI y54))),.one (.p (pi y55))],[],True,fun _ => ok_ref35_Reference (ix [y3,y5,x] v5) y5 (ix [y7,(y7 ++ [(IntKind.i64.wrap (y9-(1:Int)))]),raw] v3) (y54,y55) h_54,[]⟩]) (⟨349,mkS [(5,.x (.one (.p (pi m)))),(6,.x (.one (.p (pi most)))),(9,.x (.one (.ptr 109 0))),(10,.x (.one (.ptr 110 0))),(11,.x (.one (.ptr 111 0))),(15,.x (.one (.ptr 1082 0))),(16,.x (.one (.ptr 116 0))),(17,.x (.one (.ptr 117 0))),(21,.x (.one (.p (.sl 1 (List.map encI (ix [y7,(y7 ++ [(IntKind.i64.wrap (y9-(1:Int)))]),raw] v3)))))),(24,.x (.one (.p (.sl 1 (List.map encI y48))))),(25,.x (.one (.p (pi y49)))),(26,.x (.one (.p (.sl 1 (List.map encI y50))))),(27,.x (.one (.p (pi y51)))),(28,.x (.one (.p (.sl 1 (List.map encI y52))))),(29,.x (.one (.p (pi y53)))),(30,.x (.one (.p (.sl 1 (List.map encI y54))))),(31,.x (.one (.p (pi y55)))),(103,.x (.agg [.p (.sl 1 (List.map encI y7)),.p (.sl 1 (List.map encI (y7 ++ [(IntKind.i64.wrap (y9-(1:Int)))]))),.p (.sl 1 (List.map encI raw))])),(104,.x (.one (.p (pi v3)))),(133,.x (.agg [.p (.sl 1 (List.map encI y3.Counts)),.p (.sl 1 (List.map encI y5.Counts)),.p (.sl 1 (List.map encI x.Counts))])),(134,.x (.one (.p (pi v5))))],mkH [(109,.var [.p (.sl 1 (List.map encI x.Counts))]),(110,.var [.p (pi share.Num),.p (pi share.Den)]),(111,.var [.p (.sl 4 (List.map enc_api_Point curve.Points))]),(116,.var [.p (.sl 1 (List.map encI y3.Counts))]),(117,.var [.p (.sl 1 (List.map encI y5.Counts))]),(1082,.var [.p (.sl 1 (List.map encI w10)),.p (pi w11)])]⟩) ?_
                    replace H2:=bind_some H2
                    obtain ⟨y56,h_55,H2⟩:=H2
                    replace H2:=req_some H2
                    obtain ⟨q_57,H2⟩:=H2
                    refine lok_rt (Env.of E0 [⟨some 165,18,[.one (.p (.sl 1 (List.map encI y48))),.one (.p (.sl 1 (List.map encI y50)))],[],[.one (.p (.val (.bool y56)))],[],True,fun _ => ok_law35_same y48 y50 y56 h_55,[]⟩,
      ⟨some 175,18,[.one (.p (.sl 1 (List.map encI y52))),.one (.p (.sl 1 (List.map encI y54)))],[],[.one (.p (.val (.bool ((law35_same y52 y54).getD default))))],[],(law35_same y52 y54).isSome=true,fun h => ok_law35_same y52 y54 _ (isSome_get h),[]⟩]) (⟨349,mkS [(5,.x (.one (.p (pi m)))),(6,.x (.one (.p (pi most)))),(9,.x (.one (.ptr 109 0))),(10,.x (.one (.ptr 110 0))),(11,.x (.one (.ptr 111 0))),(15,.x (.one (.ptr 1082 0))),(16,.x (.one (.ptr 116 0))),(17,.x (.one (.ptr 117 0))),(21,.x (.one (.p (.sl 1 (List.map encI (ix [y7,(y7 ++ [(IntKind.i64.wrap (y9-(1:Int)))]),raw] v3)))))),(103,.x (.agg [.p (.sl 1 (List.map encI y7)),.p (.sl 1 (List.map encI (y7 ++ [(IntKind.i64.wrap (y9-(1:Int)))]))),.p (.sl 1 (List.map encI raw))])),(104,.x (.one (.p (pi v3)))),(133,.x (.agg [.p (.sl 1 (List.map encI y3.Counts)),.p (.sl 1 (List.map encI y5.Counts)),.p (.sl 1 (List.map encI x.Counts))])),(134,.x (.one (.p (pi v5)))),(182,.x (.one (.p (.val (.bool ((((!y56)||(y49 != y51))||(!((law35_same y52 y54).getD default)))||(y53 != y55)))))))],mkH [(109,.var [.p (.sl 1 (List.map encI x.Counts))]),(110,.var [.p (pi share.Num),.p (pi share.Den)]),(111,.var [.p (.sl 4 (List.map enc_api_Point curve.Points))]),(116,.var [.p (.sl 1 (List.map encI y3.Counts))]),(117,.var [.p (.sl 1 (List.map encI y5.Counts))]),(1082,.var [.p (.sl 1 (List.map encI w10)),.p (pi w11)])]⟩) ?_
                    refine lok_c ((((!y56)||(y49 != y51))||(!((law35_same y52 y54).getD default)))||(y53 != y55)) ?_ ?_
                    · intro b_56
                      replace H2:=cpos H2 b_56
                      refine lok_rt E0 (⟨349,mkS [(14,.x (.one (.p (.val (.bool false)))))],mkH []⟩) ?_
                      refine lok_ret ?_
                      try simp only [thenL,blockL,↓reduceIte,reduceCtorEq]
                      have e_2:=k_2 _ (Option.some.inj H2).symm
                      subst e_2
                      try dsimp only at H1
                      try simp only [thenL,blockL,↓reduceIte,reduceCtorEq]
                      have e_1:=k_1 _ (Option.some.inj H1).symm
                      subst e_1
                      try dsimp only at H0
                      obtain rfl:=Option.some.inj H0
                      try simp only [thenL,blockL]
                      exact fin_au _ (.inr rfl) [] (⟨349,mkS [(14,.x (.one (.p (.val (.bool false)))))],mkH []⟩) rfl rfl imp_au
                    · intro b_56
                      replace H2:=cneg H2 b_56
                      refine lok_skip ?_
                      try simp only [thenL,blockL,↓reduceIte,reduceCtorEq]
                      refine lok_rl E0 (⟨349,mkS [(5,.x (.one (.p (pi m)))),(6,.x (.one (.p (pi most)))),(9,.x (.one (.ptr 109 0))),(10,.x (.one (.ptr 110 0))),(11,.x (.one (.ptr 111 0))),(15,.x (.one (.ptr 1082 0))),(16,.x (.one (.ptr 116 0))),(17,.x (.one (.ptr 117 0))),(21,.x (.one (.p (.sl 1 (List.map encI (ix [y7,(y7 ++ [(IntKind.i64.wrap (y9-(1:Int)))]),raw] v3)))))),(103,.x (.agg [.p (.sl 1 (List.map encI y7)),.p (.sl 1 (List.map encI (y7 ++ [(IntKind.i64.wrap (y9-(1:Int)))]))),.p (.sl 1 (List.map encI raw))])),(104,.x (.one (.p (pi v3)))),(133,.x (.agg [.p (.sl 1 (List.map encI y3.Counts)),.p (.sl 1 (List.map encI y5.Counts)),.p (.sl 1 (List.map encI x.Counts))])),(134,.x (.one (.p (pi (IntKind.i64.wrap (v5+(1:Int)))))))],mkH [(109,.var [.p (.sl 1 (List.map encI x.Counts))]),(110,.var [.p (pi share.Num),.p (pi share.Den)]),(111,.var [.p (.sl 4 (List.map enc_api_Point curve.Points))]),(116,.var [.p (.sl 1 (List.map encI y3.Counts))]),(117,.var [.p (.sl 1 (List.map encI y5.Counts))]),(1082,.var [.p (.sl 1 (List.map encI w10)),.p (pi w11)])]⟩) ?_
                      try simp only [thenL,blockL,↓reduceIte,reduceCtorEq]
                      exact ⟨(IntKind.i64.wrap (v5+(1:Int))),(Option.some.inj H2).symm,imp_au⟩
                  · intro b_59
                    replace H2:=cneg H2 b_59
                    refine lok_exit ?_
                    try simp only [thenL,blockL,↓reduceIte,reduceCtorEq]
                    have e_2:=k_2 _ (Option.some.inj H2).symm
                    subst e_2
                    try dsimp only at H1
                    try simp only [thenL,blockL,↓reduceIte,reduceCtorEq]
                    exact ⟨(),H1,imp_au⟩
        · intro b_66
          replace H1:=cneg H1 b_66
          refine lok_exit ?_
          try simp only [thenL,blockL,↓reduceIte,reduceCtorEq]
          have e_1:=k_1 _ (Option.some.inj H1).symm
          subst e_1
          try dsimp only at H0
          try simp only [thenL,blockL,↓reduceIte,reduceCtorEq]
          exact ⟨(w10,w11),H0,imp_au⟩
end Go.LS
