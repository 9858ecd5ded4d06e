/-
  The walks: the functions compute what the plain ones say. Condition: the plain function has a value.
-/
import Derived.Test.YtogfplnonlpmcaaK2
import Derived.Test.YtogfplnonlpmcaaD3
namespace Go.LS
open Go.Proofs
set_option linter.all false
set_option linter.unusedSimpArgs false
set_option linter.unusedVariables false
set_option maxRecDepth 20000

theorem ok_ref35_Check (b : List Int) (most:Int) (r_:Int) (H0 : ref35_Check b most = some r_) : CallOK Try.prog 43 [.one (.p (.sl 1 (List.map encI b))),.one (.p (pi most))] [] [.one (.p (pi r_))] []:=by
  refine callOK (n:=57) (rs:=[.tmp 4]) (nb:=0) (V:=[]) Try.func43 rfl (by kernel_rfl) rfl rfl rfl rfl (Nat.le_of_ble_eq_true rfl) (by decide) ?_
  unfold ref35_Check at H0
  refine lok_rt E0 (⟨57,mkS [(0,.x (.one (.p (.sl 1 (List.map encI b))))),(1,.x (.one (.p (pi most))))],mkH []⟩) ?_
  refine lok_seq ?_
  refine lok_rt E0 (⟨57,mkS [(0,.x (.one (.p (.sl 1 (List.map encI b))))),(1,.x (.one (.p (pi most)))),(12,.x (.one (.p (.val (.bool ((decide (most < (0:Int))) || (decide ((200:Int) < most))))))))],mkH []⟩) ?_
  refine lok_c ((decide (most < (0:Int))) || (decide ((200:Int) < most))) ?_ ?_
  · intro b_11
    replace H0:=cpos H0 b_11
    refine lok_rt E0 (⟨57,mkS [(4,.x (.one (.p (pi (2:Int)))))],mkH []⟩) ?_
    refine lok_ret ?_
    obtain rfl:=Option.some.inj H0
    try simp only [thenL,blockL]
    exact fin_au _ (.inr rfl) [] (⟨57,mkS [(4,.x (.one (.p (pi (2:Int)))))],mkH []⟩) rfl rfl imp_au
  · intro b_11
    replace H0:=cneg H0 b_11
    refine lok_skip ?_
    try simp only [thenL,blockL,↓reduceIte,reduceCtorEq]
    refine lok_seq ?_
    refine lok_rt E0 (⟨57,mkS [(0,.x (.one (.p (.sl 1 (List.map encI b))))),(1,.x (.one (.p (pi most)))),(20,.x (.one (.p (.val (.bool (((b.length:Int) == (0:Int)) || (decide ((9:Int) < (b.length:Int)))))))))],mkH []⟩) ?_
    refine lok_c (((b.length:Int) == (0:Int)) || (decide ((9:Int) < (b.length:Int)))) ?_ ?_
    · intro b_10
      replace H0:=cpos H0 b_10
      refine lok_rt E0 (⟨57,mkS [(4,.x (.one (.p (pi (3:Int)))))],mkH []⟩) ?_
      refine lok_ret ?_
      obtain rfl:=Option.some.inj H0
      try simp only [thenL,blockL]
      exact fin_au _ (.inr rfl) [] (⟨57,mkS [(4,.x (.one (.p (pi (3:Int)))))],mkH []⟩) rfl rfl imp_au
    · intro b_10
      replace H0:=cneg H0 b_10
      refine lok_skip ?_
      try simp only [thenL,blockL,↓reduceIte,reduceCtorEq]
      refine lok_join (fun x_ : Unit => ref35_Check_j3 b = some r_) (fun x_ => ⟨57,mkS [(0,.x (.one (.p (.sl 1 (List.map encI b)))))],mkH []⟩) ?hyref35_Check_j3 ?hxref35_Check_j3
      case hyref35_Check_j3 =>
        rintro _ H0
        try dsimp only at H0 ⊢
        unfold ref35_Check_j3 at H0
        refine lok_join (fun x_ : Unit => ref35_Check_j1 = some r_) (fun x_ => ⟨57,mkS [],mkH []⟩) ?hyref35_Check_j1 ?hxref35_Check_j1
        case hyref35_Check_j1 =>
          rintro _ H0
          try dsimp only at H0 ⊢
          unfold ref35_Check_j1 at H0
          refine lok_rt E0 (⟨57,mkS [(4,.x (.one (.p (pi (0:Int)))))],mkH []⟩) ?_
          refine lok_ret ?_
          obtain rfl:=Option.some.inj H0
          try simp only [thenL,blockL]
          exact fin_au _ (.inr rfl) [] (⟨57,mkS [(4,.x (.one (.p (pi (0:Int)))))],mkH []⟩) rfl rfl imp_au
        case hxref35_Check_j1 =>
          refine lok_rt E0 (⟨57,mkS [(0,.x (.one (.p (.sl 1 (List.map encI b))))),(6,.x (.one (.p (pi (1:Int)))))],mkH []⟩) ?_
          refine lok_block ?_
          replace H0:=bind_some H0
          obtain ⟨v_0,hv_0,H0⟩:=H0
          refine lok_iter (fun x_ => ⟨57,mkS [(0,.x (.one (.p (.sl 1 (List.map encI b))))),(6,.x (.one (.p (pi x_))))],mkH []⟩) hv_0 imp_au ?_
          · rintro i o_1 H1 k_1
            unfold ref35_Check_l2 at H1
            try dsimp only at H1 ⊢
            refine lok_seq ?_
            refine lok_rt E0 (⟨57,mkS [(0,.x (.one (.p (.sl 1 (List.map encI b))))),(6,.x (.one (.p (pi i)))),(44,.x (.one (.p (.val (.bool (decide (i < (b.length:Int))))))))],mkH []⟩) ?_
            refine lok_c (decide (i < (b.length:Int))) ?_ ?_
            · intro b_4
              replace H1:=cpos H1 b_4
              refine lok_skip ?_
              try simp only [thenL,blockL,↓reduceIte,reduceCtorEq]
              refine lok_seq ?_
              refine lok_block ?_
              replace H1:=req_some H1
              obtain ⟨⟨q_2,q_3⟩,H1⟩:=H1
              refine lok_dt E0 9 (⟨57,mkS [(0,.x (.one (.p (.sl 1 (List.map encI b))))),(6,.x (.one (.p (pi i)))),(56,.x (.one (.p (.val (.bool (decide ((ix b (IntKind.i64.wrap (i - (1:Int)))) < (ix b i))))))))],mkH []⟩) (by kernel_rfl) (by kernel_rfl) ?_
              refine lok_c (decide ((ix b (IntKind.i64.wrap (i - (1:Int)))) < (ix b i))) ?_ ?_
              · intro b_1
                replace H1:=cpos H1 b_1
                refine lok_rt E0 (⟨57,mkS [(4,.x (.one (.p (pi (43:Int)))))],mkH []⟩) ?_
                refine lok_ret ?_
                try simp only [thenL,blockL,↓reduceIte,reduceCtorEq]
                have e_1:=k_1 _ (Option.some.inj H1).symm
                subst e_1
                try dsimp only at H0
                obtain rfl:=Option.some.inj H0
                try simp only [thenL,blockL]
                exact fin_au _ (.inr rfl) [] (⟨57,mkS [(4,.x (.one (.p (pi (43:Int)))))],mkH []⟩) rfl rfl imp_au
              · intro b_1
                replace H1:=cneg H1 b_1
                refine lok_skip ?_
                try simp only [thenL,blockL,↓reduceIte,reduceCtorEq]
                refine lok_rl E0 (⟨57,mkS [(0,.x (.one (.p (.sl 1 (List.map encI b))))),(6,.x (.one (.p (pi (IntKind.i64.wrap (i + (1:Int)))))))],mkH []⟩) ?_
                try simp only [thenL,blockL,↓reduceIte,reduceCtorEq]
                exact ⟨(IntKind.i64.wrap (i + (1:Int))),(Option.some.inj H1).symm,imp_au⟩
            · intro b_4
              replace H1:=cneg H1 b_4
              refine lok_exit ?_
              try simp only [thenL,blockL,↓reduceIte,reduceCtorEq]
              have e_1:=k_1 _ (Option.some.inj H1).symm
              subst e_1
              try dsimp only at H0
              try simp only [thenL,blockL,↓reduceIte,reduceCtorEq]
              exact ⟨(),H0,imp_au⟩
      case hxref35_Check_j3 =>
        refine lok_rt E0 (⟨57,mkS [(0,.x (.one (.p (.sl 1 (List.map encI b))))),(1,.x (.one (.p (pi most)))),(5,.x (.one (.p (pi (0:Int)))))],mkH []⟩) ?_
        refine lok_block ?_
        replace H0:=bind_some H0
        obtain ⟨v_5,hv_5,H0⟩:=H0
        refine lok_iter (fun x_ => ⟨57,mkS [(0,.x (.one (.p (.sl 1 (List.map encI b))))),(1,.x (.one (.p (pi most)))),(5,.x (.one (.p (pi x_))))],mkH []⟩) hv_5 imp_au ?_
        · rintro i1 o_1 H1 k_1
          unfold ref35_Check_l4 at H1
          try dsimp only at H1 ⊢
          refine lok_seq ?_
          refine lok_rt E0 (⟨57,mkS [(0,.x (.one (.p (.sl 1 (List.map encI b))))),(1,.x (.one (.p (pi most)))),(5,.x (.one (.p (pi i1)))),(24,.x (.one (.p (.val (.bool (decide (i1 < (b.length:Int))))))))],mkH []⟩) ?_
          refine lok_c (decide (i1 < (b.length:Int))) ?_ ?_
          · intro b_9
            replace H1:=cpos H1 b_9
            refine lok_skip ?_
            try simp only [thenL,blockL,↓reduceIte,reduceCtorEq]
            refine lok_seq ?_
            refine lok_block ?_
            replace H1:=req_some H1
            obtain ⟨⟨q_7,q_8⟩,H1⟩:=H1
            refine lok_rt E0 (⟨57,mkS [(0,.x (.one (.p (.sl 1 (List.map encI b))))),(1,.x (.one (.p (pi most)))),(5,.x (.one (.p (pi i1)))),(40,.x (.one (.p (.val (.bool ((decide ((ix b i1) < (0:Int))) || (decide ((IntKind.i64.wrap (most + (1:Int))) < (ix b i1)))))))))],mkH []⟩) ?_
            refine lok_c ((decide ((ix b i1) < (0:Int))) || (decide ((IntKind.i64.wrap (most + (1:Int))) < (ix b i1)))) ?_ ?_
            · intro b_6
              replace H1:=cpos H1 b_6
              refine lok_rt E0 (⟨57,mkS [(4,.x (.one (.p (pi (2:Int)))))],mkH []⟩) ?_
              refine lok_ret ?_
              try simp only [thenL,blockL,↓reduceIte,reduceCtorEq]
              have e_1:=k_1 _ (Option.some.inj H1).symm
              subst e_1
              try dsimp only at H0
              obtain rfl:=Option.some.inj H0
              try simp only [thenL,blockL]
              exact fin_au _ (.inr rfl) [] (⟨57,mkS [(4,.x (.one (.p (pi (2:Int)))))],mkH []⟩) rfl rfl imp_au
            · intro b_6
              replace H1:=cneg H1 b_6
              refine lok_skip ?_
              try simp only [thenL,blockL,↓reduceIte,reduceCtorEq]
              refine lok_rl E0 (⟨57,mkS [(0,.x (.one (.p (.sl 1 (List.map encI b))))),(1,.x (.one (.p (pi most)))),(5,.x (.one (.p (pi (IntKind.i64.wrap (i1 + (1:Int)))))))],mkH []⟩) ?_
              try simp only [thenL,blockL,↓reduceIte,reduceCtorEq]
              exact ⟨(IntKind.i64.wrap (i1 + (1:Int))),(Option.some.inj H1).symm,imp_au⟩
          · intro b_9
            replace H1:=cneg H1 b_9
            refine lok_exit ?_
            try simp only [thenL,blockL,↓reduceIte,reduceCtorEq]
            have e_1:=k_1 _ (Option.some.inj H1).symm
            subst e_1
            try dsimp only at H0
            try simp only [thenL,blockL,↓reduceIte,reduceCtorEq]
            exact ⟨(),H0,imp_au⟩
theorem ok_ref36_Check (a : api_Award) (r_:Int) (H0 : ref36_Check a = some r_) : CallOK Try.prog 20 [.agg [.p (.sl 3 (List.map enc_api_Unit a.Units)),.p (.sl 1 (List.map encI a.Bounds)),.p (pi a.Max)]] [] [.one (.p (pi r_))] []:=by
  refine callOK (n:=66) (rs:=[.tmp 2]) (nb:=0) (V:=[]) Try.func20 rfl (by kernel_rfl) rfl rfl rfl rfl (Nat.le_of_ble_eq_true rfl) (by decide) ?_
  unfold ref36_Check at H0
  refine lok_rt E0 (⟨66,mkS [(1,.x (.one (.ptr 101 0)))],mkH [(101,.var [.p (.sl 3 (List.map enc_api_Unit a.Units)),.p (.sl 1 (List.map encI a.Bounds)),.p (pi a.Max)])]⟩) ?_
  refine lok_seq ?_
  refine lok_rt E0 (⟨66,mkS [(1,.x (.one (.ptr 101 0))),(14,.x (.one (.p (.val (.bool (((a.Units.length:Int) == (0:Int)) || (decide ((6:Int) < (a.Units.length:Int)))))))))],mkH [(101,.var [.p (.sl 3 (List.map enc_api_Unit a.Units)),.p (.sl 1 (List.map encI a.Bounds)),.p (pi a.Max)])]⟩) ?_
  refine lok_c (((a.Units.length:Int) == (0:Int)) || (decide ((6:Int) < (a.Units.length:Int)))) ?_ ?_
  · intro b_12
    replace H0:=cpos H0 b_12
    refine lok_rt E0 (⟨66,mkS [(2,.x (.one (.p (pi (3:Int)))))],mkH []⟩) ?_
    refine lok_ret ?_
    obtain rfl:=Option.some.inj H0
    try simp only [thenL,blockL]
    exact fin_au _ (.inr rfl) [] (⟨66,mkS [(2,.x (.one (.p (pi (3:Int)))))],mkH []⟩) rfl rfl imp_au
  · intro b_12
    replace H0:=cneg H0 b_12
    refine lok_skip ?_
    try simp only [thenL,blockL,↓reduceIte,reduceCtorEq]
    refine lok_join (fun x_ : Unit => ref36_Check_j1 a = some r_) (fun x_ => ⟨66,mkS [(1,.x (.one (.ptr 101 0)))],mkH [(101,.var [.p (.sl 3 (List.map enc_api_Unit a.Units)),.p (.sl 1 (List.map encI a.Bounds)),.p (pi a.Max)])]⟩) ?hyref36_Check_j1 ?hxref36_Check_j1
    case hyref36_Check_j1 =>
      rintro _ H0
      try dsimp only at H0 ⊢
      unfold ref36_Check_j1 at H0
      refine lok_seq ?_
      replace H0:=bind_some H0
      obtain ⟨y,h_0,H0⟩:=H0
      refine lok_rt (Env.of E0 [⟨some 59,42,[.one (.p (pi a.Max)),.one (.p (pi (1:Int))),.one (.p (pi (200:Int)))],[],[.one (.p (.val (.bool y)))],[],True,fun _ => ok_ref36_in a.Max (1:Int) (200:Int) y h_0,[]⟩]) (⟨66,mkS [(1,.x (.one (.ptr 101 0))),(60,.x (.one (.p (.val (.bool (!y))))))],mkH [(101,.var [.p (.sl 3 (List.map enc_api_Unit a.Units)),.p (.sl 1 (List.map encI a.Bounds)),.p (pi a.Max)])]⟩) ?_
      refine lok_c (!y) ?_ ?_
      · intro b_2
        replace H0:=cpos H0 b_2
        refine lok_rt E0 (⟨66,mkS [(2,.x (.one (.p (pi (2:Int)))))],mkH []⟩) ?_
        refine lok_ret ?_
        obtain rfl:=Option.some.inj H0
        try simp only [thenL,blockL]
        exact fin_au _ (.inr rfl) [] (⟨66,mkS [(2,.x (.one (.p (pi (2:Int)))))],mkH []⟩) rfl rfl imp_au
      · intro b_2
        replace H0:=cneg H0 b_2
        refine lok_skip ?_
        try simp only [thenL,blockL,↓reduceIte,reduceCtorEq]
        replace H0:=bind_some H0
        obtain ⟨y1,h_1,H0⟩:=H0
        refine lok_rt (Env.of E0 [⟨some 65,43,[.one (.p (.sl 1 (List.map encI a.Bounds))),.one (.p (pi a.Max))],[],[.one (.p (pi y1))],[],True,fun _ => ok_ref35_Check a.Bounds a.Max y1 h_1,[]⟩]) (⟨66,mkS [(2,.x (.one (.p (pi y1))))],mkH []⟩) ?_
        refine lok_ret ?_
        obtain rfl:=Option.some.inj H0
        try simp only [thenL,blockL]
        exact fin_au _ (.inr rfl) [] (⟨66,mkS [(2,.x (.one (.p (pi y1))))],mkH []⟩) rfl rfl imp_au
    case hxref36_Check_j1 =>
      refine lok_rt E0 (⟨66,mkS [(1,.x (.one (.ptr 101 0))),(3,.x (.one (.p (pi (0:Int)))))],mkH [(101,.var [.p (.sl 3 (List.map enc_api_Unit a.Units)),.p (.sl 1 (List.map encI a.Bounds)),.p (pi a.Max)])]⟩) ?_
      refine lok_block ?_
      replace H0:=bind_some H0
      obtain ⟨v_3,hv_3,H0⟩:=H0
      refine lok_iter (fun x_ => ⟨66,mkS [(1,.x (.one (.ptr 101 0))),(3,.x (.one (.p (pi x_))))],mkH [(101,.var [.p (.sl 3 (List.map enc_api_Unit a.Units)),.p (.sl 1 (List.map encI a.Bounds)),.p (pi a.Max)])]⟩) hv_3 imp_au ?_
      · rintro i o_1 H1 k_1
        unfold ref36_Check_l2 at H1
        try dsimp only at H1 ⊢
        refine lok_seq ?_
        refine lok_rt E0 (⟨66,mkS [(1,.x (.one (.ptr 101 0))),(3,.x (.one (.p (pi i)))),(19,.x (.one (.p (.val (.bool (decide (i < (a.Units.length:Int))))))))],mkH [(101,.var [.p (.sl 3 (List.map enc_api_Unit a.Units)),.p (.sl 1 (List.map encI a.Bounds)),.p (pi a.Max)])]⟩) ?_
        refine lok_c (decide (i < (a.Units.length:Int))) ?_ ?_
        · intro b_11
          replace H1:=cpos H1 b_11
          refine lok_skip ?_
          try simp only [thenL,blockL,↓reduceIte,reduceCtorEq]
          refine lok_seq ?_
          refine lok_block ?_
          replace H1:=req_some H1
          obtain ⟨q_10,H1⟩:=H1
          refine lok_rt E0 (⟨66,mkS [(1,.x (.one (.ptr 101 0))),(3,.x (.one (.p (pi i)))),(4,.x (.one (.ptr 104 0)))],mkH [(101,.var [.p (.sl 3 (List.map enc_api_Unit a.Units)),.p (.sl 1 (List.map encI a.Bounds)),.p (pi a.Max)]),(104,.var [.p (pi ((ix a.Units i).Paper)),.p (pi ((ix a.Units i).Weight)),.p (pi ((ix a.Units i).Max))])]⟩) ?_
          refine lok_seq ?_
          replace H1:=bind_some H1
          obtain ⟨y2,h_4,H1⟩:=H1
          replace H1:=req_some H1
          obtain ⟨⟨q_8,q_9⟩,H1⟩:=H1
          refine lok_rt (Env.of E0 [⟨some 29,42,[.one (.p (pi ((ix a.Units i).Paper))),.one (.p (pi (0:Int))),.one (.p (pi (31:Int)))],[],[.one (.p (.val (.bool y2)))],[],True,fun _ => ok_ref36_in ((ix a.Units i).Paper) (0:Int) (31:Int) y2 h_4,[]⟩,
      ⟨some 34,42,[.one (.p (pi ((ix a.Units i).Weight))),.one (.p (pi (1:Int))),.one (.p (pi (1000:Int)))],[],[.one (.p (.val (.bool ((ref36_in ((ix a.Units i).Weight) (1:Int) (1000:Int)).getD default))))],[],(ref36_in ((ix a.Units i).Weight) (1:Int) (1000:Int)).isSome = true,fun h => ok_ref36_in ((ix a.Units i).Weight) (1:Int) (1000:Int) _ (isSome_get h),[]⟩,
      ⟨some 40,42,[.one (.p (pi ((ix a.Units i).Max))),.one (.p (pi (1:Int))),.one (.p (pi (200:Int)))],[],[.one (.p (.val (.bool ((ref36_in ((ix a.Units i).Max) (1:Int) (200:Int)).getD default))))],[],(ref36_in ((ix a.Units i).Max) (1:Int) (200:Int)).isSome = true,fun h => ok_ref36_in ((ix a.Units i).Max) (1:Int) (200:Int) _ (isSome_get h),[]⟩]) (⟨66,mkS [(1,.x (.one (.ptr 101 0))),(3,.x (.one (.p (pi i)))),(4,.x (.one (.ptr 104 0))),(42,.x (.one (.p (.val (.bool (((!y2) || (!((ref36_in ((ix a.Units i).Weight) (1:Int) (1000:Int)).getD default))) || (!((ref36_in ((ix a.Units i).Max) (1:Int) (200:Int)).getD default))))))))],mkH [(101,.var [.p (.sl 3 (List.map enc_api_Unit a.Units)),.p (.sl 1 (List.map encI a.Bounds)),.p (pi a.Max)]),(104,.var [.p (pi ((ix a.Units i).Paper)),.p (pi ((ix a.Units i).Weight)),.p (pi ((ix a.Units i).Max))])]⟩) ?_
          refine lok_c (((!y2) || (!((ref36_in ((ix a.Units i).Weight) (1:Int) (1000:Int)).getD default))) || (!((ref36_in ((ix a.Units i).Max) (1:Int) (200:Int)).getD default))) ?_ ?_
          · intro b_7
            replace H1:=cpos H1 b_7
            refine lok_rt E0 (⟨66,mkS [(2,.x (.one (.p (pi (2:Int)))))],mkH []⟩) ?_
            refine lok_ret ?_
            try simp only [thenL,blockL,↓reduceIte,reduceCtorEq]
            have e_1:=k_1 _ (Option.some.inj H1).symm
            subst e_1
            try dsimp only at H0
            obtain rfl:=Option.some.inj H0
            try simp only [thenL,blockL]
            exact fin_au _ (.inr rfl) [] (⟨66,mkS [(2,.x (.one (.p (pi (2:Int)))))],mkH []⟩) rfl rfl imp_au
          · intro b_7
            replace H1:=cneg H1 b_7
            refine lok_skip ?_
            try simp only [thenL,blockL,↓reduceIte,reduceCtorEq]
            replace H1:=req_some H1
            obtain ⟨q_6,H1⟩:=H1
            refine lok_dt E0 12 (⟨66,mkS [(1,.x (.one (.ptr 101 0))),(3,.x (.one (.p (pi i)))),(56,.x (.one (.p (.val (.bool ((decide ((0:Int) < i)) && (decide ((ix a.Units i).Paper ≤ (ix a.Units (IntKind.i64.wrap (i - (1:Int)))).Paper))))))))],mkH [(101,.var [.p (.sl 3 (List.map enc_api_Unit a.Units)),.p (.sl 1 (List.map encI a.Bounds)),.p (pi a.Max)])]⟩) (by kernel_rfl) (by kernel_rfl) ?_
            refine lok_c ((decide ((0:Int) < i)) && (decide ((ix a.Units i).Paper ≤ (ix a.Units (IntKind.i64.wrap (i - (1:Int)))).Paper))) ?_ ?_
            · intro b_5
              replace H1:=cpos H1 b_5
              refine lok_rt E0 (⟨66,mkS [(2,.x (.one (.p (pi (43:Int)))))],mkH []⟩) ?_
              refine lok_ret ?_
              try simp only [thenL,blockL,↓reduceIte,reduceCtorEq]
              have e_1:=k_1 _ (Option.some.inj H1).symm
              subst e_1
              try dsimp only at H0
              obtain rfl:=Option.some.inj H0
              try simp only [thenL,blockL]
              exact fin_au _ (.inr rfl) [] (⟨66,mkS [(2,.x (.one (.p (pi (43:Int)))))],mkH []⟩) rfl rfl imp_au
            · intro b_5
              replace H1:=cneg H1 b_5
              refine lok_skip ?_
              try simp only [thenL,blockL,↓reduceIte,reduceCtorEq]
              refine lok_rl E0 (⟨66,mkS [(1,.x (.one (.ptr 101 0))),(3,.x (.one (.p (pi (IntKind.i64.wrap (i + (1:Int)))))))],mkH [(101,.var [.p (.sl 3 (List.map enc_api_Unit a.Units)),.p (.sl 1 (List.map encI a.Bounds)),.p (pi a.Max)])]⟩) ?_
              try simp only [thenL,blockL,↓reduceIte,reduceCtorEq]
              exact ⟨(IntKind.i64.wrap (i + (1:Int))),(Option.some.inj H1).symm,imp_au⟩
        · intro b_11
          replace H1:=cneg H1 b_11
          refine lok_exit ?_
          try simp only [thenL,blockL,↓reduceIte,reduceCtorEq]
          have e_1:=k_1 _ (Option.some.inj H1).symm
          subst e_1
          try dsimp only at H0
          try simp only [thenL,blockL,↓reduceIte,reduceCtorEq]
          exact ⟨(),H0,imp_au⟩
theorem ok_ref01_Size (n:Int) (r_:Int) (H0 : ref01_Size n = some r_) : CallOK Try.prog 89 [.one (.p (pi n))] [] [.one (.p (.val (.int .u64 r_)))] []:=by
  refine callOK (n:=12) (rs:=[.tmp 2]) (nb:=0) (V:=[]) Try.func89 rfl (by kernel_rfl) rfl rfl rfl rfl (Nat.le_of_ble_eq_true rfl) (by decide) ?_
  unfold ref01_Size at H0
  refine lok_rt E0 (⟨12,mkS [(0,.x (.one (.p (pi n))))],mkH []⟩) ?_
  refine lok_seq ?_
  refine lok_rt E0 (⟨12,mkS [(0,.x (.one (.p (pi n)))),(4,.x (.one (.p (.val (.bool (decide (n < (0:Int))))))))],mkH []⟩) ?_
  refine lok_c (decide (n < (0:Int))) ?_ ?_
  · intro b_1
    replace H0:=cpos H0 b_1
    replace H0:=bindV_some H0
    obtain ⟨v,a_0,H0⟩:=H0
    refine lok_rtg E0 a_0 (⟨12,mkS [(2,.x (.one (.p (.val (.int .u64 v)))))],mkH []⟩) ?_
    refine lok_ret ?_
    obtain rfl:=Option.some.inj H0
    try simp only [thenL,blockL]
    exact fin_au _ (.inr rfl) [] (⟨12,mkS [(2,.x (.one (.p (.val (.int .u64 v)))))],mkH []⟩) rfl rfl imp_au
  · intro b_1
    replace H0:=cneg H0 b_1
    refine lok_skip ?_
    try simp only [thenL,blockL,↓reduceIte,reduceCtorEq]
    refine lok_rt E0 (⟨12,mkS [(2,.x (.one (.p (.val (.int .u64 (IntKind.u64.wrap n))))))],mkH []⟩) ?_
    refine lok_ret ?_
    obtain rfl:=Option.some.inj H0
    try simp only [thenL,blockL]
    exact fin_au _ (.inr rfl) [] (⟨12,mkS [(2,.x (.one (.p (.val (.int .u64 (IntKind.u64.wrap n))))))],mkH []⟩) rfl rfl imp_au
theorem ok_ref01_Order (a : ref01_Wide) (b : ref01_Wide) (r_:Int) (H0 : ref01_Order a b = some r_) : CallOK Try.prog 109 [.agg [.p (.val (.int .u64 a.Hi)),.p (.val (.int .u64 a.Lo))],.agg [.p (.val (.int .u64 b.Hi)),.p (.val (.int .u64 b.Lo))]] [] [.one (.p (pi r_))] []:=by
  refine callOK (n:=27) (rs:=[.tmp 4]) (nb:=0) (V:=[]) Try.func109 rfl (by kernel_rfl) rfl rfl rfl rfl (Nat.le_of_ble_eq_true rfl) (by decide) ?_
  unfold ref01_Order at H0
  refine lok_rt E0 (⟨27,mkS [(2,.x (.one (.ptr 102 0))),(3,.x (.one (.ptr 103 0)))],mkH [(102,.var [.p (.val (.int .u64 a.Hi)),.p (.val (.int .u64 a.Lo))]),(103,.var [.p (.val (.int .u64 b.Hi)),.p (.val (.int .u64 b.Lo))])]⟩) ?_
  refine lok_seq ?_
  refine lok_rt E0 (⟨27,mkS [(2,.x (.one (.ptr 102 0))),(3,.x (.one (.ptr 103 0))),(23,.x (.one (.p (.val (.bool ((decide (a.Hi < b.Hi)) || ((a.Hi == b.Hi) && (decide (a.Lo < b.Lo)))))))))],mkH [(102,.var [.p (.val (.int .u64 a.Hi)),.p (.val (.int .u64 a.Lo))]),(103,.var [.p (.val (.int .u64 b.Hi)),.p (.val (.int .u64 b.Lo))])]⟩) ?_
  refine lok_c ((decide (a.Hi < b.Hi)) || ((a.Hi == b.Hi) && (decide (a.Lo < b.Lo)))) ?_ ?_
  · intro b_1
    replace H0:=cpos H0 b_1
    refine lok_rt E0 (⟨27,mkS [(4,.x (.one (.p (pi (-1:Int)))))],mkH []⟩) ?_
    refine lok_ret ?_
    obtain rfl:=Option.some.inj H0
    try simp only [thenL,blockL]
    exact fin_au _ (.inr rfl) [] (⟨27,mkS [(4,.x (.one (.p (pi (-1:Int)))))],mkH []⟩) rfl rfl imp_au
  · intro b_1
    replace H0:=cneg H0 b_1
    refine lok_skip ?_
    try simp only [thenL,blockL,↓reduceIte,reduceCtorEq]
    refine lok_seq ?_
    refine lok_rt E0 (⟨27,mkS [(26,.x (.one (.p (.val (.bool ((a.Hi == b.Hi) && (a.Lo == b.Lo)))))))],mkH []⟩) ?_
    refine lok_c ((a.Hi == b.Hi) && (a.Lo == b.Lo)) ?_ ?_
    · intro b_0
      replace H0:=cpos H0 b_0
      refine lok_rt E0 (⟨27,mkS [(4,.x (.one (.p (pi (0:Int)))))],mkH []⟩) ?_
      refine lok_ret ?_
      obtain rfl:=Option.some.inj H0
      try simp only [thenL,blockL]
      exact fin_au _ (.inr rfl) [] (⟨27,mkS [(4,.x (.one (.p (pi (0:Int)))))],mkH []⟩) rfl rfl imp_au
    · intro b_0
      replace H0:=cneg H0 b_0
      refine lok_skip ?_
      try simp only [thenL,blockL,↓reduceIte,reduceCtorEq]
      refine lok_rt E0 (⟨27,mkS [(4,.x (.one (.p (pi (1:Int)))))],mkH []⟩) ?_
      refine lok_ret ?_
      obtain rfl:=Option.some.inj H0
      try simp only [thenL,blockL]
      exact fin_au _ (.inr rfl) [] (⟨27,mkS [(4,.x (.one (.p (pi (1:Int)))))],mkH []⟩) rfl rfl imp_au
theorem ok_ref01_Minus (a : ref01_Wide) (b : ref01_Wide) (r_ : ref01_Wide) (H0 : ref01_Minus a b = some r_) : CallOK Try.prog 110 [.agg [.p (.val (.int .u64 a.Hi)),.p (.val (.int .u64 a.Lo))],.agg [.p (.val (.int .u64 b.Hi)),.p (.val (.int .u64 b.Lo))]] [] [.agg [.p (.val (.int .u64 r_.Hi)),.p (.val (.int .u64 r_.Lo))]] []:=by
  refine callOK (n:=29) (rs:=[.cell 4 128]) (nb:=0) (V:=[]) Try.func110 rfl (by kernel_rfl) rfl rfl rfl rfl (Nat.le_of_ble_eq_true rfl) (by decide) ?_
  unfold ref01_Minus at H0
  refine lok_rt E0 (⟨29,mkS [(2,.x (.one (.ptr 102 0))),(3,.x (.one (.ptr 103 0))),(4,.x (.one (.ptr 104 0)))],mkH [(102,.var [.p (.val (.int .u64 a.Hi)),.p (.val (.int .u64 a.Lo))]),(103,.var [.p (.val (.int .u64 b.Hi)),.p (.val (.int .u64 b.Lo))]),(104,.var [.p (.val (.int .u64 (0:Int))),.p (.val (.int .u64 (0:Int)))])]⟩) ?_
  replace H0:=bind_some H0
  obtain ⟨⟨y,y1⟩,h_0,H0⟩:=H0
  try dsimp only at H0
  refine lok_rt (Env.of E0 [⟨some 14,113,[.one (.p (.val (.int .u64 a.Lo))),.one (.p (.val (.int .u64 b.Lo))),.one (.p (.val (.int .u64 (0:Int))))],[],[.one (.p (.val (.int .u64 y))),.one (.p (.val (.int .u64 y1)))],[],True,fun _ => ok_bits_Sub64 a.Lo b.Lo (0:Int) (y,y1) h_0,[]⟩]) (⟨29,mkS [(2,.x (.one (.ptr 102 0))),(3,.x (.one (.ptr 103 0))),(4,.x (.one (.ptr 104 0))),(5,.x (.one (.p (.val (.int .u64 y))))),(6,.x (.one (.p (.val (.int .u64 y1)))))],mkH [(102,.var [.p (.val (.int .u64 a.Hi)),.p (.val (.int .u64 a.Lo))]),(103,.var [.p (.val (.int .u64 b.Hi)),.p (.val (.int .u64 b.Lo))]),(104,.var [.p (.val (.int .u64 (0:Int))),.p (.val (.int .u64 (0:Int)))])]⟩) ?_
  replace H0:=bind_some H0
  obtain ⟨⟨y2,y3⟩,h_1,H0⟩:=H0
  try dsimp only at H0
  refine lok_rt (Env.of E0 [⟨some 23,113,[.one (.p (.val (.int .u64 a.Hi))),.one (.p (.val (.int .u64 b.Hi))),.one (.p (.val (.int .u64 y1)))],[],[.one (.p (.val (.int .u64 y2))),.one (.p (.val (.int .u64 y3)))],[],True,fun _ => ok_bits_Sub64 a.Hi b.Hi y1 (y2,y3) h_1,[]⟩]) (⟨29,mkS [(4,.x (.one (.ptr 104 0))),(5,.x (.one (.p (.val (.int .u64 y))))),(7,.x (.one (.p (.val (.int .u64 y2)))))],mkH [(104,.var [.p (.val (.int .u64 (0:Int))),.p (.val (.int .u64 (0:Int)))])]⟩) ?_
  refine lok_rt E0 (⟨29,mkS [(4,.x (.one (.ptr 104 0)))],mkH [(104,.var [.p (.val (.int .u64 y2)),.p (.val (.int .u64 y))])]⟩) ?_
  refine lok_ret ?_
  obtain rfl:=Option.some.inj H0
  try simp only [thenL,blockL]
  exact fin_au _ (.inr rfl) [] (⟨29,mkS [(4,.x (.one (.ptr 104 0)))],mkH [(104,.var [.p (.val (.int .u64 y2)),.p (.val (.int .u64 y))])]⟩) rfl rfl imp_au
theorem ok_ref01_Twice (a : ref01_Wide) (r_ : ref01_Wide) (H0 : ref01_Twice a = some r_) : CallOK Try.prog 115 [.agg [.p (.val (.int .u64 a.Hi)),.p (.val (.int .u64 a.Lo))]] [] [.agg [.p (.val (.int .u64 r_.Hi)),.p (.val (.int .u64 r_.Lo))]] []:=by
  refine callOK (n:=14) (rs:=[.cell 2 128]) (nb:=0) (V:=[]) Try.func115 rfl (by kernel_rfl) rfl rfl rfl rfl (Nat.le_of_ble_eq_true rfl) (by decide) ?_
  unfold ref01_Twice at H0
  refine lok_rt E0 (⟨14,mkS [(1,.x (.one (.ptr 101 0))),(2,.x (.one (.ptr 102 0)))],mkH [(101,.var [.p (.val (.int .u64 a.Hi)),.p (.val (.int .u64 a.Lo))]),(102,.var [.p (.val (.int .u64 (0:Int))),.p (.val (.int .u64 (0:Int)))])]⟩) ?_
  refine lok_rt E0 (⟨14,mkS [(2,.x (.one (.ptr 102 0)))],mkH [(102,.var [.p (.val (.int .u64 (bOr .u64 (bShl .u64 a.Hi (1:Int)) (bShr .u64 a.Lo (63:Int))))),.p (.val (.int .u64 (bShl .u64 a.Lo (1:Int))))])]⟩) ?_
  refine lok_ret ?_
  obtain rfl:=Option.some.inj H0
  try simp only [thenL,blockL]
  exact fin_au _ (.inr rfl) [] (⟨14,mkS [(2,.x (.one (.ptr 102 0)))],mkH [(102,.var [.p (.val (.int .u64 (bOr .u64 (bShl .u64 a.Hi (1:Int)) (bShr .u64 a.Lo (63:Int))))),.p (.val (.int .u64 (bShl .u64 a.Lo (1:Int))))])]⟩) rfl rfl imp_au
theorem ok_ref01_Divide (a : ref01_Wide) (b : ref01_Wide) (r_ : ref01_Wide × ref01_Wide) (H0 : ref01_Divide a b = some r_) : CallOK Try.prog 107 [.agg [.p (.val (.int .u64 a.Hi)),.p (.val (.int .u64 a.Lo))],.agg [.p (.val (.int .u64 b.Hi)),.p (.val (.int .u64 b.Lo))]] [] [.agg [.p (.val (.int .u64 r_.1.Hi)),.p (.val (.int .u64 r_.1.Lo))],.agg [.p (.val (.int .u64 r_.2.Hi)),.p (.val (.int .u64 r_.2.Lo))]] []:=by
  refine callOK (n:=82) (rs:=[.cell 4 128,.cell 5 128]) (nb:=0) (V:=[]) Try.func107 rfl (by kernel_rfl) rfl rfl rfl rfl (Nat.le_of_ble_eq_true rfl) (by decide) ?_
  unfold ref01_Divide at H0
  refine lok_rt E0 (⟨82,mkS [(2,.x (.one (.ptr 102 0))),(3,.x (.one (.ptr 103 0))),(4,.x (.one (.ptr 104 0))),(5,.x (.one (.ptr 105 0)))],mkH [(102,.var [.p (.val (.int .u64 a.Hi)),.p (.val (.int .u64 a.Lo))]),(103,.var [.p (.val (.int .u64 b.Hi)),.p (.val (.int .u64 b.Lo))]),(104,.var [.p (.val (.int .u64 (0:Int))),.p (.val (.int .u64 (0:Int)))]),(105,.var [.p (.val (.int .u64 (0:Int))),.p (.val (.int .u64 (0:Int)))])]⟩) ?_
  refine lok_seq ?_
  refine lok_rt E0 (⟨82,mkS [(2,.x (.one (.ptr 102 0))),(3,.x (.one (.ptr 103 0))),(4,.x (.one (.ptr 104 0))),(5,.x (.one (.ptr 105 0))),(18,.x (.one (.p (.val (.bool ((a.Hi == (0:Int)) && (b.Hi == (0:Int))))))))],mkH [(102,.var [.p (.val (.int .u64 a.Hi)),.p (.val (.int .u64 a.Lo))]),(103,.var [.p (.val (.int .u64 b.Hi)),.p (.val (.int .u64 b.Lo))]),(104,.var [.p (.val (.int .u64 (0:Int))),.p (.val (.int .u64 (0:Int)))]),(105,.var [.p (.val (.int .u64 (0:Int))),.p (.val (.int .u64 (0:Int)))])]⟩) ?_
  refine lok_c ((a.Hi == (0:Int)) && (b.Hi == (0:Int))) ?_ ?_
  · intro b_13
    replace H0:=cpos H0 b_13
    replace H0:=req_some H0
    obtain ⟨q_0,H0⟩:=H0
    refine lok_et E0 82 [⟨[(2,.x (.one (.ptr 102 0)))],[],[(19,.x (.one (.ptr 102 1)))],[],none⟩,
      ⟨[(19,.x (.one (.ptr 102 1)))],[(102,some (.var [.p (.val (.int .u64 a.Hi)),.p (.val (.int .u64 a.Lo))]))],[(20,.x (.one (.p (.val (.int .u64 a.Lo)))))],[],none⟩,
      ⟨[(3,.x (.one (.ptr 103 0)))],[],[(21,.x (.one (.ptr 103 1)))],[],none⟩,
      ⟨[(21,.x (.one (.ptr 103 1)))],[(103,some (.var [.p (.val (.int .u64 b.Hi)),.p (.val (.int .u64 b.Lo))]))],[(22,.x (.one (.p (.val (.int .u64 b.Lo)))))],[],none⟩,
      ⟨[(20,.x (.one (.p (.val (.int .u64 a.Lo))))),(22,.x (.one (.p (.val (.int .u64 b.Lo)))))],[],[(23,.x (.one (.p (.val (.int .u64 (IntKind.u64.wrap (Int.tdiv a.Lo b.Lo)))))))],[],none⟩,
      ⟨[(23,.x (.one (.p (.val (.int .u64 (IntKind.u64.wrap (Int.tdiv a.Lo b.Lo)))))))],[],[(24,.x (.agg [.p (.val (.int .u64 (0:Int))),.p (.val (.int .u64 (IntKind.u64.wrap (Int.tdiv a.Lo b.Lo))))]))],[],none⟩,
      ⟨[(2,.x (.one (.ptr 102 0)))],[],[(25,.x (.one (.ptr 102 1)))],[],none⟩,
      ⟨[(25,.x (.one (.ptr 102 1)))],[(102,some (.var [.p (.val (.int .u64 a.Hi)),.p (.val (.int .u64 a.Lo))]))],[(26,.x (.one (.p (.val (.int .u64 a.Lo)))))],[],none⟩,
      ⟨[(3,.x (.one (.ptr 103 0)))],[],[(27,.x (.one (.ptr 103 1)))],[],none⟩,
      ⟨[(27,.x (.one (.ptr 103 1)))],[(103,some (.var [.p (.val (.int .u64 b.Hi)),.p (.val (.int .u64 b.Lo))]))],[(28,.x (.one (.p (.val (.int .u64 b.Lo)))))],[],none⟩,
      ⟨[(26,.x (.one (.p (.val (.int .u64 a.Lo))))),(28,.x (.one (.p (.val (.int .u64 b.Lo)))))],[],[(29,.x (.one (.p (.val (.int .u64 (Int.tmod a.Lo b.Lo))))))],[],none⟩,
      ⟨[(29,.x (.one (.p (.val (.int .u64 (Int.tmod a.Lo b.Lo))))))],[],[(30,.x (.agg [.p (.val (.int .u64 (0:Int))),.p (.val (.int .u64 (Int.tmod a.Lo b.Lo)))]))],[],none⟩,
      ⟨[(4,.x (.one (.ptr 104 0))),(24,.x (.agg [.p (.val (.int .u64 (0:Int))),.p (.val (.int .u64 (IntKind.u64.wrap (Int.tdiv a.Lo b.Lo))))]))],[(104,some (.var [.p (.val (.int .u64 (0:Int))),.p (.val (.int .u64 (0:Int)))]))],[],[(104,some (.var [.p (.val (.int .u64 (0:Int))),.p (.val (.int .u64 (IntKind.u64.wrap (Int.tdiv a.Lo b.Lo))))]))],none⟩] (⟨82,mkS [(4,.x (.one (.ptr 104 0))),(5,.x (.one (.ptr 105 0)))],mkH [(104,.var [.p (.val (.int .u64 (0:Int))),.p (.val (.int .u64 (IntKind.u64.wrap (Int.tdiv a.Lo b.Lo))))]),(105,.var [.p (.val (.int .u64 (0:Int))),.p (.val (.int .u64 (Int.tmod a.Lo b.Lo)))])]⟩) (by kernel_rfl) (by kernel_rfl) (by kernel_rfl) rfl rfl rfl ?_
    refine lok_ret ?_
    obtain rfl:=Option.some.inj H0
    try simp only [thenL,blockL]
    exact fin_au _ (.inr rfl) [] (⟨82,mkS [(4,.x (.one (.ptr 104 0))),(5,.x (.one (.ptr 105 0)))],mkH [(104,.var [.p (.val (.int .u64 (0:Int))),.p (.val (.int .u64 (IntKind.u64.wrap (Int.tdiv a.Lo b.Lo))))]),(105,.var [.p (.val (.int .u64 (0:Int))),.p (.val (.int .u64 (Int.tmod a.Lo b.Lo)))])]⟩) rfl rfl imp_au
  · intro b_13
    replace H0:=cneg H0 b_13
    refine lok_skip ?_
    try simp only [thenL,blockL,↓reduceIte,reduceCtorEq]
    refine lok_rt E0 (⟨82,mkS [(2,.x (.one (.ptr 102 0))),(3,.x (.one (.ptr 103 0))),(4,.x (.one (.ptr 104 0))),(5,.x (.one (.ptr 105 0))),(6,.x (.one (.ptr 106 0))),(7,.x (.one (.ptr 107 0)))],mkH [(102,.var [.p (.val (.int .u64 a.Hi)),.p (.val (.int .u64 a.Lo))]),(103,.var [.p (.val (.int .u64 b.Hi)),.p (.val (.int .u64 b.Lo))]),(104,.var [.p (.val (.int .u64 (0:Int))),.p (.val (.int .u64 (0:Int)))]),(105,.var [.p (.val (.int .u64 (0:Int))),.p (.val (.int .u64 (0:Int)))]),(106,.var [.p (.val (.int .u64 (0:Int))),.p (.val (.int .u64 (0:Int)))]),(107,.var [.p (.val (.int .u64 (0:Int))),.p (.val (.int .u64 (0:Int)))])]⟩) ?_
    refine lok_join (fun x_ : Int × Int × Int × Int => ref01_Divide_j1 x_.1 x_.2.1 x_.2.2.1 x_.2.2.2 = some r_) (fun x_ => ⟨82,mkS [(4,.x (.one (.ptr 104 0))),(5,.x (.one (.ptr 105 0))),(6,.x (.one (.ptr 106 0))),(7,.x (.one (.ptr 107 0)))],mkH [(104,.var [.p (.val (.int .u64 (0:Int))),.p (.val (.int .u64 (0:Int)))]),(105,.var [.p (.val (.int .u64 (0:Int))),.p (.val (.int .u64 (0:Int)))]),(106,.var [.p (.val (.int .u64 x_.1)),.p (.val (.int .u64 x_.2.1))]),(107,.var [.p (.val (.int .u64 x_.2.2.1)),.p (.val (.int .u64 x_.2.2.2))])]⟩) ?hyref01_Divide_j1 ?hxref01_Divide_j1
    case hyref01_Divide_j1 =>
      rintro ⟨q,q1,r,r1⟩ H0
      try dsimp only at H0 ⊢
      unfold ref01_Divide_j1 at H0
      refine lok_et E0 82 [⟨[(6,.x (.one (.ptr 106 0)))],[(106,some (.var [.p (.val (.int .u64 q)),.p (.val (.int .u64 q1))]))],[(80,.x (.agg [.p (.val (.int .u64 q)),.p (.val (.int .u64 q1))]))],[],none⟩,
      ⟨[(7,.x (.one (.ptr 107 0)))],[(107,some (.var [.p (.val (.int .u64 r)),.p (.val (.int .u64 r1))]))],[(81,.x (.agg [.p (.val (.int .u64 r)),.p (.val (.int .u64 r1))]))],[],none⟩,
      ⟨[(4,.x (.one (.ptr 104 0))),(80,.x (.agg [.p (.val (.int .u64 q)),.p (.val (.int .u64 q1))]))],[(104,some (.var [.p (.val (.int .u64 (0:Int))),.p (.val (.int .u64 (0:Int)))]))],[],[(104,some (.var [.p (.val (.int .u64 q)),.p (.val (.int .u64 q1))]))],none⟩] (⟨82,mkS [(4,.x (.one (.ptr 104 0))),(5,.x (.one (.ptr 105 0)))],mkH [(104,.var [.p (.val (.int .u64 q)),.p (.val (.int .u64 q1))]),(105,.var [.p (.val (.int .u64 r)),.p (.val (.int .u64 r1))])]⟩) (by kernel_rfl) (by kernel_rfl) (by kernel_rfl) rfl rfl rfl ?_
      refine lok_ret ?_
      obtain rfl:=Option.some.inj H0
      try simp only [thenL,blockL]
      exact fin_au _ (.inr rfl) [] (⟨82,mkS [(4,.x (.one (.ptr 104 0))),(5,.x (.one (.ptr 105 0)))],mkH [(104,.var [.p (.val (.int .u64 q)),.p (.val (.int .u64 q1))]),(105,.var [.p (.val (.int .u64 r)),.p (.val (.int .u64 r1))])]⟩) rfl rfl imp_au
    case hxref01_Divide_j1 =>
      refine lok_rt E0 (⟨82,mkS [(2,.x (.one (.ptr 102 0))),(3,.x (.one (.ptr 103 0))),(4,.x (.one (.ptr 104 0))),(5,.x (.one (.ptr 105 0))),(6,.x (.one (.ptr 106 0))),(7,.x (.one (.ptr 107 0))),(8,.x (.one (.p (pi (127:Int)))))],mkH [(102,.var [.p (.val (.int .u64 a.Hi)),.p (.val (.int .u64 a.Lo))]),(103,.var [.p (.val (.int .u64 b.Hi)),.p (.val (.int .u64 b.Lo))]),(104,.var [.p (.val (.int .u64 (0:Int))),.p (.val (.int .u64 (0:Int)))]),(105,.var [.p (.val (.int .u64 (0:Int))),.p (.val (.int .u64 (0:Int)))]),(106,.var [.p (.val (.int .u64 (0:Int))),.p (.val (.int .u64 (0:Int)))]),(107,.var [.p (.val (.int .u64 (0:Int))),.p (.val (.int .u64 (0:Int)))])]⟩) ?_
      refine lok_block ?_
      replace H0:=bind_some H0
      obtain ⟨v_1,hv_1,H0⟩:=H0
      refine lok_iter (fun x_ => ⟨82,mkS [(2,.x (.one (.ptr 102 0))),(3,.x (.one (.ptr 103 0))),(4,.x (.one (.ptr 104 0))),(5,.x (.one (.ptr 105 0))),(6,.x (.one (.ptr 106 0))),(7,.x (.one (.ptr 107 0))),(8,.x (.one (.p (pi x_.1))))],mkH [(102,.var [.p (.val (.int .u64 a.Hi)),.p (.val (.int .u64 a.Lo))]),(103,.var [.p (.val (.int .u64 b.Hi)),.p (.val (.int .u64 b.Lo))]),(104,.var [.p (.val (.int .u64 (0:Int))),.p (.val (.int .u64 (0:Int)))]),(105,.var [.p (.val (.int .u64 (0:Int))),.p (.val (.int .u64 (0:Int)))]),(106,.var [.p (.val (.int .u64 x_.2.1)),.p (.val (.int .u64 x_.2.2.1))]),(107,.var [.p (.val (.int .u64 x_.2.2.2.1)),.p (.val (.int .u64 x_.2.2.2.2))])]⟩) hv_1 imp_au ?_
      · rintro ⟨i,q2,q3,r2,r3⟩ o_1 H1 k_1
        unfold ref01_Divide_l4 at H1
        try dsimp only at H1 ⊢
        refine lok_seq ?_
        refine lok_rt E0 (⟨82,mkS [(2,.x (.one (.ptr 102 0))),(3,.x (.one (.ptr 103 0))),(4,.x (.one (.ptr 104 0))),(5,.x (.one (.ptr 105 0))),(6,.x (.one (.ptr 106 0))),(7,.x (.one (.ptr 107 0))),(8,.x (.one (.p (pi i)))),(34,.x (.one (.p (.val (.bool (decide ((0:Int) ≤ i)))))))],mkH [(102,.var [.p (.val (.int .u64 a.Hi)),.p (.val (.int .u64 a.Lo))]),(103,.var [.p (.val (.int .u64 b.Hi)),.p (.val (.int .u64 b.Lo))]),(104,.var [.p (.val (.int .u64 (0:Int))),.p (.val (.int .u64 (0:Int)))]),(105,.var [.p (.val (.int .u64 (0:Int))),.p (.val (.int .u64 (0:Int)))]),(106,.var [.p (.val (.int .u64 q2)),.p (.val (.int .u64 q3))]),(107,.var [.p (.val (.int .u64 r2)),.p (.val (.int .u64 r3))])]⟩) ?_
        refine lok_c (decide ((0:Int) ≤ i)) ?_ ?_
        · intro b_12
          replace H1:=cpos H1 b_12
          refine lok_skip ?_
          try simp only [thenL,blockL,↓reduceIte,reduceCtorEq]
          refine lok_join (fun x_ : Int × Int × Int × Int => ref01_Divide_j2 i x_.1 x_.2.1 x_.2.2.1 x_.2.2.2 = some o_1) (fun x_ => ⟨82,mkS [(2,.x (.one (.ptr 102 0))),(3,.x (.one (.ptr 103 0))),(4,.x (.one (.ptr 104 0))),(5,.x (.one (.ptr 105 0))),(6,.x (.one (.ptr 106 0))),(7,.x (.one (.ptr 107 0))),(8,.x (.one (.p (pi i))))],mkH [(102,.var [.p (.val (.int .u64 a.Hi)),.p (.val (.int .u64 a.Lo))]),(103,.var [.p (.val (.int .u64 b.Hi)),.p (.val (.int .u64 b.Lo))]),(104,.var [.p (.val (.int .u64 (0:Int))),.p (.val (.int .u64 (0:Int)))]),(105,.var [.p (.val (.int .u64 (0:Int))),.p (.val (.int .u64 (0:Int)))]),(106,.var [.p (.val (.int .u64 x_.1)),.p (.val (.int .u64 x_.2.1))]),(107,.var [.p (.val (.int .u64 x_.2.2.1)),.p (.val (.int .u64 x_.2.2.2))])]⟩) ?hyref01_Divide_j2 ?hxref01_Divide_j2
          case hyref01_Divide_j2 =>
            rintro ⟨q6,q7,r6,r7⟩ H1
            try dsimp only at H1 ⊢
            unfold ref01_Divide_j2 at H1
            refine lok_rl E0 (⟨82,mkS [(2,.x (.one (.ptr 102 0))),(3,.x (.one (.ptr 103 0))),(4,.x (.one (.ptr 104 0))),(5,.x (.one (.ptr 105 0))),(6,.x (.one (.ptr 106 0))),(7,.x (.one (.ptr 107 0))),(8,.x (.one (.p (pi (IntKind.i64.wrap (i - (1:Int)))))))],mkH [(102,.var [.p (.val (.int .u64 a.Hi)),.p (.val (.int .u64 a.Lo))]),(103,.var [.p (.val (.int .u64 b.Hi)),.p (.val (.int .u64 b.Lo))]),(104,.var [.p (.val (.int .u64 (0:Int))),.p (.val (.int .u64 (0:Int)))]),(105,.var [.p (.val (.int .u64 (0:Int))),.p (.val (.int .u64 (0:Int)))]),(106,.var [.p (.val (.int .u64 q6)),.p (.val (.int .u64 q7))]),(107,.var [.p (.val (.int .u64 r6)),.p (.val (.int .u64 r7))])]⟩) ?_
            try simp only [thenL,blockL,↓reduceIte,reduceCtorEq]
            exact ⟨((IntKind.i64.wrap (i - (1:Int))),q6,q7,r6,r7),(Option.some.inj H1).symm,imp_au⟩
          case hxref01_Divide_j2 =>
            refine lok_block ?_
            replace H1:=req_some H1
            obtain ⟨q_11,H1⟩:=H1
            replace H1:=bindV_some H1
            obtain ⟨bit,a_2,H1⟩:=H1
            refine lok_rtg E0 a_2 (⟨82,mkS [(2,.x (.one (.ptr 102 0))),(3,.x (.one (.ptr 103 0))),(4,.x (.one (.ptr 104 0))),(5,.x (.one (.ptr 105 0))),(6,.x (.one (.ptr 106 0))),(7,.x (.one (.ptr 107 0))),(8,.x (.one (.p (pi i)))),(9,.x (.one (.p (.val (.int .u64 bit)))))],mkH [(102,.var [.p (.val (.int .u64 a.Hi)),.p (.val (.int .u64 a.Lo))]),(103,.var [.p (.val (.int .u64 b.Hi)),.p (.val (.int .u64 b.Lo))]),(104,.var [.p (.val (.int .u64 (0:Int))),.p (.val (.int .u64 (0:Int)))]),(105,.var [.p (.val (.int .u64 (0:Int))),.p (.val (.int .u64 (0:Int)))]),(106,.var [.p (.val (.int .u64 q2)),.p (.val (.int .u64 q3))]),(107,.var [.p (.val (.int .u64 r2)),.p (.val (.int .u64 r3))])]⟩) ?_
            refine lok_join (fun x_ : Int => ref01_Divide_j3 b i q2 q3 r2 r3 x_ = some o_1) (fun x_ => ⟨82,mkS [(2,.x (.one (.ptr 102 0))),(3,.x (.one (.ptr 103 0))),(4,.x (.one (.ptr 104 0))),(5,.x (.one (.ptr 105 0))),(6,.x (.one (.ptr 106 0))),(7,.x (.one (.ptr 107 0))),(8,.x (.one (.p (pi i)))),(9,.x (.one (.p (.val (.int .u64 x_)))))],mkH [(102,.var [.p (.val (.int .u64 a.Hi)),.p (.val (.int .u64 a.Lo))]),(103,.var [.p (.val (.int .u64 b.Hi)),.p (.val (.int .u64 b.Lo))]),(104,.var [.p (.val (.int .u64 (0:Int))),.p (.val (.int .u64 (0:Int)))]),(105,.var [.p (.val (.int .u64 (0:Int))),.p (.val (.int .u64 (0:Int)))]),(106,.var [.p (.val (.int .u64 q2)),.p (.val (.int .u64 q3))]),(107,.var [.p (.val (.int .u64 r2)),.p (.val (.int .u64 r3))])]⟩) ?hyref01_Divide_j3 ?hxref01_Divide_j3
            case hyref01_Divide_j3 =>
              rintro bit1 H1
              try dsimp only at H1 ⊢
              unfold ref01_Divide_j3 at H1
              refine lok_rt E0 (⟨82,mkS [(2,.x (.one (.ptr 102 0))),(3,.x (.one (.ptr 103 0))),(4,.x (.one (.ptr 104 0))),(5,.x (.one (.ptr 105 0))),(6,.x (.one (.ptr 106 0))),(7,.x (.one (.ptr 107 0))),(8,.x (.one (.p (pi i)))),(9,.x (.one (.p (.val (.int .u64 bit1))))),(10,.x (.one (.p (.val (.bool ((bShr .u64 r2 (63:Int)) == (1:Int)))))))],mkH [(102,.var [.p (.val (.int .u64 a.Hi)),.p (.val (.int .u64 a.Lo))]),(103,.var [.p (.val (.int .u64 b.Hi)),.p (.val (.int .u64 b.Lo))]),(104,.var [.p (.val (.int .u64 (0:Int))),.p (.val (.int .u64 (0:Int)))]),(105,.var [.p (.val (.int .u64 (0:Int))),.p (.val (.int .u64 (0:Int)))]),(106,.var [.p (.val (.int .u64 q2)),.p (.val (.int .u64 q3))]),(107,.var [.p (.val (.int .u64 r2)),.p (.val (.int .u64 r3))])]⟩) ?_
              replace H1:=bind_some H1
              obtain ⟨y,h_3,H1⟩:=H1
              refine lok_rt (Env.of E0 [⟨some 58,115,[.agg [.p (.val (.int .u64 r2)),.p (.val (.int .u64 r3))]],[],[.agg [.p (.val (.int .u64 y.Hi)),.p (.val (.int .u64 y.Lo))]],[],True,fun _ => ok_ref01_Twice (ref01_Wide.mk r2 r3) y h_3,[]⟩]) (⟨82,mkS [(2,.x (.one (.ptr 102 0))),(3,.x (.one (.ptr 103 0))),(4,.x (.one (.ptr 104 0))),(5,.x (.one (.ptr 105 0))),(6,.x (.one (.ptr 106 0))),(7,.x (.one (.ptr 107 0))),(8,.x (.one (.p (pi i)))),(9,.x (.one (.p (.val (.int .u64 bit1))))),(10,.x (.one (.p (.val (.bool ((bShr .u64 r2 (63:Int)) == (1:Int)))))))],mkH [(102,.var [.p (.val (.int .u64 a.Hi)),.p (.val (.int .u64 a.Lo))]),(103,.var [.p (.val (.int .u64 b.Hi)),.p (.val (.int .u64 b.Lo))]),(104,.var [.p (.val (.int .u64 (0:Int))),.p (.val (.int .u64 (0:Int)))]),(105,.var [.p (.val (.int .u64 (0:Int))),.p (.val (.int .u64 (0:Int)))]),(106,.var [.p (.val (.int .u64 q2)),.p (.val (.int .u64 q3))]),(107,.var [.p (.val (.int .u64 y.Hi)),.p (.val (.int .u64 y.Lo))])]⟩) ?_
              refine lok_rt E0 (⟨82,mkS [(2,.x (.one (.ptr 102 0))),(3,.x (.one (.ptr 103 0))),(4,.x (.one (.ptr 104 0))),(5,.x (.one (.ptr 105 0))),(6,.x (.one (.ptr 106 0))),(7,.x (.one (.ptr 107 0))),(8,.x (.one (.p (pi i)))),(10,.x (.one (.p (.val (.bool ((bShr .u64 r2 (63:Int)) == (1:Int)))))))],mkH [(102,.var [.p (.val (.int .u64 a.Hi)),.p (.val (.int .u64 a.Lo))]),(103,.var [.p (.val (.int .u64 b.Hi)),.p (.val (.int .u64 b.Lo))]),(104,.var [.p (.val (.int .u64 (0:Int))),.p (.val (.int .u64 (0:Int)))]),(105,.var [.p (.val (.int .u64 (0:Int))),.p (.val (.int .u64 (0:Int)))]),(106,.var [.p (.val (.int .u64 q2)),.p (.val (.int .u64 q3))]),(107,.var [.p (.val (.int .u64 y.Hi)),.p (.val (.int .u64 (bOr .u64 y.Lo bit1)))])]⟩) ?_
              replace H1:=bind_some H1
              obtain ⟨y1,h_4,H1⟩:=H1
              refine lok_rt (Env.of E0 [⟨some 65,115,[.agg [.p (.val (.int .u64 q2)),.p (.val (.int .u64 q3))]],[],[.agg [.p (.val (.int .u64 y1.Hi)),.p (.val (.int .u64 y1.Lo))]],[],True,fun _ => ok_ref01_Twice (ref01_Wide.mk q2 q3) y1 h_4,[]⟩]) (⟨82,mkS [(2,.x (.one (.ptr 102 0))),(3,.x (.one (.ptr 103 0))),(4,.x (.one (.ptr 104 0))),(5,.x (.one (.ptr 105 0))),(6,.x (.one (.ptr 106 0))),(7,.x (.one (.ptr 107 0))),(8,.x (.one (.p (pi i)))),(10,.x (.one (.p (.val (.bool ((bShr .u64 r2 (63:Int)) == (1:Int)))))))],mkH [(102,.var [.p (.val (.int .u64 a.Hi)),.p (.val (.int .u64 a.Lo))]),(103,.var [.p (.val (.int .u64 b.Hi)),.p (.val (.int .u64 b.Lo))]),(104,.var [.p (.val (.int .u64 (0:Int))),.p (.val (.int .u64 (0:Int)))]),(105,.var [.p (.val (.int .u64 (0:Int))),.p (.val (.int .u64 (0:Int)))]),(106,.var [.p (.val (.int .u64 y1.Hi)),.p (.val (.int .u64 y1.Lo))]),(107,.var [.p (.val (.int .u64 y.Hi)),.p (.val (.int .u64 (bOr .u64 y.Lo bit1)))])]⟩) ?_
              replace H1:=req_some H1
              obtain ⟨q_7,H1⟩:=H1
              refine lok_rt (Env.of E0 [⟨some 70,109,[.agg [.p (.val (.int .u64 y.Hi)),.p (.val (.int .u64 (bOr .u64 y.Lo bit1)))],.agg [.p (.val (.int .u64 b.Hi)),.p (.val (.int .u64 b.Lo))]],[],[.one (.p (pi ((ref01_Order (ref01_Wide.mk y.Hi (bOr .u64 y.Lo bit1)) b).getD default)))],[],(ref01_Order (ref01_Wide.mk y.Hi (bOr .u64 y.Lo bit1)) b).isSome = true,fun h => ok_ref01_Order (ref01_Wide.mk y.Hi (bOr .u64 y.Lo bit1)) b _ (isSome_get h),[]⟩]) (⟨82,mkS [(2,.x (.one (.ptr 102 0))),(3,.x (.one (.ptr 103 0))),(4,.x (.one (.ptr 104 0))),(5,.x (.one (.ptr 105 0))),(6,.x (.one (.ptr 106 0))),(7,.x (.one (.ptr 107 0))),(8,.x (.one (.p (pi i)))),(72,.x (.one (.p (.val (.bool (((bShr .u64 r2 (63:Int)) == (1:Int)) || (decide ((0:Int) ≤ ((ref01_Order (ref01_Wide.mk y.Hi (bOr .u64 y.Lo bit1)) b).getD default)))))))))],mkH [(102,.var [.p (.val (.int .u64 a.Hi)),.p (.val (.int .u64 a.Lo))]),(103,.var [.p (.val (.int .u64 b.Hi)),.p (.val (.int .u64 b.Lo))]),(104,.var [.p (.val (.int .u64 (0:Int))),.p (.val (.int .u64 (0:Int)))]),(105,.var [.p (.val (.int .u64 (0:Int))),.p (.val (.int .u64 (0:Int)))]),(106,.var [.p (.val (.int .u64 y1.Hi)),.p (.val (.int .u64 y1.Lo))]),(107,.var [.p (.val (.int .u64 y.Hi)),.p (.val (.int .u64 (bOr .u64 y.Lo bit1)))])]⟩) ?_
              refine lok_c (((bShr .u64 r2 (63:Int)) == (1:Int)) || (decide ((0:Int) ≤ ((ref01_Order (ref01_Wide.mk y.Hi (bOr .u64 y.Lo bit1)) b).getD default)))) ?_ ?_
              · intro b_6
                replace H1:=cpos H1 b_6
                replace H1:=bind_some H1
                obtain ⟨y2,h_5,H1⟩:=H1
                refine lok_rt (Env.of E0 [⟨some 75,110,[.agg [.p (.val (.int .u64 y.Hi)),.p (.val (.int .u64 (bOr .u64 y.Lo bit1)))],.agg [.p (.val (.int .u64 b.Hi)),.p (.val (.int .u64 b.Lo))]],[],[.agg [.p (.val (.int .u64 y2.Hi)),.p (.val (.int .u64 y2.Lo))]],[],True,fun _ => ok_ref01_Minus (ref01_Wide.mk y.Hi (bOr .u64 y.Lo bit1)) b y2 h_5,[]⟩]) (⟨82,mkS [(2,.x (.one (.ptr 102 0))),(3,.x (.one (.ptr 103 0))),(4,.x (.one (.ptr 104 0))),(5,.x (.one (.ptr 105 0))),(6,.x (.one (.ptr 106 0))),(7,.x (.one (.ptr 107 0))),(8,.x (.one (.p (pi i))))],mkH [(102,.var [.p (.val (.int .u64 a.Hi)),.p (.val (.int .u64 a.Lo))]),(103,.var [.p (.val (.int .u64 b.Hi)),.p (.val (.int .u64 b.Lo))]),(104,.var [.p (.val (.int .u64 (0:Int))),.p (.val (.int .u64 (0:Int)))]),(105,.var [.p (.val (.int .u64 (0:Int))),.p (.val (.int .u64 (0:Int)))]),(106,.var [.p (.val (.int .u64 y1.Hi)),.p (.val (.int .u64 y1.Lo))]),(107,.var [.p (.val (.int .u64 y2.Hi)),.p (.val (.int .u64 y2.Lo))])]⟩) ?_
                refine lok_rl E0 (⟨82,mkS [(2,.x (.one (.ptr 102 0))),(3,.x (.one (.ptr 103 0))),(4,.x (.one (.ptr 104 0))),(5,.x (.one (.ptr 105 0))),(6,.x (.one (.ptr 106 0))),(7,.x (.one (.ptr 107 0))),(8,.x (.one (.p (pi i))))],mkH [(102,.var [.p (.val (.int .u64 a.Hi)),.p (.val (.int .u64 a.Lo))]),(103,.var [.p (.val (.int .u64 b.Hi)),.p (.val (.int .u64 b.Lo))]),(104,.var [.p (.val (.int .u64 (0:Int))),.p (.val (.int .u64 (0:Int)))]),(105,.var [.p (.val (.int .u64 (0:Int))),.p (.val (.int .u64 (0:Int)))]),(106,.var [.p (.val (.int .u64 y1.Hi)),.p (.val (.int .u64 (bOr .u64 y1.Lo (1:Int))))]),(107,.var [.p (.val (.int .u64 y2.Hi)),.p (.val (.int .u64 y2.Lo))])]⟩) ?_
                try simp only [thenL,blockL,↓reduceIte,reduceCtorEq]
                exact ⟨(y1.Hi,(bOr .u64 y1.Lo (1:Int)),y2.Hi,y2.Lo),H1,imp_au⟩
              · intro b_6
                replace H1:=cneg H1 b_6
                refine lok_skip ?_
                try simp only [thenL,blockL,↓reduceIte,reduceCtorEq]
                exact ⟨(y1.Hi,y1.Lo,y.Hi,(bOr .u64 y.Lo bit1)),H1,imp_au⟩
            case hxref01_Divide_j3 =>
              refine lok_rt E0 (⟨82,mkS [(2,.x (.one (.ptr 102 0))),(3,.x (.one (.ptr 103 0))),(4,.x (.one (.ptr 104 0))),(5,.x (.one (.ptr 105 0))),(6,.x (.one (.ptr 106 0))),(7,.x (.one (.ptr 107 0))),(8,.x (.one (.p (pi i)))),(9,.x (.one (.p (.val (.int .u64 bit))))),(45,.x (.one (.p (.val (.bool (decide ((64:Int) ≤ i)))))))],mkH [(102,.var [.p (.val (.int .u64 a.Hi)),.p (.val (.int .u64 a.Lo))]),(103,.var [.p (.val (.int .u64 b.Hi)),.p (.val (.int .u64 b.Lo))]),(104,.var [.p (.val (.int .u64 (0:Int))),.p (.val (.int .u64 (0:Int)))]),(105,.var [.p (.val (.int .u64 (0:Int))),.p (.val (.int .u64 (0:Int)))]),(106,.var [.p (.val (.int .u64 q2)),.p (.val (.int .u64 q3))]),(107,.var [.p (.val (.int .u64 r2)),.p (.val (.int .u64 r3))])]⟩) ?_
              refine lok_c (decide ((64:Int) ≤ i)) ?_ ?_
              · intro b_10
                replace H1:=cpos H1 b_10
                replace H1:=req_some H1
                obtain ⟨q_9,H1⟩:=H1
                replace H1:=bindV_some H1
                obtain ⟨bit2,a_8,H1⟩:=H1
                refine lok_rlg E0 a_8 (⟨82,mkS [(2,.x (.one (.ptr 102 0))),(3,.x (.one (.ptr 103 0))),(4,.x (.one (.ptr 104 0))),(5,.x (.one (.ptr 105 0))),(6,.x (.one (.ptr 106 0))),(7,.x (.one (.ptr 107 0))),(8,.x (.one (.p (pi i)))),(9,.x (.one (.p (.val (.int .u64 bit2)))))],mkH [(102,.var [.p (.val (.int .u64 a.Hi)),.p (.val (.int .u64 a.Lo))]),(103,.var [.p (.val (.int .u64 b.Hi)),.p (.val (.int .u64 b.Lo))]),(104,.var [.p (.val (.int .u64 (0:Int))),.p (.val (.int .u64 (0:Int)))]),(105,.var [.p (.val (.int .u64 (0:Int))),.p (.val (.int .u64 (0:Int)))]),(106,.var [.p (.val (.int .u64 q2)),.p (.val (.int .u64 q3))]),(107,.var [.p (.val (.int .u64 r2)),.p (.val (.int .u64 r3))])]⟩) ?_
                try simp only [thenL,blockL,↓reduceIte,reduceCtorEq]
                exact ⟨bit2,H1,imp_au⟩
              · intro b_10
                replace H1:=cneg H1 b_10
                refine lok_skip ?_
                try simp only [thenL,blockL,↓reduceIte,reduceCtorEq]
                exact ⟨bit,H1,imp_au⟩
        · intro b_12
          replace H1:=cneg H1 b_12
          refine lok_exit ?_
          try simp only [thenL,blockL,↓reduceIte,reduceCtorEq]
          have e_1:=k_1 _ (Option.some.inj H1).symm
          subst e_1
          try dsimp only at H0
          try simp only [thenL,blockL,↓reduceIte,reduceCtorEq]
          exact ⟨(q2,q3,r2,r3),H0,imp_au⟩
theorem ok_ref01_Divisor (a : ref01_Wide) (b : ref01_Wide) (r_ : ref01_Wide) (H0 : ref01_Divisor a b = some r_) : CallOK Try.prog 95 [.agg [.p (.val (.int .u64 a.Hi)),.p (.val (.int .u64 a.Lo))],.agg [.p (.val (.int .u64 b.Hi)),.p (.val (.int .u64 b.Lo))]] [] [.agg [.p (.val (.int .u64 r_.Hi)),.p (.val (.int .u64 r_.Lo))]] []:=by
  refine callOK (n:=19) (rs:=[.cell 4 128]) (nb:=0) (V:=[]) Try.func95 rfl (by kernel_rfl) rfl rfl rfl rfl (Nat.le_of_ble_eq_true rfl) (by decide) ?_
  unfold ref01_Divisor at H0
  refine lok_rt E0 (⟨19,mkS [(2,.x (.one (.ptr 102 0))),(3,.x (.one (.ptr 103 0))),(4,.x (.one (.ptr 104 0)))],mkH [(102,.var [.p (.val (.int .u64 a.Hi)),.p (.val (.int .u64 a.Lo))]),(103,.var [.p (.val (.int .u64 b.Hi)),.p (.val (.int .u64 b.Lo))]),(104,.var [.p (.val (.int .u64 (0:Int))),.p (.val (.int .u64 (0:Int)))])]⟩) ?_
  refine lok_join (fun x_ : Int × Int => ref01_Divisor_j1 x_.1 x_.2 = some r_) (fun x_ => ⟨19,mkS [(2,.x (.one (.ptr 102 0))),(4,.x (.one (.ptr 104 0)))],mkH [(102,.var [.p (.val (.int .u64 x_.1)),.p (.val (.int .u64 x_.2))]),(104,.var [.p (.val (.int .u64 (0:Int))),.p (.val (.int .u64 (0:Int)))])]⟩) ?hyref01_Divisor_j1 ?hxref01_Divisor_j1
  case hyref01_Divisor_j1 =>
    rintro ⟨a1,a2⟩ H0
    try dsimp only at H0 ⊢
    unfold ref01_Divisor_j1 at H0
    refine lok_rt E0 (⟨19,mkS [(4,.x (.one (.ptr 104 0)))],mkH [(104,.var [.p (.val (.int .u64 a1)),.p (.val (.int .u64 a2))])]⟩) ?_
    refine lok_ret ?_
    obtain rfl:=Option.some.inj H0
    try simp only [thenL,blockL]
    exact fin_au _ (.inr rfl) [] (⟨19,mkS [(4,.x (.one (.ptr 104 0)))],mkH [(104,.var [.p (.val (.int .u64 a1)),.p (.val (.int .u64 a2))])]⟩) rfl rfl imp_au
  case hxref01_Divisor_j1 =>
    refine lok_block ?_
    replace H0:=bind_some H0
    obtain ⟨v_0,hv_0,H0⟩:=H0
    refine lok_iter (fun x_ => ⟨19,mkS [(2,.x (.one (.ptr 102 0))),(3,.x (.one (.ptr 103 0))),(4,.x (.one (.ptr 104 0)))],mkH [(102,.var [.p (.val (.int .u64 x_.1)),.p (.val (.int .u64 x_.2.1))]),(103,.var [.p (.val (.int .u64 x_.2.2.1)),.p (.val (.int .u64 x_.2.2.2))]),(104,.var [.p (.val (.int .u64 (0:Int))),.p (.val (.int .u64 (0:Int)))])]⟩) hv_0 imp_au ?_
    · rintro ⟨a3,a4,b1,b2⟩ o_1 H1 k_1
      unfold ref01_Divisor_l2 at H1
      try dsimp only at H1 ⊢
      refine lok_seq ?_
      refine lok_rt E0 (⟨19,mkS [(2,.x (.one (.ptr 102 0))),(3,.x (.one (.ptr 103 0))),(4,.x (.one (.ptr 104 0))),(9,.x (.one (.p (.val (.bool (!((b1 == (0:Int)) && (b2 == (0:Int)))))))))],mkH [(102,.var [.p (.val (.int .u64 a3)),.p (.val (.int .u64 a4))]),(103,.var [.p (.val (.int .u64 b1)),.p (.val (.int .u64 b2))]),(104,.var [.p (.val (.int .u64 (0:Int))),.p (.val (.int .u64 (0:Int)))])]⟩) ?_
      refine lok_c (!((b1 == (0:Int)) && (b2 == (0:Int)))) ?_ ?_
      · intro b_2
        replace H1:=cpos H1 b_2
        refine lok_skip ?_
        try simp only [thenL,blockL,↓reduceIte,reduceCtorEq]
        refine lok_block ?_
        replace H1:=bind_some H1
        obtain ⟨⟨y,y1⟩,h_1,H1⟩:=H1
        try dsimp only at H1
        refine lok_rt (Env.of E0 [⟨some 13,107,[.agg [.p (.val (.int .u64 a3)),.p (.val (.int .u64 a4))],.agg [.p (.val (.int .u64 b1)),.p (.val (.int .u64 b2))]],[],[.agg [.p (.val (.int .u64 y.Hi)),.p (.val (.int .u64 y.Lo))],.agg [.p (.val (.int .u64 y1.Hi)),.p (.val (.int .u64 y1.Lo))]],[],True,fun _ => ok_ref01_Divide (ref01_Wide.mk a3 a4) (ref01_Wide.mk b1 b2) (y,y1) h_1,[]⟩]) (⟨19,mkS [(2,.x (.one (.ptr 102 0))),(3,.x (.one (.ptr 103 0))),(4,.x (.one (.ptr 104 0))),(6,.x (.one (.ptr 106 0)))],mkH [(102,.var [.p (.val (.int .u64 a3)),.p (.val (.int .u64 a4))]),(103,.var [.p (.val (.int .u64 b1)),.p (.val (.int .u64 b2))]),(104,.var [.p (.val (.int .u64 (0:Int))),.p (.val (.int .u64 (0:Int)))]),(106,.var [.p (.val (.int .u64 y1.Hi)),.p (.val (.int .u64 y1.Lo))])]⟩) ?_
        refine lok_el E0 19 [⟨[(3,.x (.one (.ptr 103 0)))],[(103,some (.var [.p (.val (.int .u64 b1)),.p (.val (.int .u64 b2))]))],[(16,.x (.agg [.p (.val (.int .u64 b1)),.p (.val (.int .u64 b2))]))],[],none⟩,
      ⟨[(6,.x (.one (.ptr 106 0)))],[(106,some (.var [.p (.val (.int .u64 y1.Hi)),.p (.val (.int .u64 y1.Lo))]))],[(17,.x (.agg [.p (.val (.int .u64 y1.Hi)),.p (.val (.int .u64 y1.Lo))]))],[],none⟩,
      ⟨[(2,.x (.one (.ptr 102 0))),(16,.x (.agg [.p (.val (.int .u64 b1)),.p (.val (.int .u64 b2))]))],[(102,some (.var [.p (.val (.int .u64 a3)),.p (.val (.int .u64 a4))]))],[],[(102,some (.var [.p (.val (.int .u64 b1)),.p (.val (.int .u64 b2))]))],none⟩] (⟨19,mkS [(2,.x (.one (.ptr 102 0))),(3,.x (.one (.ptr 103 0))),(4,.x (.one (.ptr 104 0)))],mkH [(102,.var [.p (.val (.int .u64 b1)),.p (.val (.int .u64 b2))]),(103,.var [.p (.val (.int .u64 y1.Hi)),.p (.val (.int .u64 y1.Lo))]),(104,.var [.p (.val (.int .u64 (0:Int))),.p (.val (.int .u64 (0:Int)))])]⟩) (by kernel_rfl) (by kernel_rfl) (by kernel_rfl) rfl rfl rfl ?_
        try simp only [thenL,blockL,↓reduceIte,reduceCtorEq]
        exact ⟨(b1,b2,y1.Hi,y1.Lo),(Option.some.inj H1).symm,imp_au⟩
      · intro b_2
        replace H1:=cneg H1 b_2
        refine lok_exit ?_
        try simp only [thenL,blockL,↓reduceIte,reduceCtorEq]
        have e_1:=k_1 _ (Option.some.inj H1).symm
        subst e_1
        try dsimp only at H0
        try simp only [thenL,blockL,↓reduceIte,reduceCtorEq]
        exact ⟨(a3,a4),H0,imp_au⟩
theorem ok_ref01_Valid (a : api_Ratio) (r_ : Bool) (H0 : ref01_Valid a = some r_) : CallOK Try.prog 60 [.agg [.p (pi a.Num),.p (pi a.Den)]] [] [.one (.p (.val (.bool r_)))] []:=by
  refine callOK (n:=32) (rs:=[.tmp 2]) (nb:=0) (V:=[]) Try.func60 rfl (by kernel_rfl) rfl rfl rfl rfl (Nat.le_of_ble_eq_true rfl) (by decide) ?_
  unfold ref01_Valid at H0
  refine lok_rt E0 (⟨32,mkS [(1,.x (.one (.ptr 101 0)))],mkH [(101,.var [.p (pi a.Num),.p (pi a.Den)])]⟩) ?_
  refine lok_seq ?_
  refine lok_rt E0 (⟨32,mkS [(1,.x (.one (.ptr 101 0))),(20,.x (.one (.p (.val (.bool ((((decide (a.Den < (1:Int))) || (decide ((1152921504606846976:Int) < a.Den))) || (decide (a.Num < (-1152921504606846976:Int)))) || (decide ((1152921504606846976:Int) < a.Num))))))))],mkH [(101,.var [.p (pi a.Num),.p (pi a.Den)])]⟩) ?_
  refine lok_c ((((decide (a.Den < (1:Int))) || (decide ((1152921504606846976:Int) < a.Den))) || (decide (a.Num < (-1152921504606846976:Int)))) || (decide ((1152921504606846976:Int) < a.Num))) ?_ ?_
  · intro b_3
    replace H0:=cpos H0 b_3
    refine lok_rt E0 (⟨32,mkS [(2,.x (.one (.p (.val (.bool false)))))],mkH []⟩) ?_
    refine lok_ret ?_
    obtain rfl:=Option.some.inj H0
    try simp only [thenL,blockL]
    exact fin_au _ (.inr rfl) [] (⟨32,mkS [(2,.x (.one (.p (.val (.bool false)))))],mkH []⟩) rfl rfl imp_au
  · intro b_3
    replace H0:=cneg H0 b_3
    refine lok_skip ?_
    try simp only [thenL,blockL,↓reduceIte,reduceCtorEq]
    replace H0:=bind_some H0
    obtain ⟨y,h_0,H0⟩:=H0
    replace H0:=bind_some H0
    obtain ⟨y1,h_1,H0⟩:=H0
    replace H0:=bind_some H0
    obtain ⟨y2,h_2,H0⟩:=H0
    refine lok_dt (Env.of E0 [⟨some 23,89,[.one (.p (pi a.Num))],[],[.one (.p (.val (.int .u64 y)))],[],True,fun _ => ok_ref01_Size a.Num y h_0,[]⟩,
      ⟨some 27,89,[.one (.p (pi a.Den))],[],[.one (.p (.val (.int .u64 y1)))],[],True,fun _ => ok_ref01_Size a.Den y1 h_1,[]⟩,
      ⟨some 29,95,[.agg [.p (.val (.int .u64 (0:Int))),.p (.val (.int .u64 y))],.agg [.p (.val (.int .u64 (0:Int))),.p (.val (.int .u64 y1))]],[],[.agg [.p (.val (.int .u64 y2.Hi)),.p (.val (.int .u64 y2.Lo))]],[],True,fun _ => ok_ref01_Divisor (ref01_Wide.mk (0:Int) y) (ref01_Wide.mk (0:Int) y1) y2 h_2,[]⟩]) 10 (⟨32,mkS [(2,.x (.one (.p (.val (.bool ((y2.Hi == (0:Int)) && (y2.Lo == (1:Int))))))))],mkH []⟩) (by kernel_rfl) (by kernel_rfl) ?_
    refine lok_ret ?_
    obtain rfl:=Option.some.inj H0
    try simp only [thenL,blockL]
    exact fin_au _ (.inr rfl) [] (⟨32,mkS [(2,.x (.one (.p (.val (.bool ((y2.Hi == (0:Int)) && (y2.Lo == (1:Int))))))))],mkH []⟩) rfl rfl imp_au
theorem ok_ref01_Product (a:Int) (b:Int) (r_ : ref01_Wide) (H0 : ref01_Product a b = some r_) : CallOK Try.prog 90 [.one (.p (.val (.int .u64 a))),.one (.p (.val (.int .u64 b)))] [] [.agg [.p (.val (.int .u64 r_.Hi)),.p (.val (.int .u64 r_.Lo))]] []:=by
  refine callOK (n:=16) (rs:=[.cell 4 128]) (nb:=0) (V:=[]) Try.func90 rfl (by kernel_rfl) rfl rfl rfl rfl (Nat.le_of_ble_eq_true rfl) (by decide) ?_
  unfold ref01_Product at H0
  refine lok_rt E0 (⟨16,mkS [(0,.x (.one (.p (.val (.int .u64 a))))),(1,.x (.one (.p (.val (.int .u64 b))))),(4,.x (.one (.ptr 104 0)))],mkH [(104,.var [.p (.val (.int .u64 (0:Int))),.p (.val (.int .u64 (0:Int)))])]⟩) ?_
  replace H0:=bind_some H0
  obtain ⟨⟨y,y1⟩,h_0,H0⟩:=H0
  try dsimp only at H0
  refine lok_rt (Env.of E0 [⟨some 10,106,[.one (.p (.val (.int .u64 a))),.one (.p (.val (.int .u64 b)))],[],[.one (.p (.val (.int .u64 y))),.one (.p (.val (.int .u64 y1)))],[],True,fun _ => ok_bits_Mul64 a b (y,y1) h_0,[]⟩]) (⟨16,mkS [(4,.x (.one (.ptr 104 0))),(5,.x (.one (.p (.val (.int .u64 y))))),(6,.x (.one (.p (.val (.int .u64 y1)))))],mkH [(104,.var [.p (.val (.int .u64 (0:Int))),.p (.val (.int .u64 (0:Int)))])]⟩) ?_
  refine lok_rt E0 (⟨16,mkS [(4,.x (.one (.ptr 104 0)))],mkH [(104,.var [.p (.val (.int .u64 y)),.p (.val (.int .u64 y1))])]⟩) ?_
  refine lok_ret ?_
  obtain rfl:=Option.some.inj H0
  try simp only [thenL,blockL]
  exact fin_au _ (.inr rfl) [] (⟨16,mkS [(4,.x (.one (.ptr 104 0)))],mkH [(104,.var [.p (.val (.int .u64 y)),.p (.val (.int .u64 y1))])]⟩) rfl rfl imp_au
theorem ok_ref01_Plus (a : ref01_Wide) (b : ref01_Wide) (r_ : ref01_Wide) (H0 : ref01_Plus a b = some r_) : CallOK Try.prog 108 [.agg [.p (.val (.int .u64 a.Hi)),.p (.val (.int .u64 a.Lo))],.agg [.p (.val (.int .u64 b.Hi)),.p (.val (.int .u64 b.Lo))]] [] [.agg [.p (.val (.int .u64 r_.Hi)),.p (.val (.int .u64 r_.Lo))]] []:=by
  refine callOK (n:=29) (rs:=[.cell 4 128]) (nb:=0) (V:=[]) Try.func108 rfl (by kernel_rfl) rfl rfl rfl rfl (Nat.le_of_ble_eq_true rfl) (by decide) ?_
  unfold ref01_Plus at H0
  refine lok_rt E0 (⟨29,mkS [(2,.x (.one (.ptr 102 0))),(3,.x (.one (.ptr 103 0))),(4,.x (.one (.ptr 104 0)))],mkH [(102,.var [.p (.val (.int .u64 a.Hi)),.p (.val (.int .u64 a.Lo))]),(103,.var [.p (.val (.int .u64 b.Hi)),.p (.val (.int .u64 b.Lo))]),(104,.var [.p (.val (.int .u64 (0:Int))),.p (.val (.int .u64 (0:Int)))])]⟩) ?_
  replace H0:=bind_some H0
  obtain ⟨⟨y,y1⟩,h_0,H0⟩:=H0
  try dsimp only at H0
  refine lok_rt (Env.of E0 [⟨some 14,111,[.one (.p (.val (.int .u64 a.Lo))),.one (.p (.val (.int .u64 b.Lo))),.one (.p (.val (.int .u64 (0:Int))))],[],[.one (.p (.val (.int .u64 y))),.one (.p (.val (.int .u64 y1)))],[],True,fun _ => ok_bits_Add64 a.Lo b.Lo (0:Int) (y,y1) h_0,[]⟩]) (⟨29,mkS [(2,.x (.one (.ptr 102 0))),(3,.x (.one (.ptr 103 0))),(4,.x (.one (.ptr 104 0))),(5,.x (.one (.p (.val (.int .u64 y))))),(6,.x (.one (.p (.val (.int .u64 y1)))))],mkH [(102,.var [.p (.val (.int .u64 a.Hi)),.p (.val (.int .u64 a.Lo))]),(103,.var [.p (.val (.int .u64 b.Hi)),.p (.val (.int .u64 b.Lo))]),(104,.var [.p (.val (.int .u64 (0:Int))),.p (.val (.int .u64 (0:Int)))])]⟩) ?_
  replace H0:=bind_some H0
  obtain ⟨⟨y2,y3⟩,h_1,H0⟩:=H0
  try dsimp only at H0
  refine lok_rt (Env.of E0 [⟨some 23,111,[.one (.p (.val (.int .u64 a.Hi))),.one (.p (.val (.int .u64 b.Hi))),.one (.p (.val (.int .u64 y1)))],[],[.one (.p (.val (.int .u64 y2))),.one (.p (.val (.int .u64 y3)))],[],True,fun _ => ok_bits_Add64 a.Hi b.Hi y1 (y2,y3) h_1,[]⟩]) (⟨29,mkS [(4,.x (.one (.ptr 104 0))),(5,.x (.one (.p (.val (.int .u64 y))))),(7,.x (.one (.p (.val (.int .u64 y2)))))],mkH [(104,.var [.p (.val (.int .u64 (0:Int))),.p (.val (.int .u64 (0:Int)))])]⟩) ?_
  refine lok_rt E0 (⟨29,mkS [(4,.x (.one (.ptr 104 0)))],mkH [(104,.var [.p (.val (.int .u64 y2)),.p (.val (.int .u64 y))])]⟩) ?_
  refine lok_ret ?_
  obtain rfl:=Option.some.inj H0
  try simp only [thenL,blockL]
  exact fin_au _ (.inr rfl) [] (⟨29,mkS [(4,.x (.one (.ptr 104 0)))],mkH [(104,.var [.p (.val (.int .u64 y2)),.p (.val (.int .u64 y))])]⟩) rfl rfl imp_au
theorem ok_ref01_total (x : Bool) (a : ref01_Wide) (y : Bool) (b : ref01_Wide) (r_ : Bool × ref01_Wide) (H0 : ref01_total x a y b = some r_) : CallOK Try.prog 91 [.one (.p (.val (.bool x))),.agg [.p (.val (.int .u64 a.Hi)),.p (.val (.int .u64 a.Lo))],.one (.p (.val (.bool y))),.agg [.p (.val (.int .u64 b.Hi)),.p (.val (.int .u64 b.Lo))]] [] [.one (.p (.val (.bool r_.1))),.agg [.p (.val (.int .u64 r_.2.Hi)),.p (.val (.int .u64 r_.2.Lo))]] []:=by
  refine callOK (n:=29) (rs:=[.tmp 8,.cell 9 128]) (nb:=0) (V:=[]) Try.func91 rfl (by kernel_rfl) rfl rfl rfl rfl (Nat.le_of_ble_eq_true rfl) (by decide) ?_
  unfold ref01_total at H0
  refine lok_rt E0 (⟨29,mkS [(0,.x (.one (.p (.val (.bool x))))),(2,.x (.one (.p (.val (.bool y))))),(5,.x (.one (.ptr 105 0))),(7,.x (.one (.ptr 107 0))),(9,.x (.one (.ptr 109 0)))],mkH [(105,.var [.p (.val (.int .u64 a.Hi)),.p (.val (.int .u64 a.Lo))]),(107,.var [.p (.val (.int .u64 b.Hi)),.p (.val (.int .u64 b.Lo))]),(109,.var [.p (.val (.int .u64 (0:Int))),.p (.val (.int .u64 (0:Int)))])]⟩) ?_
  refine lok_seq ?_
  refine lok_rt E0 (⟨29,mkS [(0,.x (.one (.p (.val (.bool x))))),(2,.x (.one (.p (.val (.bool y))))),(5,.x (.one (.ptr 105 0))),(7,.x (.one (.ptr 107 0))),(9,.x (.one (.ptr 109 0))),(12,.x (.one (.p (.val (.bool (x == y))))))],mkH [(105,.var [.p (.val (.int .u64 a.Hi)),.p (.val (.int .u64 a.Lo))]),(107,.var [.p (.val (.int .u64 b.Hi)),.p (.val (.int .u64 b.Lo))]),(109,.var [.p (.val (.int .u64 (0:Int))),.p (.val (.int .u64 (0:Int)))])]⟩) ?_
  refine lok_c (x == y) ?_ ?_
  · intro b_5
    replace H0:=cpos H0 b_5
    replace H0:=bind_some H0
    obtain ⟨y1,h_0,H0⟩:=H0
    refine lok_rt (Env.of E0 [⟨some 16,108,[.agg [.p (.val (.int .u64 a.Hi)),.p (.val (.int .u64 a.Lo))],.agg [.p (.val (.int .u64 b.Hi)),.p (.val (.int .u64 b.Lo))]],[],[.agg [.p (.val (.int .u64 y1.Hi)),.p (.val (.int .u64 y1.Lo))]],[],True,fun _ => ok_ref01_Plus a b y1 h_0,[]⟩]) (⟨29,mkS [(8,.x (.one (.p (.val (.bool x))))),(9,.x (.one (.ptr 109 0)))],mkH [(109,.var [.p (.val (.int .u64 y1.Hi)),.p (.val (.int .u64 y1.Lo))])]⟩) ?_
    refine lok_ret ?_
    obtain rfl:=Option.some.inj H0
    try simp only [thenL,blockL]
    exact fin_au _ (.inr rfl) [] (⟨29,mkS [(8,.x (.one (.p (.val (.bool x))))),(9,.x (.one (.ptr 109 0)))],mkH [(109,.var [.p (.val (.int .u64 y1.Hi)),.p (.val (.int .u64 y1.Lo))])]⟩) rfl rfl imp_au
  · intro b_5
    replace H0:=cneg H0 b_5
    refine lok_skip ?_
    try simp only [thenL,blockL,↓reduceIte,reduceCtorEq]
    refine lok_seq ?_
    replace H0:=bind_some H0
    obtain ⟨y2,h_1,H0⟩:=H0
    refine lok_rt (Env.of E0 [⟨some 19,109,[.agg [.p (.val (.int .u64 a.Hi)),.p (.val (.int .u64 a.Lo))],.agg [.p (.val (.int .u64 b.Hi)),.p (.val (.int .u64 b.Lo))]],[],[.one (.p (pi y2))],[],True,fun _ => ok_ref01_Order a b y2 h_1,[]⟩]) (⟨29,mkS [(0,.x (.one (.p (.val (.bool x))))),(2,.x (.one (.p (.val (.bool y))))),(5,.x (.one (.ptr 105 0))),(7,.x (.one (.ptr 107 0))),(9,.x (.one (.ptr 109 0))),(20,.x (.one (.p (.val (.bool (decide ((0:Int) ≤ y2)))))))],mkH [(105,.var [.p (.val (.int .u64 a.Hi)),.p (.val (.int .u64 a.Lo))]),(107,.var [.p (.val (.int .u64 b.Hi)),.p (.val (.int .u64 b.Lo))]),(109,.var [.p (.val (.int .u64 (0:Int))),.p (.val (.int .u64 (0:Int)))])]⟩) ?_
    refine lok_c (decide ((0:Int) ≤ y2)) ?_ ?_
    · intro b_4
      replace H0:=cpos H0 b_4
      replace H0:=bind_some H0
      obtain ⟨y3,h_2,H0⟩:=H0
      refine lok_rt (Env.of E0 [⟨some 24,110,[.agg [.p (.val (.int .u64 a.Hi)),.p (.val (.int .u64 a.Lo))],.agg [.p (.val (.int .u64 b.Hi)),.p (.val (.int .u64 b.Lo))]],[],[.agg [.p (.val (.int .u64 y3.Hi)),.p (.val (.int .u64 y3.Lo))]],[],True,fun _ => ok_ref01_Minus a b y3 h_2,[]⟩]) (⟨29,mkS [(8,.x (.one (.p (.val (.bool x))))),(9,.x (.one (.ptr 109 0)))],mkH [(109,.var [.p (.val (.int .u64 y3.Hi)),.p (.val (.int .u64 y3.Lo))])]⟩) ?_
      refine lok_ret ?_
      obtain rfl:=Option.some.inj H0
      try simp only [thenL,blockL]
      exact fin_au _ (.inr rfl) [] (⟨29,mkS [(8,.x (.one (.p (.val (.bool x))))),(9,.x (.one (.ptr 109 0)))],mkH [(109,.var [.p (.val (.int .u64 y3.Hi)),.p (.val (.int .u64 y3.Lo))])]⟩) rfl rfl imp_au
    · intro b_4
      replace H0:=cneg H0 b_4
      refine lok_skip ?_
      try simp only [thenL,blockL,↓reduceIte,reduceCtorEq]
      replace H0:=bind_some H0
      obtain ⟨y4,h_3,H0⟩:=H0
      refine lok_rt (Env.of E0 [⟨some 28,110,[.agg [.p (.val (.int .u64 b.Hi)),.p (.val (.int .u64 b.Lo))],.agg [.p (.val (.int .u64 a.Hi)),.p (.val (.int .u64 a.Lo))]],[],[.agg [.p (.val (.int .u64 y4.Hi)),.p (.val (.int .u64 y4.Lo))]],[],True,fun _ => ok_ref01_Minus b a y4 h_3,[]⟩]) (⟨29,mkS [(8,.x (.one (.p (.val (.bool y))))),(9,.x (.one (.ptr 109 0)))],mkH [(109,.var [.p (.val (.int .u64 y4.Hi)),.p (.val (.int .u64 y4.Lo))])]⟩) ?_
      refine lok_ret ?_
      obtain rfl:=Option.some.inj H0
      try simp only [thenL,blockL]
      exact fin_au _ (.inr rfl) [] (⟨29,mkS [(8,.x (.one (.p (.val (.bool y))))),(9,.x (.one (.ptr 109 0)))],mkH [(109,.var [.p (.val (.int .u64 y4.Hi)),.p (.val (.int .u64 y4.Lo))])]⟩) rfl rfl imp_au
theorem ok_ref01_Compare (a : api_Ratio) (b : api_Ratio) (r_:Int) (H0 : ref01_Compare a b = some r_) : CallOK Try.prog 92 [.agg [.p (pi a.Num),.p (pi a.Den)],.agg [.p (pi b.Num),.p (pi b.Den)]] [] [.one (.p (pi r_))] []:=by
  refine callOK (n:=43) (rs:=[.tmp 4]) (nb:=0) (V:=[]) Try.func92 rfl (by kernel_rfl) rfl rfl rfl rfl (Nat.le_of_ble_eq_true rfl) (by decide) ?_
  unfold ref01_Compare at H0
  refine lok_rt E0 (⟨43,mkS [(2,.x (.one (.ptr 102 0))),(3,.x (.one (.ptr 103 0)))],mkH [(102,.var [.p (pi a.Num),.p (pi a.Den)]),(103,.var [.p (pi b.Num),.p (pi b.Den)])]⟩) ?_
  refine lok_seq ?_
  replace H0:=bind_some H0
  obtain ⟨y,h_0,H0⟩:=H0
  replace H0:=req_some H0
  obtain ⟨q_11,H0⟩:=H0
  refine lok_rt (Env.of E0 [⟨some 8,60,[.agg [.p (pi a.Num),.p (pi a.Den)]],[],[.one (.p (.val (.bool y)))],[],True,fun _ => ok_ref01_Valid a y h_0,[]⟩,
      ⟨some 12,60,[.agg [.p (pi b.Num),.p (pi b.Den)]],[],[.one (.p (.val (.bool ((ref01_Valid b).getD default))))],[],(ref01_Valid b).isSome = true,fun h => ok_ref01_Valid b _ (isSome_get h),[]⟩]) (⟨43,mkS [(2,.x (.one (.ptr 102 0))),(3,.x (.one (.ptr 103 0))),(14,.x (.one (.p (.val (.bool ((!y) || (!((ref01_Valid b).getD default))))))))],mkH [(102,.var [.p (pi a.Num),.p (pi a.Den)]),(103,.var [.p (pi b.Num),.p (pi b.Den)])]⟩) ?_
  refine lok_c ((!y) || (!((ref01_Valid b).getD default))) ?_ ?_
  · intro b_10
    replace H0:=cpos H0 b_10
    refine lok_rt E0 (⟨43,mkS [(4,.x (.one (.p (pi (0:Int)))))],mkH []⟩) ?_
    refine lok_ret ?_
    obtain rfl:=Option.some.inj H0
    try simp only [thenL,blockL]
    exact fin_au _ (.inr rfl) [] (⟨43,mkS [(4,.x (.one (.p (pi (0:Int)))))],mkH []⟩) rfl rfl imp_au
  · intro b_10
    replace H0:=cneg H0 b_10
    refine lok_skip ?_
    try simp only [thenL,blockL,↓reduceIte,reduceCtorEq]
    replace H0:=bind_some H0
    obtain ⟨y1,h_1,H0⟩:=H0
    replace H0:=bind_some H0
    obtain ⟨y2,h_2,H0⟩:=H0
    replace H0:=bind_some H0
    obtain ⟨y3,h_3,H0⟩:=H0
    replace H0:=bind_some H0
    obtain ⟨y4,h_4,H0⟩:=H0
    replace H0:=bind_some H0
    obtain ⟨y5,h_5,H0⟩:=H0
    replace H0:=bind_some H0
    obtain ⟨y6,h_6,H0⟩:=H0
    replace H0:=bind_some H0
    obtain ⟨⟨y7,y8⟩,h_7,H0⟩:=H0
    try dsimp only at H0
    refine lok_et (Env.of E0 [⟨some 21,89,[.one (.p (pi a.Num))],[],[.one (.p (.val (.int .u64 y1)))],[],True,fun _ => ok_ref01_Size a.Num y1 h_1,[]⟩,
      ⟨some 24,89,[.one (.p (pi b.Den))],[],[.one (.p (.val (.int .u64 y2)))],[],True,fun _ => ok_ref01_Size b.Den y2 h_2,[]⟩,
      ⟨some 25,90,[.one (.p (.val (.int .u64 y1))),.one (.p (.val (.int .u64 y2)))],[],[.agg [.p (.val (.int .u64 y3.Hi)),.p (.val (.int .u64 y3.Lo))]],[],True,fun _ => ok_ref01_Product y1 y2 y3 h_3,[]⟩,
      ⟨some 31,89,[.one (.p (pi b.Num))],[],[.one (.p (.val (.int .u64 y4)))],[],True,fun _ => ok_ref01_Size b.Num y4 h_4,[]⟩,
      ⟨some 34,89,[.one (.p (pi a.Den))],[],[.one (.p (.val (.int .u64 y5)))],[],True,fun _ => ok_ref01_Size a.Den y5 h_5,[]⟩,
      ⟨some 35,90,[.one (.p (.val (.int .u64 y4))),.one (.p (.val (.int .u64 y5)))],[],[.agg [.p (.val (.int .u64 y6.Hi)),.p (.val (.int .u64 y6.Lo))]],[],True,fun _ => ok_ref01_Product y4 y5 y6 h_6,[]⟩,
      ⟨some 36,91,[.one (.p (.val (.bool (decide (a.Num < (0:Int)))))),.agg [.p (.val (.int .u64 y3.Hi)),.p (.val (.int .u64 y3.Lo))],.one (.p (.val (.bool (decide ((0:Int) < b.Num))))),.agg [.p (.val (.int .u64 y6.Hi)),.p (.val (.int .u64 y6.Lo))]],[],[.one (.p (.val (.bool y7))),.agg [.p (.val (.int .u64 y8.Hi)),.p (.val (.int .u64 y8.Lo))]],[],True,fun _ => ok_ref01_total (decide (a.Num < (0:Int))) y3 (decide ((0:Int) < b.Num)) y6 (y7,y8) h_7,[]⟩]) 43 [⟨[(2,.x (.one (.ptr 102 0)))],[],[(16,.x (.one (.ptr 102 0)))],[],none⟩,
      ⟨[(16,.x (.one (.ptr 102 0)))],[(102,some (.var [.p (pi a.Num),.p (pi a.Den)]))],[(17,.x (.one (.p (pi a.Num))))],[],none⟩,
      ⟨[(17,.x (.one (.p (pi a.Num))))],[],[(18,.x (.one (.p (.val (.bool (decide (a.Num < (0:Int))))))))],[],none⟩,
      ⟨[(2,.x (.one (.ptr 102 0)))],[],[(19,.x (.one (.ptr 102 0)))],[],none⟩,
      ⟨[(19,.x (.one (.ptr 102 0)))],[(102,some (.var [.p (pi a.Num),.p (pi a.Den)]))],[(20,.x (.one (.p (pi a.Num))))],[],none⟩,
      ⟨[(20,.x (.one (.p (pi a.Num))))],[],[(21,.x (.one (.p (.val (.int .u64 y1)))))],[],none⟩,
      ⟨[(3,.x (.one (.ptr 103 0)))],[],[(22,.x (.one (.ptr 103 1)))],[],none⟩,
      ⟨[(22,.x (.one (.ptr 103 1)))],[(103,some (.var [.p (pi b.Num),.p (pi b.Den)]))],[(23,.x (.one (.p (pi b.Den))))],[],none⟩,
      ⟨[(23,.x (.one (.p (pi b.Den))))],[],[(24,.x (.one (.p (.val (.int .u64 y2)))))],[],none⟩,
      ⟨[(21,.x (.one (.p (.val (.int .u64 y1))))),(24,.x (.one (.p (.val (.int .u64 y2)))))],[],[(25,.x (.agg [.p (.val (.int .u64 y3.Hi)),.p (.val (.int .u64 y3.Lo))]))],[],none⟩,
      ⟨[(3,.x (.one (.ptr 103 0)))],[],[(26,.x (.one (.ptr 103 0)))],[],none⟩,
      ⟨[(26,.x (.one (.ptr 103 0)))],[(103,some (.var [.p (pi b.Num),.p (pi b.Den)]))],[(27,.x (.one (.p (pi b.Num))))],[],none⟩,
      ⟨[(27,.x (.one (.p (pi b.Num))))],[],[(28,.x (.one (.p (.val (.bool (decide ((0:Int) < b.Num)))))))],[],none⟩,
      ⟨[(3,.x (.one (.ptr 103 0)))],[],[(29,.x (.one (.ptr 103 0)))],[],none⟩,
      ⟨[(29,.x (.one (.ptr 103 0)))],[(103,some (.var [.p (pi b.Num),.p (pi b.Den)]))],[(30,.x (.one (.p (pi b.Num))))],[],none⟩,
      ⟨[(30,.x (.one (.p (pi b.Num))))],[],[(31,.x (.one (.p (.val (.int .u64 y4)))))],[],none⟩,
      ⟨[(2,.x (.one (.ptr 102 0)))],[],[(32,.x (.one (.ptr 102 1)))],[],none⟩,
      ⟨[(32,.x (.one (.ptr 102 1)))],[(102,some (.var [.p (pi a.Num),.p (pi a.Den)]))],[(33,.x (.one (.p (pi a.Den))))],[],none⟩,
      ⟨[(33,.x (.one (.p (pi a.Den))))],[],[(34,.x (.one (.p (.val (.int .u64 y5)))))],[],none⟩,
      ⟨[(31,.x (.one (.p (.val (.int .u64 y4))))),(34,.x (.one (.p (.val (.int .u64 y5)))))],[],[(35,.x (.agg [.p (.val (.int .u64 y6.Hi)),.p (.val (.int .u64 y6.Lo))]))],[],none⟩,
      ⟨[(18,.x (.one (.p (.val (.bool (decide (a.Num < (0:Int)))))))),(25,.x (.agg [.p (.val (.int .u64 y3.Hi)),.p (.val (.int .u64 y3.Lo))])),(28,.x (.one (.p (.val (.bool (decide ((0:Int) < b.Num))))))),(35,.x (.agg [.p (.val (.int .u64 y6.Hi)),.p (.val (.int .u64 y6.Lo))]))],[],[(36,.tup [.one (.p (.val (.bool y7))),.agg [.p (.val (.int .u64 y8.Hi)),.p (.val (.int .u64 y8.Lo))]])],[],none⟩,
      ⟨[(36,.tup [.one (.p (.val (.bool y7))),.agg [.p (.val (.int .u64 y8.Hi)),.p (.val (.int .u64 y8.Lo))]])],[],[(15,.tup [.one (.p (.val (.bool y7))),.agg [.p (.val (.int .u64 y8.Hi)),.p (.val (.int .u64 y8.Lo))]])],[],none⟩,
      ⟨[(15,.tup [.one (.p (.val (.bool y7))),.agg [.p (.val (.int .u64 y8.Hi)),.p (.val (.int .u64 y8.Lo))]])],[],[(37,.x (.one (.p (.val (.bool y7)))))],[],none⟩,
      ⟨[(15,.tup [.one (.p (.val (.bool y7))),.agg [.p (.val (.int .u64 y8.Hi)),.p (.val (.int .u64 y8.Lo))]])],[],[(38,.x (.agg [.p (.val (.int .u64 y8.Hi)),.p (.val (.int .u64 y8.Lo))]))],[],none⟩,
      ⟨[],[(106,none)],[(6,.x (.one (.ptr 106 0)))],[(106,some (.var [.p (.val (.int .u64 (0:Int))),.p (.val (.int .u64 (0:Int)))]))],some 106⟩,
      ⟨[(37,.x (.one (.p (.val (.bool y7)))))],[],[(5,.x (.one (.p (.val (.bool y7)))))],[],none⟩] (⟨43,mkS [(5,.x (.one (.p (.val (.bool y7))))),(6,.x (.one (.ptr 106 0)))],mkH [(106,.var [.p (.val (.int .u64 y8.Hi)),.p (.val (.int .u64 y8.Lo))])]⟩) (by kernel_rfl) (by kernel_rfl) (by kernel_rfl) rfl rfl rfl ?_
    refine lok_seq ?_
    refine lok_rt E0 (⟨43,mkS [(5,.x (.one (.p (.val (.bool y7))))),(41,.x (.one (.p (.val (.bool ((y8.Hi == (0:Int)) && (y8.Lo == (0:Int))))))))],mkH []⟩) ?_
    refine lok_c ((y8.Hi == (0:Int)) && (y8.Lo == (0:Int))) ?_ ?_
    · intro b_9
      replace H0:=cpos H0 b_9
      refine lok_rt E0 (⟨43,mkS [(4,.x (.one (.p (pi (0:Int)))))],mkH []⟩) ?_
      refine lok_ret ?_
      obtain rfl:=Option.some.inj H0
      try simp only [thenL,blockL]
      exact fin_au _ (.inr rfl) [] (⟨43,mkS [(4,.x (.one (.p (pi (0:Int)))))],mkH []⟩) rfl rfl imp_au
    · intro b_9
      replace H0:=cneg H0 b_9
      refine lok_skip ?_
      try simp only [thenL,blockL,↓reduceIte,reduceCtorEq]
      refine lok_seq ?_
      refine lok_rt E0 (⟨43,mkS [(42,.x (.one (.p (.val (.bool y7)))))],mkH []⟩) ?_
      refine lok_c y7 ?_ ?_
      · intro b_8
        replace H0:=cpos H0 b_8
        refine lok_rt E0 (⟨43,mkS [(4,.x (.one (.p (pi (-1:Int)))))],mkH []⟩) ?_
        refine lok_ret ?_
        obtain rfl:=Option.some.inj H0
        try simp only [thenL,blockL]
        exact fin_au _ (.inr rfl) [] (⟨43,mkS [(4,.x (.one (.p (pi (-1:Int)))))],mkH []⟩) rfl rfl imp_au
      · intro b_8
        replace H0:=cneg H0 b_8
        refine lok_skip ?_
        try simp only [thenL,blockL,↓reduceIte,reduceCtorEq]
        refine lok_rt E0 (⟨43,mkS [(4,.x (.one (.p (pi (1:Int)))))],mkH []⟩) ?_
        refine lok_ret ?_
        obtain rfl:=Option.some.inj H0
        try simp only [thenL,blockL]
        exact fin_au _ (.inr rfl) [] (⟨43,mkS [(4,.x (.one (.p (pi (1:Int)))))],mkH []⟩) rfl rfl imp_au
theorem ok_ref01_Less (a : api_Ratio) (b : api_Ratio) (r_ : Bool) (H0 : ref01_Less a b = some r_) : CallOK Try.prog 55 [.agg [.p (pi a.Num),.p (pi a.Den)],.agg [.p (pi b.Num),.p (pi b.Den)]] [] [.one (.p (.val (.bool r_)))] []:=by
  refine callOK (n:=9) (rs:=[.tmp 4]) (nb:=0) (V:=[]) Try.func55 rfl (by kernel_rfl) rfl rfl rfl rfl (Nat.le_of_ble_eq_true rfl) (by decide) ?_
  unfold ref01_Less at H0
  refine lok_rt E0 (⟨9,mkS [(2,.x (.one (.ptr 102 0))),(3,.x (.one (.ptr 103 0)))],mkH [(102,.var [.p (pi a.Num),.p (pi a.Den)]),(103,.var [.p (pi b.Num),.p (pi b.Den)])]⟩) ?_
  replace H0:=bind_some H0
  obtain ⟨y,h_0,H0⟩:=H0
  refine lok_rt (Env.of E0 [⟨some 7,92,[.agg [.p (pi a.Num),.p (pi a.Den)],.agg [.p (pi b.Num),.p (pi b.Den)]],[],[.one (.p (pi y))],[],True,fun _ => ok_ref01_Compare a b y h_0,[]⟩]) (⟨9,mkS [(4,.x (.one (.p (.val (.bool (decide (y < (0:Int))))))))],mkH []⟩) ?_
  refine lok_ret ?_
  obtain rfl:=Option.some.inj H0
  try simp only [thenL,blockL]
  exact fin_au _ (.inr rfl) [] (⟨9,mkS [(4,.x (.one (.p (.val (.bool (decide (y < (0:Int))))))))],mkH []⟩) rfl rfl imp_au
theorem ok_ref36_Fit (a : api_Award) (l : List api_UnitMark) (r_ : Bool) (H0 : ref36_Fit a l = some r_) : CallOK Try.prog 50 [.agg [.p (.sl 3 (List.map enc_api_Unit a.Units)),.p (.sl 1 (List.map encI a.Bounds)),.p (pi a.Max)],.one (.p (.sl 3 (List.map enc_api_UnitMark l)))] [] [.one (.p (.val (.bool r_)))] []:=by
  refine callOK (n:=64) (rs:=[.tmp 4]) (nb:=0) (V:=[]) Try.func50 rfl (by kernel_rfl) rfl rfl rfl rfl (Nat.le_of_ble_eq_true rfl) (by decide) ?_
  unfold ref36_Fit at H0
  refine lok_rt E0 (⟨64,mkS [(1,.x (.one (.p (.sl 3 (List.map enc_api_UnitMark l))))),(2,.x (.one (.ptr 102 0)))],mkH [(102,.var [.p (.sl 3 (List.map enc_api_Unit a.Units)),.p (.sl 1 (List.map encI a.Bounds)),.p (pi a.Max)])]⟩) ?_
  refine lok_seq ?_
  refine lok_rt E0 (⟨64,mkS [(1,.x (.one (.p (.sl 3 (List.map enc_api_UnitMark l))))),(2,.x (.one (.ptr 102 0))),(12,.x (.one (.p (.val (.bool ((l.length:Int) != (a.Units.length:Int)))))))],mkH [(102,.var [.p (.sl 3 (List.map enc_api_Unit a.Units)),.p (.sl 1 (List.map encI a.Bounds)),.p (pi a.Max)])]⟩) ?_
  refine lok_c ((l.length:Int) != (a.Units.length:Int)) ?_ ?_
  · intro b_12
    replace H0:=cpos H0 b_12
    refine lok_rt E0 (⟨64,mkS [(4,.x (.one (.p (.val (.bool false)))))],mkH []⟩) ?_
    refine lok_ret ?_
    obtain rfl:=Option.some.inj H0
    try simp only [thenL,blockL]
    exact fin_au _ (.inr rfl) [] (⟨64,mkS [(4,.x (.one (.p (.val (.bool false)))))],mkH []⟩) rfl rfl imp_au
  · intro b_12
    replace H0:=cneg H0 b_12
    refine lok_skip ?_
    try simp only [thenL,blockL,↓reduceIte,reduceCtorEq]
    refine lok_join (fun x_ : Unit => ref36_Fit_j1 = some r_) (fun x_ => ⟨64,mkS [],mkH []⟩) ?hyref36_Fit_j1 ?hxref36_Fit_j1
    case hyref36_Fit_j1 =>
      rintro _ H0
      try dsimp only at H0 ⊢
      unfold ref36_Fit_j1 at H0
      refine lok_rt E0 (⟨64,mkS [(4,.x (.one (.p (.val (.bool true)))))],mkH []⟩) ?_
      refine lok_ret ?_
      obtain rfl:=Option.some.inj H0
      try simp only [thenL,blockL]
      exact fin_au _ (.inr rfl) [] (⟨64,mkS [(4,.x (.one (.p (.val (.bool true)))))],mkH []⟩) rfl rfl imp_au
    case hxref36_Fit_j1 =>
      refine lok_rt E0 (⟨64,mkS [(1,.x (.one (.p (.sl 3 (List.map enc_api_UnitMark l))))),(2,.x (.one (.ptr 102 0))),(5,.x (.one (.p (pi (0:Int)))))],mkH [(102,.var [.p (.sl 3 (List.map enc_api_Unit a.Units)),.p (.sl 1 (List.map encI a.Bounds)),.p (pi a.Max)])]⟩) ?_
      refine lok_block ?_
      replace H0:=bind_some H0
      obtain ⟨v_0,hv_0,H0⟩:=H0
      refine lok_iter (fun x_ => ⟨64,mkS [(1,.x (.one (.p (.sl 3 (List.map enc_api_UnitMark l))))),(2,.x (.one (.ptr 102 0))),(5,.x (.one (.p (pi x_))))],mkH [(102,.var [.p (.sl 3 (List.map enc_api_Unit a.Units)),.p (.sl 1 (List.map encI a.Bounds)),.p (pi a.Max)])]⟩) hv_0 imp_au ?_
      · rintro i o_1 H1 k_1
        unfold ref36_Fit_l2 at H1
        try dsimp only at H1 ⊢
        refine lok_seq ?_
        refine lok_rt E0 (⟨64,mkS [(1,.x (.one (.p (.sl 3 (List.map enc_api_UnitMark l))))),(2,.x (.one (.ptr 102 0))),(5,.x (.one (.p (pi i)))),(16,.x (.one (.p (.val (.bool (decide (i < (l.length:Int))))))))],mkH [(102,.var [.p (.sl 3 (List.map enc_api_Unit a.Units)),.p (.sl 1 (List.map encI a.Bounds)),.p (pi a.Max)])]⟩) ?_
        refine lok_c (decide (i < (l.length:Int))) ?_ ?_
        · intro b_11
          replace H1:=cpos H1 b_11
          refine lok_skip ?_
          try simp only [thenL,blockL,↓reduceIte,reduceCtorEq]
          refine lok_seq ?_
          refine lok_block ?_
          replace H1:=req_some H1
          obtain ⟨q_10,H1⟩:=H1
          refine lok_rt E0 (⟨64,mkS [(1,.x (.one (.p (.sl 3 (List.map enc_api_UnitMark l))))),(2,.x (.one (.ptr 102 0))),(5,.x (.one (.p (pi i)))),(6,.x (.one (.ptr 106 0)))],mkH [(102,.var [.p (.sl 3 (List.map enc_api_Unit a.Units)),.p (.sl 1 (List.map encI a.Bounds)),.p (pi a.Max)]),(106,.var [.p (pi (((ix l i).Value).Num)),.p (pi (((ix l i).Value).Den))])]⟩) ?_
          refine lok_block ?_
          replace H1:=req_some H1
          obtain ⟨q_9,H1⟩:=H1
          replace H1:=bind_some H1
          obtain ⟨y,h_1,H1⟩:=H1
          refine lok_rt (Env.of E0 [⟨some 30,42,[.one (.p (pi ((ix l i).Kind))),.one (.p (pi (0:Int))),.one (.p (pi (3:Int)))],[],[.one (.p (.val (.bool y)))],[],True,fun _ => ok_ref36_in ((ix l i).Kind) (0:Int) (3:Int) y h_1,[]⟩]) (⟨64,mkS [(1,.x (.one (.p (.sl 3 (List.map enc_api_UnitMark l))))),(2,.x (.one (.ptr 102 0))),(5,.x (.one (.p (pi i)))),(6,.x (.one (.ptr 106 0))),(24,.x (.one (.p (.val (.bool (!y))))))],mkH [(102,.var [.p (.sl 3 (List.map enc_api_Unit a.Units)),.p (.sl 1 (List.map encI a.Bounds)),.p (pi a.Max)]),(106,.var [.p (pi (((ix l i).Value).Num)),.p (pi (((ix l i).Value).Den))])]⟩) ?_
          refine lok_c (!y) ?_ ?_
          · intro b_8
            replace H1:=cpos H1 b_8
            refine lok_rt E0 (⟨64,mkS [(4,.x (.one (.p (.val (.bool false)))))],mkH []⟩) ?_
            refine lok_ret ?_
            try simp only [thenL,blockL,↓reduceIte,reduceCtorEq]
            have e_1:=k_1 _ (Option.some.inj H1).symm
            subst e_1
            try dsimp only at H0
            obtain rfl:=Option.some.inj H0
            try simp only [thenL,blockL]
            exact fin_au _ (.inr rfl) [] (⟨64,mkS [(4,.x (.one (.p (.val (.bool false)))))],mkH []⟩) rfl rfl imp_au
          · intro b_8
            replace H1:=cneg H1 b_8
            replace H1:=req_some H1
            obtain ⟨q_7,H1⟩:=H1
            refine lok_rt E0 (⟨64,mkS [(1,.x (.one (.p (.sl 3 (List.map enc_api_UnitMark l))))),(2,.x (.one (.ptr 102 0))),(5,.x (.one (.p (pi i)))),(6,.x (.one (.ptr 106 0))),(32,.x (.one (.p (.val (.bool (((ix l i).Kind != (0:Int)) && (!((((ix l i).Value).Num == (0:Int)) && (((ix l i).Value).Den == (1:Int))))))))))],mkH [(102,.var [.p (.sl 3 (List.map enc_api_Unit a.Units)),.p (.sl 1 (List.map encI a.Bounds)),.p (pi a.Max)]),(106,.var [.p (pi (((ix l i).Value).Num)),.p (pi (((ix l i).Value).Den))])]⟩) ?_
            refine lok_c (((ix l i).Kind != (0:Int)) && (!((((ix l i).Value).Num == (0:Int)) && (((ix l i).Value).Den == (1:Int))))) ?_ ?_
            · intro b_6
              replace H1:=cpos H1 b_6
              refine lok_rt E0 (⟨64,mkS [(4,.x (.one (.p (.val (.bool false)))))],mkH []⟩) ?_
              refine lok_ret ?_
              try simp only [thenL,blockL,↓reduceIte,reduceCtorEq]
              have e_1:=k_1 _ (Option.some.inj H1).symm
              subst e_1
              try dsimp only at H0
              obtain rfl:=Option.some.inj H0
              try simp only [thenL,blockL]
              exact fin_au _ (.inr rfl) [] (⟨64,mkS [(4,.x (.one (.p (.val (.bool false)))))],mkH []⟩) rfl rfl imp_au
            · intro b_6
              replace H1:=cneg H1 b_6
              replace H1:=bind_some H1
              obtain ⟨y1,h_2,H1⟩:=H1
              replace H1:=req_some H1
              obtain ⟨⟨q_4,q_5⟩,H1⟩:=H1
              refine lok_dt (Env.of E0 [⟨some 46,60,[.agg [.p (pi (((ix l i).Value).Num)),.p (pi (((ix l i).Value).Den))]],[],[.one (.p (.val (.bool y1)))],[],True,fun _ => ok_ref01_Valid ((ix l i).Value) y1 h_2,[]⟩,
      ⟨some 62,55,[.agg [.p (pi ((ix a.Units i).Max)),.p (pi (1:Int))],.agg [.p (pi (((ix l i).Value).Num)),.p (pi (((ix l i).Value).Den))]],[],[.one (.p (.val (.bool ((ref01_Less (api_Ratio.mk ((ix a.Units i).Max) (1:Int)) ((ix l i).Value)).getD default))))],[],(ref01_Less (api_Ratio.mk ((ix a.Units i).Max) (1:Int)) ((ix l i).Value)).isSome = true,fun h => ok_ref01_Less (api_Ratio.mk ((ix a.Units i).Max) (1:Int)) ((ix l i).Value) _ (isSome_get h),[]⟩]) 17 (⟨64,mkS [(1,.x (.one (.p (.sl 3 (List.map enc_api_UnitMark l))))),(2,.x (.one (.ptr 102 0))),(5,.x (.one (.p (pi i)))),(44,.x (.one (.p (.val (.bool (((!y1) || (decide (((ix l i).Value).Num < (0:Int)))) || ((ref01_Less (api_Ratio.mk ((ix a.Units i).Max) (1:Int)) ((ix l i).Value)).getD default)))))))],mkH [(102,.var [.p (.sl 3 (List.map enc_api_Unit a.Units)),.p (.sl 1 (List.map encI a.Bounds)),.p (pi a.Max)])]⟩) (by kernel_rfl) (by kernel_rfl) ?_
              refine lok_c (((!y1) || (decide (((ix l i).Value).Num < (0:Int)))) || ((ref01_Less (api_Ratio.mk ((ix a.Units i).Max) (1:Int)) ((ix l i).Value)).getD default)) ?_ ?_
              · intro b_3
                replace H1:=cpos H1 b_3
                refine lok_rt E0 (⟨64,mkS [(4,.x (.one (.p (.val (.bool false)))))],mkH []⟩) ?_
                refine lok_ret ?_
                try simp only [thenL,blockL,↓reduceIte,reduceCtorEq]
                have e_1:=k_1 _ (Option.some.inj H1).symm
                subst e_1
                try dsimp only at H0
                obtain rfl:=Option.some.inj H0
                try simp only [thenL,blockL]
                exact fin_au _ (.inr rfl) [] (⟨64,mkS [(4,.x (.one (.p (.val (.bool false)))))],mkH []⟩) rfl rfl imp_au
              · intro b_3
                replace H1:=cneg H1 b_3
                refine lok_skip ?_
                try simp only [thenL,blockL,↓reduceIte,reduceCtorEq]
                refine lok_rl E0 (⟨64,mkS [(1,.x (.one (.p (.sl 3 (List.map enc_api_UnitMark l))))),(2,.x (.one (.ptr 102 0))),(5,.x (.one (.p (pi (IntKind.i64.wrap (i + (1:Int)))))))],mkH [(102,.var [.p (.sl 3 (List.map enc_api_Unit a.Units)),.p (.sl 1 (List.map encI a.Bounds)),.p (pi a.Max)])]⟩) ?_
                try simp only [thenL,blockL,↓reduceIte,reduceCtorEq]
                exact ⟨(IntKind.i64.wrap (i + (1:Int))),(Option.some.inj H1).symm,imp_au⟩
        · intro b_11
          replace H1:=cneg H1 b_11
          refine lok_exit ?_
          try simp only [thenL,blockL,↓reduceIte,reduceCtorEq]
          have e_1:=k_1 _ (Option.some.inj H1).symm
          subst e_1
          try dsimp only at H0
          try simp only [thenL,blockL,↓reduceIte,reduceCtorEq]
          exact ⟨(),H0,imp_au⟩
theorem ok_ref01_Reduce (negative : Bool) (num : ref01_Wide) (den : ref01_Wide) (r_ : api_Ratio × Int) (H0 : ref01_Reduce negative num den = some r_) : CallOK Try.prog 88 [.one (.p (.val (.bool negative))),.agg [.p (.val (.int .u64 num.Hi)),.p (.val (.int .u64 num.Lo))],.agg [.p (.val (.int .u64 den.Hi)),.p (.val (.int .u64 den.Lo))]] [] [.agg [.p (pi r_.1.Num),.p (pi r_.1.Den)],.one (.p (pi r_.2))] []:=by
  refine callOK (n:=61) (rs:=[.cell 6 36,.tmp 7]) (nb:=0) (V:=[]) Try.func88 rfl (by kernel_rfl) rfl rfl rfl rfl (Nat.le_of_ble_eq_true rfl) (by decide) ?_
  unfold ref01_Reduce at H0
  refine lok_rt E0 (⟨61,mkS [(0,.x (.one (.p (.val (.bool negative))))),(4,.x (.one (.ptr 104 0))),(5,.x (.one (.ptr 105 0))),(6,.x (.one (.ptr 106 0)))],mkH [(104,.var [.p (.val (.int .u64 num.Hi)),.p (.val (.int .u64 num.Lo))]),(105,.var [.p (.val (.int .u64 den.Hi)),.p (.val (.int .u64 den.Lo))]),(106,.var [.p (pi (0:Int)),.p (pi (0:Int))])]⟩) ?_
  replace H0:=bind_some H0
  obtain ⟨y,h_0,H0⟩:=H0
  refine lok_rt (Env.of E0 [⟨some 16,95,[.agg [.p (.val (.int .u64 num.Hi)),.p (.val (.int .u64 num.Lo))],.agg [.p (.val (.int .u64 den.Hi)),.p (.val (.int .u64 den.Lo))]],[],[.agg [.p (.val (.int .u64 y.Hi)),.p (.val (.int .u64 y.Lo))]],[],True,fun _ => ok_ref01_Divisor num den y h_0,[]⟩]) (⟨61,mkS [(0,.x (.one (.p (.val (.bool negative))))),(4,.x (.one (.ptr 104 0))),(5,.x (.one (.ptr 105 0))),(6,.x (.one (.ptr 106 0))),(8,.x (.one (.ptr 108 0)))],mkH [(104,.var [.p (.val (.int .u64 num.Hi)),.p (.val (.int .u64 num.Lo))]),(105,.var [.p (.val (.int .u64 den.Hi)),.p (.val (.int .u64 den.Lo))]),(106,.var [.p (pi (0:Int)),.p (pi (0:Int))]),(108,.var [.p (.val (.int .u64 y.Hi)),.p (.val (.int .u64 y.Lo))])]⟩) ?_
  replace H0:=bind_some H0
  obtain ⟨⟨y1,y2⟩,h_1,H0⟩:=H0
  try dsimp only at H0
  refine lok_rt (Env.of E0 [⟨some 20,107,[.agg [.p (.val (.int .u64 num.Hi)),.p (.val (.int .u64 num.Lo))],.agg [.p (.val (.int .u64 y.Hi)),.p (.val (.int .u64 y.Lo))]],[],[.agg [.p (.val (.int .u64 y1.Hi)),.p (.val (.int .u64 y1.Lo))],.agg [.p (.val (.int .u64 y2.Hi)),.p (.val (.int .u64 y2.Lo))]],[],True,fun _ => ok_ref01_Divide num y (y1,y2) h_1,[]⟩]) (⟨61,mkS [(0,.x (.one (.p (.val (.bool negative))))),(5,.x (.one (.ptr 105 0))),(6,.x (.one (.ptr 106 0))),(8,.x (.one (.ptr 108 0))),(9,.x (.one (.ptr 109 0)))],mkH [(105,.var [.p (.val (.int .u64 den.Hi)),.p (.val (.int .u64 den.Lo))]),(106,.var [.p (pi (0:Int)),.p (pi (0:Int))]),(108,.var [.p (.val (.int .u64 y.Hi)),.p (.val (.int .u64 y.Lo))]),(109,.var [.p (.val (.int .u64 y1.Hi)),.p (.val (.int .u64 y1.Lo))])]⟩) ?_
  replace H0:=bind_some H0
  obtain ⟨⟨y3,y4⟩,h_2,H0⟩:=H0
  try dsimp only at H0
  refine lok_rt (Env.of E0 [⟨some 26,107,[.agg [.p (.val (.int .u64 den.Hi)),.p (.val (.int .u64 den.Lo))],.agg [.p (.val (.int .u64 y.Hi)),.p (.val (.int .u64 y.Lo))]],[],[.agg [.p (.val (.int .u64 y3.Hi)),.p (.val (.int .u64 y3.Lo))],.agg [.p (.val (.int .u64 y4.Hi)),.p (.val (.int .u64 y4.Lo))]],[],True,fun _ => ok_ref01_Divide den y (y3,y4) h_2,[]⟩]) (⟨61,mkS [(0,.x (.one (.p (.val (.bool negative))))),(6,.x (.one (.ptr 106 0))),(9,.x (.one (.ptr 109 0))),(11,.x (.one (.ptr 111 0)))],mkH [(106,.var [.p (pi (0:Int)),.p (pi (0:Int))]),(109,.var [.p (.val (.int .u64 y1.Hi)),.p (.val (.int .u64 y1.Lo))]),(111,.var [.p (.val (.int .u64 y3.Hi)),.p (.val (.int .u64 y3.Lo))])]⟩) ?_
  refine lok_seq ?_
  refine lok_rt E0 (⟨61,mkS [(0,.x (.one (.p (.val (.bool negative))))),(6,.x (.one (.ptr 106 0))),(9,.x (.one (.ptr 109 0))),(11,.x (.one (.ptr 111 0))),(46,.x (.one (.p (.val (.bool ((((decide ((0:Int) < y1.Hi)) || (decide ((0:Int) < y3.Hi))) || (decide ((1152921504606846976:Int) < y1.Lo))) || (decide ((1152921504606846976:Int) < y3.Lo))))))))],mkH [(106,.var [.p (pi (0:Int)),.p (pi (0:Int))]),(109,.var [.p (.val (.int .u64 y1.Hi)),.p (.val (.int .u64 y1.Lo))]),(111,.var [.p (.val (.int .u64 y3.Hi)),.p (.val (.int .u64 y3.Lo))])]⟩) ?_
  refine lok_c ((((decide ((0:Int) < y1.Hi)) || (decide ((0:Int) < y3.Hi))) || (decide ((1152921504606846976:Int) < y1.Lo))) || (decide ((1152921504606846976:Int) < y3.Lo))) ?_ ?_
  · intro b_4
    replace H0:=cpos H0 b_4
    refine lok_rt E0 (⟨61,mkS [(6,.x (.one (.ptr 106 0))),(7,.x (.one (.p (pi (6:Int)))))],mkH [(106,.var [.p (pi (0:Int)),.p (pi (0:Int))])]⟩) ?_
    refine lok_ret ?_
    obtain rfl:=Option.some.inj H0
    try simp only [thenL,blockL]
    exact fin_au _ (.inr rfl) [] (⟨61,mkS [(6,.x (.one (.ptr 106 0))),(7,.x (.one (.p (pi (6:Int)))))],mkH [(106,.var [.p (pi (0:Int)),.p (pi (0:Int))])]⟩) rfl rfl imp_au
  · intro b_4
    replace H0:=cneg H0 b_4
    refine lok_skip ?_
    try simp only [thenL,blockL,↓reduceIte,reduceCtorEq]
    refine lok_rt E0 (⟨61,mkS [(0,.x (.one (.p (.val (.bool negative))))),(6,.x (.one (.ptr 106 0))),(13,.x (.one (.ptr 113 0)))],mkH [(106,.var [.p (pi (0:Int)),.p (pi (0:Int))]),(113,.var [.p (pi (IntKind.i64.wrap y1.Lo)),.p (pi (IntKind.i64.wrap y3.Lo))])]⟩) ?_
    refine lok_join (fun x_ : Int => ref01_Reduce_j1 y3 x_ = some r_) (fun x_ => ⟨61,mkS [(6,.x (.one (.ptr 106 0))),(13,.x (.one (.ptr 113 0)))],mkH [(106,.var [.p (pi (0:Int)),.p (pi (0:Int))]),(113,.var [.p (pi x_),.p (pi (IntKind.i64.wrap y3.Lo))])]⟩) ?hyref01_Reduce_j1 ?hxref01_Reduce_j1
    case hyref01_Reduce_j1 =>
      rintro out H0
      try dsimp only at H0 ⊢
      unfold ref01_Reduce_j1 at H0
      refine lok_rt E0 (⟨61,mkS [(6,.x (.one (.ptr 106 0))),(7,.x (.one (.p (pi (0:Int)))))],mkH [(106,.var [.p (pi out),.p (pi (IntKind.i64.wrap y3.Lo))])]⟩) ?_
      refine lok_ret ?_
      obtain rfl:=Option.some.inj H0
      try simp only [thenL,blockL]
      exact fin_au _ (.inr rfl) [] (⟨61,mkS [(6,.x (.one (.ptr 106 0))),(7,.x (.one (.p (pi (0:Int)))))],mkH [(106,.var [.p (pi out),.p (pi (IntKind.i64.wrap y3.Lo))])]⟩) rfl rfl imp_au
    case hxref01_Reduce_j1 =>
      refine lok_rt E0 (⟨61,mkS [(6,.x (.one (.ptr 106 0))),(13,.x (.one (.ptr 113 0))),(55,.x (.one (.p (.val (.bool negative)))))],mkH [(106,.var [.p (pi (0:Int)),.p (pi (0:Int))]),(113,.var [.p (pi (IntKind.i64.wrap y1.Lo)),.p (pi (IntKind.i64.wrap y3.Lo))])]⟩) ?_
      refine lok_c negative ?_ ?_
      · intro b_3
        replace H0:=cpos H0 b_3
        refine lok_rl E0 (⟨61,mkS [(6,.x (.one (.ptr 106 0))),(13,.x (.one (.ptr 113 0)))],mkH [(106,.var [.p (pi (0:Int)),.p (pi (0:Int))]),(113,.var [.p (pi (IntKind.i64.wrap (0 - (IntKind.i64.wrap y1.Lo)))),.p (pi (IntKind.i64.wrap y3.Lo))])]⟩) ?_
        try simp only [thenL,blockL,↓reduceIte,reduceCtorEq]
        exact ⟨(IntKind.i64.wrap (0 - (IntKind.i64.wrap y1.Lo))),H0,imp_au⟩
      · intro b_3
        replace H0:=cneg H0 b_3
        refine lok_skip ?_
        try simp only [thenL,blockL,↓reduceIte,reduceCtorEq]
        exact ⟨(IntKind.i64.wrap y1.Lo),H0,imp_au⟩
theorem ok_ref01_New (num:Int) (den:Int) (r_ : api_Ratio × Int) (H0 : ref01_New num den = some r_) : CallOK Try.prog 52 [.one (.p (pi num)),.one (.p (pi den))] [] [.agg [.p (pi r_.1.Num),.p (pi r_.1.Den)],.one (.p (pi r_.2))] []:=by
  refine callOK (n:=23) (rs:=[.cell 4 36,.tmp 5]) (nb:=0) (V:=[]) Try.func52 rfl (by kernel_rfl) rfl rfl rfl rfl (Nat.le_of_ble_eq_true rfl) (by decide) ?_
  unfold ref01_New at H0
  refine lok_rt E0 (⟨23,mkS [(0,.x (.one (.p (pi num)))),(1,.x (.one (.p (pi den)))),(4,.x (.one (.ptr 104 0)))],mkH [(104,.var [.p (pi (0:Int)),.p (pi (0:Int))])]⟩) ?_
  refine lok_seq ?_
  refine lok_rt E0 (⟨23,mkS [(0,.x (.one (.p (pi num)))),(1,.x (.one (.p (pi den)))),(4,.x (.one (.ptr 104 0))),(7,.x (.one (.p (.val (.bool (den == (0:Int)))))))],mkH [(104,.var [.p (pi (0:Int)),.p (pi (0:Int))])]⟩) ?_
  refine lok_c (den == (0:Int)) ?_ ?_
  · intro b_3
    replace H0:=cpos H0 b_3
    refine lok_rt E0 (⟨23,mkS [(4,.x (.one (.ptr 104 0))),(5,.x (.one (.p (pi (2:Int)))))],mkH [(104,.var [.p (pi (0:Int)),.p (pi (0:Int))])]⟩) ?_
    refine lok_ret ?_
    obtain rfl:=Option.some.inj H0
    try simp only [thenL,blockL]
    exact fin_au _ (.inr rfl) [] (⟨23,mkS [(4,.x (.one (.ptr 104 0))),(5,.x (.one (.p (pi (2:Int)))))],mkH [(104,.var [.p (pi (0:Int)),.p (pi (0:Int))])]⟩) rfl rfl imp_au
  · intro b_3
    replace H0:=cneg H0 b_3
    refine lok_skip ?_
    try simp only [thenL,blockL,↓reduceIte,reduceCtorEq]
    replace H0:=bind_some H0
    obtain ⟨y,h_0,H0⟩:=H0
    replace H0:=bind_some H0
    obtain ⟨y1,h_1,H0⟩:=H0
    replace H0:=bind_some H0
    obtain ⟨⟨y2,y3⟩,h_2,H0⟩:=H0
    try dsimp only at H0
    refine lok_rt (Env.of E0 [⟨some 15,89,[.one (.p (pi num))],[],[.one (.p (.val (.int .u64 y)))],[],True,fun _ => ok_ref01_Size num y h_0,[]⟩,
      ⟨some 18,89,[.one (.p (pi den))],[],[.one (.p (.val (.int .u64 y1)))],[],True,fun _ => ok_ref01_Size den y1 h_1,[]⟩,
      ⟨some 20,88,[.one (.p (.val (.bool (!((decide (num < (0:Int))) == (decide (den < (0:Int)))))))),.agg [.p (.val (.int .u64 (0:Int))),.p (.val (.int .u64 y))],.agg [.p (.val (.int .u64 (0:Int))),.p (.val (.int .u64 y1))]],[],[.agg [.p (pi y2.Num),.p (pi y2.Den)],.one (.p (pi y3))],[],True,fun _ => ok_ref01_Reduce (!((decide (num < (0:Int))) == (decide (den < (0:Int))))) (ref01_Wide.mk (0:Int) y) (ref01_Wide.mk (0:Int) y1) (y2,y3) h_2,[]⟩]) (⟨23,mkS [(4,.x (.one (.ptr 104 0))),(5,.x (.one (.p (pi y3))))],mkH [(104,.var [.p (pi y2.Num),.p (pi y2.Den)])]⟩) ?_
    refine lok_ret ?_
    obtain rfl:=Option.some.inj H0
    try simp only [thenL,blockL]
    exact fin_au _ (.inr rfl) [] (⟨23,mkS [(4,.x (.one (.ptr 104 0))),(5,.x (.one (.p (pi y3))))],mkH [(104,.var [.p (pi y2.Num),.p (pi y2.Den)])]⟩) rfl rfl imp_au
theorem ok_ref01_Mul (a : api_Ratio) (b : api_Ratio) (r_ : api_Ratio × Int) (H0 : ref01_Mul a b = some r_) : CallOK Try.prog 53 [.agg [.p (pi a.Num),.p (pi a.Den)],.agg [.p (pi b.Num),.p (pi b.Den)]] [] [.agg [.p (pi r_.1.Num),.p (pi r_.1.Den)],.one (.p (pi r_.2))] []:=by
  refine callOK (n:=39) (rs:=[.cell 4 36,.tmp 5]) (nb:=0) (V:=[]) Try.func53 rfl (by kernel_rfl) rfl rfl rfl rfl (Nat.le_of_ble_eq_true rfl) (by decide) ?_
  unfold ref01_Mul at H0
  refine lok_rt E0 (⟨39,mkS [(2,.x (.one (.ptr 102 0))),(3,.x (.one (.ptr 103 0))),(4,.x (.one (.ptr 104 0)))],mkH [(102,.var [.p (pi a.Num),.p (pi a.Den)]),(103,.var [.p (pi b.Num),.p (pi b.Den)]),(104,.var [.p (pi (0:Int)),.p (pi (0:Int))])]⟩) ?_
  refine lok_seq ?_
  replace H0:=bind_some H0
  obtain ⟨y,h_0,H0⟩:=H0
  replace H0:=req_some H0
  obtain ⟨q_9,H0⟩:=H0
  refine lok_rt (Env.of E0 [⟨some 7,60,[.agg [.p (pi a.Num),.p (pi a.Den)]],[],[.one (.p (.val (.bool y)))],[],True,fun _ => ok_ref01_Valid a y h_0,[]⟩,
      ⟨some 11,60,[.agg [.p (pi b.Num),.p (pi b.Den)]],[],[.one (.p (.val (.bool ((ref01_Valid b).getD default))))],[],(ref01_Valid b).isSome = true,fun h => ok_ref01_Valid b _ (isSome_get h),[]⟩]) (⟨39,mkS [(2,.x (.one (.ptr 102 0))),(3,.x (.one (.ptr 103 0))),(4,.x (.one (.ptr 104 0))),(13,.x (.one (.p (.val (.bool ((!y) || (!((ref01_Valid b).getD default))))))))],mkH [(102,.var [.p (pi a.Num),.p (pi a.Den)]),(103,.var [.p (pi b.Num),.p (pi b.Den)]),(104,.var [.p (pi (0:Int)),.p (pi (0:Int))])]⟩) ?_
  refine lok_c ((!y) || (!((ref01_Valid b).getD default))) ?_ ?_
  · intro b_8
    replace H0:=cpos H0 b_8
    refine lok_rt E0 (⟨39,mkS [(4,.x (.one (.ptr 104 0))),(5,.x (.one (.p (pi (1:Int)))))],mkH [(104,.var [.p (pi (0:Int)),.p (pi (0:Int))])]⟩) ?_
    refine lok_ret ?_
    obtain rfl:=Option.some.inj H0
    try simp only [thenL,blockL]
    exact fin_au _ (.inr rfl) [] (⟨39,mkS [(4,.x (.one (.ptr 104 0))),(5,.x (.one (.p (pi (1:Int)))))],mkH [(104,.var [.p (pi (0:Int)),.p (pi (0:Int))])]⟩) rfl rfl imp_au
  · intro b_8
    replace H0:=cneg H0 b_8
    refine lok_skip ?_
    try simp only [thenL,blockL,↓reduceIte,reduceCtorEq]
    replace H0:=bind_some H0
    obtain ⟨y1,h_1,H0⟩:=H0
    replace H0:=bind_some H0
    obtain ⟨y2,h_2,H0⟩:=H0
    replace H0:=bind_some H0
    obtain ⟨y3,h_3,H0⟩:=H0
    replace H0:=bind_some H0
    obtain ⟨y4,h_4,H0⟩:=H0
    replace H0:=bind_some H0
    obtain ⟨y5,h_5,H0⟩:=H0
    replace H0:=bind_some H0
    obtain ⟨y6,h_6,H0⟩:=H0
    replace H0:=bind_some H0
    obtain ⟨⟨y7,y8⟩,h_7,H0⟩:=H0
    try dsimp only at H0
    refine lok_dt (Env.of E0 [⟨some 24,89,[.one (.p (pi a.Num))],[],[.one (.p (.val (.int .u64 y1)))],[],True,fun _ => ok_ref01_Size a.Num y1 h_1,[]⟩,
      ⟨some 27,89,[.one (.p (pi b.Num))],[],[.one (.p (.val (.int .u64 y2)))],[],True,fun _ => ok_ref01_Size b.Num y2 h_2,[]⟩,
      ⟨some 28,90,[.one (.p (.val (.int .u64 y1))),.one (.p (.val (.int .u64 y2)))],[],[.agg [.p (.val (.int .u64 y3.Hi)),.p (.val (.int .u64 y3.Lo))]],[],True,fun _ => ok_ref01_Product y1 y2 y3 h_3,[]⟩,
      ⟨some 31,89,[.one (.p (pi a.Den))],[],[.one (.p (.val (.int .u64 y4)))],[],True,fun _ => ok_ref01_Size a.Den y4 h_4,[]⟩,
      ⟨some 34,89,[.one (.p (pi b.Den))],[],[.one (.p (.val (.int .u64 y5)))],[],True,fun _ => ok_ref01_Size b.Den y5 h_5,[]⟩,
      ⟨some 35,90,[.one (.p (.val (.int .u64 y4))),.one (.p (.val (.int .u64 y5)))],[],[.agg [.p (.val (.int .u64 y6.Hi)),.p (.val (.int .u64 y6.Lo))]],[],True,fun _ => ok_ref01_Product y4 y5 y6 h_6,[]⟩,
      ⟨some 36,88,[.one (.p (.val (.bool (!((decide (a.Num < (0:Int))) == (decide (b.Num < (0:Int)))))))),.agg [.p (.val (.int .u64 y3.Hi)),.p (.val (.int .u64 y3.Lo))],.agg [.p (.val (.int .u64 y6.Hi)),.p (.val (.int .u64 y6.Lo))]],[],[.agg [.p (pi y7.Num),.p (pi y7.Den)],.one (.p (pi y8))],[],True,fun _ => ok_ref01_Reduce (!((decide (a.Num < (0:Int))) == (decide (b.Num < (0:Int))))) y3 y6 (y7,y8) h_7,[]⟩]) 24 (⟨39,mkS [(4,.x (.one (.ptr 104 0))),(5,.x (.one (.p (pi y8))))],mkH [(104,.var [.p (pi y7.Num),.p (pi y7.Den)])]⟩) (by kernel_rfl) (by kernel_rfl) ?_
    refine lok_ret ?_
    obtain rfl:=Option.some.inj H0
    try simp only [thenL,blockL]
    exact fin_au _ (.inr rfl) [] (⟨39,mkS [(4,.x (.one (.ptr 104 0))),(5,.x (.one (.p (pi y8))))],mkH [(104,.var [.p (pi y7.Num),.p (pi y7.Den)])]⟩) rfl rfl imp_au
theorem ok_ref01_Sum (l : List api_Ratio) (r_ : api_Ratio × Int) (H0 : ref01_Sum l = some r_) : CallOK Try.prog 87 [.one (.p (.sl 2 (List.map enc_api_Ratio l)))] [] [.agg [.p (pi r_.1.Num),.p (pi r_.1.Den)],.one (.p (pi r_.2))] []:=by
  refine callOK (n:=119) (rs:=[.cell 2 36,.tmp 3]) (nb:=0) (V:=[]) Try.func87 rfl (by kernel_rfl) rfl rfl rfl rfl (Nat.le_of_ble_eq_true rfl) (by decide) ?_
  unfold ref01_Sum at H0
  refine lok_rt E0 (⟨119,mkS [(0,.x (.one (.p (.sl 2 (List.map enc_api_Ratio l))))),(2,.x (.one (.ptr 102 0)))],mkH [(102,.var [.p (pi (0:Int)),.p (pi (0:Int))])]⟩) ?_
  refine lok_seq ?_
  refine lok_rt E0 (⟨119,mkS [(0,.x (.one (.p (.sl 2 (List.map enc_api_Ratio l))))),(2,.x (.one (.ptr 102 0))),(17,.x (.one (.p (.val (.bool (decide ((100:Int) < (l.length:Int))))))))],mkH [(102,.var [.p (pi (0:Int)),.p (pi (0:Int))])]⟩) ?_
  refine lok_c (decide ((100:Int) < (l.length:Int))) ?_ ?_
  · intro b_23
    replace H0:=cpos H0 b_23
    refine lok_rt E0 (⟨119,mkS [(2,.x (.one (.ptr 102 0))),(3,.x (.one (.p (pi (3:Int)))))],mkH [(102,.var [.p (pi (0:Int)),.p (pi (0:Int))])]⟩) ?_
    refine lok_ret ?_
    obtain rfl:=Option.some.inj H0
    try simp only [thenL,blockL]
    exact fin_au _ (.inr rfl) [] (⟨119,mkS [(2,.x (.one (.ptr 102 0))),(3,.x (.one (.p (pi (3:Int)))))],mkH [(102,.var [.p (pi (0:Int)),.p (pi (0:Int))])]⟩) rfl rfl imp_au
  · intro b_23
    replace H0:=cneg H0 b_23
    refine lok_skip ?_
    try simp only [thenL,blockL,↓reduceIte,reduceCtorEq]
    refine lok_join (fun x_ : Unit => ref01_Sum_j5 l = some r_) (fun x_ => ⟨119,mkS [(0,.x (.one (.p (.sl 2 (List.map enc_api_Ratio l))))),(2,.x (.one (.ptr 102 0)))],mkH [(102,.var [.p (pi (0:Int)),.p (pi (0:Int))])]⟩) ?hyref01_Sum_j5 ?hxref01_Sum_j5
    case hyref01_Sum_j5 =>
      rintro _ H0
      try dsimp only at H0 ⊢
      unfold ref01_Sum_j5 at H0
      refine lok_rt E0 (⟨119,mkS [(0,.x (.one (.p (.sl 2 (List.map enc_api_Ratio l))))),(2,.x (.one (.ptr 102 0))),(5,.x (.one (.ptr 105 0)))],mkH [(102,.var [.p (pi (0:Int)),.p (pi (0:Int))]),(105,.var [.p (.val (.int .u64 (0:Int))),.p (.val (.int .u64 (1:Int)))])]⟩) ?_
      refine lok_join (fun x_ : Int × Int => ref01_Sum_j3 l x_.1 x_.2 = some r_) (fun x_ => ⟨119,mkS [(0,.x (.one (.p (.sl 2 (List.map enc_api_Ratio l))))),(2,.x (.one (.ptr 102 0))),(5,.x (.one (.ptr 105 0)))],mkH [(102,.var [.p (pi (0:Int)),.p (pi (0:Int))]),(105,.var [.p (.val (.int .u64 x_.1)),.p (.val (.int .u64 x_.2))])]⟩) ?hyref01_Sum_j3 ?hxref01_Sum_j3
      case hyref01_Sum_j3 =>
        rintro ⟨common,common1⟩ H0
        try dsimp only at H0 ⊢
        unfold ref01_Sum_j3 at H0
        refine lok_rt E0 (⟨119,mkS [(0,.x (.one (.p (.sl 2 (List.map enc_api_Ratio l))))),(2,.x (.one (.ptr 102 0))),(5,.x (.one (.ptr 105 0))),(10,.x (.one (.p (.val (.bool false))))),(11,.x (.one (.ptr 111 0)))],mkH [(102,.var [.p (pi (0:Int)),.p (pi (0:Int))]),(105,.var [.p (.val (.int .u64 common)),.p (.val (.int .u64 common1))]),(111,.var [.p (.val (.int .u64 (0:Int))),.p (.val (.int .u64 (0:Int)))])]⟩) ?_
        refine lok_join (fun x_ : Bool × Int × Int => ref01_Sum_j1 common common1 x_.1 x_.2.1 x_.2.2 = some r_) (fun x_ => ⟨119,mkS [(2,.x (.one (.ptr 102 0))),(5,.x (.one (.ptr 105 0))),(10,.x (.one (.p (.val (.bool x_.1))))),(11,.x (.one (.ptr 111 0)))],mkH [(102,.var [.p (pi (0:Int)),.p (pi (0:Int))]),(105,.var [.p (.val (.int .u64 common)),.p (.val (.int .u64 common1))]),(111,.var [.p (.val (.int .u64 x_.2.1)),.p (.val (.int .u64 x_.2.2))])]⟩) ?hyref01_Sum_j1 ?hxref01_Sum_j1
        case hyref01_Sum_j1 =>
          rintro ⟨s,n,n1⟩ H0
          try dsimp only at H0 ⊢
          unfold ref01_Sum_j1 at H0
          replace H0:=bind_some H0
          obtain ⟨⟨y,y1⟩,h_0,H0⟩:=H0
          try dsimp only at H0
          refine lok_dt (Env.of E0 [⟨some 116,88,[.one (.p (.val (.bool (s && (!((n == (0:Int)) && (n1 == (0:Int)))))))),.agg [.p (.val (.int .u64 n)),.p (.val (.int .u64 n1))],.agg [.p (.val (.int .u64 common)),.p (.val (.int .u64 common1))]],[],[.agg [.p (pi y.Num),.p (pi y.Den)],.one (.p (pi y1))],[],True,fun _ => ok_ref01_Reduce (s && (!((n == (0:Int)) && (n1 == (0:Int))))) (ref01_Wide.mk n n1) (ref01_Wide.mk common common1) (y,y1) h_0,[]⟩]) 11 (⟨119,mkS [(2,.x (.one (.ptr 102 0))),(3,.x (.one (.p (pi y1))))],mkH [(102,.var [.p (pi y.Num),.p (pi y.Den)])]⟩) (by kernel_rfl) (by kernel_rfl) ?_
          refine lok_ret ?_
          obtain rfl:=Option.some.inj H0
          try simp only [thenL,blockL]
          exact fin_au _ (.inr rfl) [] (⟨119,mkS [(2,.x (.one (.ptr 102 0))),(3,.x (.one (.p (pi y1))))],mkH [(102,.var [.p (pi y.Num),.p (pi y.Den)])]⟩) rfl rfl imp_au
        case hxref01_Sum_j1 =>
          refine lok_rt E0 (⟨119,mkS [(0,.x (.one (.p (.sl 2 (List.map enc_api_Ratio l))))),(2,.x (.one (.ptr 102 0))),(5,.x (.one (.ptr 105 0))),(10,.x (.one (.p (.val (.bool false))))),(11,.x (.one (.ptr 111 0))),(12,.x (.one (.p (pi (0:Int)))))],mkH [(102,.var [.p (pi (0:Int)),.p (pi (0:Int))]),(105,.var [.p (.val (.int .u64 common)),.p (.val (.int .u64 common1))]),(111,.var [.p (.val (.int .u64 (0:Int))),.p (.val (.int .u64 (0:Int)))])]⟩) ?_
          refine lok_block ?_
          replace H0:=bind_some H0
          obtain ⟨v_1,hv_1,H0⟩:=H0
          refine lok_iter (fun x_ => ⟨119,mkS [(0,.x (.one (.p (.sl 2 (List.map enc_api_Ratio l))))),(2,.x (.one (.ptr 102 0))),(5,.x (.one (.ptr 105 0))),(10,.x (.one (.p (.val (.bool x_.1))))),(11,.x (.one (.ptr 111 0))),(12,.x (.one (.p (pi x_.2.1))))],mkH [(102,.var [.p (pi (0:Int)),.p (pi (0:Int))]),(105,.var [.p (.val (.int .u64 common)),.p (.val (.int .u64 common1))]),(111,.var [.p (.val (.int .u64 x_.2.2.1)),.p (.val (.int .u64 x_.2.2.2))])]⟩) hv_1 imp_au ?_
          · rintro ⟨s1,i,n2,n3⟩ o_1 H1 k_1
            unfold ref01_Sum_l2 at H1
            try dsimp only at H1 ⊢
            refine lok_seq ?_
            refine lok_rt E0 (⟨119,mkS [(0,.x (.one (.p (.sl 2 (List.map enc_api_Ratio l))))),(2,.x (.one (.ptr 102 0))),(5,.x (.one (.ptr 105 0))),(10,.x (.one (.p (.val (.bool s1))))),(11,.x (.one (.ptr 111 0))),(12,.x (.one (.p (pi i)))),(72,.x (.one (.p (.val (.bool (decide (i < (l.length:Int))))))))],mkH [(102,.var [.p (pi (0:Int)),.p (pi (0:Int))]),(105,.var [.p (.val (.int .u64 common)),.p (.val (.int .u64 common1))]),(111,.var [.p (.val (.int .u64 n2)),.p (.val (.int .u64 n3))])]⟩) ?_
            refine lok_c (decide (i < (l.length:Int))) ?_ ?_
            · intro b_9
              replace H1:=cpos H1 b_9
              refine lok_skip ?_
              try simp only [thenL,blockL,↓reduceIte,reduceCtorEq]
              refine lok_seq ?_
              refine lok_block ?_
              replace H1:=req_some H1
              obtain ⟨q_8,H1⟩:=H1
              replace H1:=bind_some H1
              obtain ⟨y2,h_2,H1⟩:=H1
              replace H1:=bind_some H1
              obtain ⟨⟨y3,y4⟩,h_3,H1⟩:=H1
              try dsimp only at H1
              refine lok_et (Env.of E0 [⟨some 82,89,[.one (.p (pi ((ix l i).Den)))],[],[.one (.p (.val (.int .u64 y2)))],[],True,fun _ => ok_ref01_Size ((ix l i).Den) y2 h_2,[]⟩,
      ⟨some 84,107,[.agg [.p (.val (.int .u64 common)),.p (.val (.int .u64 common1))],.agg [.p (.val (.int .u64 (0:Int))),.p (.val (.int .u64 y2))]],[],[.agg [.p (.val (.int .u64 y3.Hi)),.p (.val (.int .u64 y3.Lo))],.agg [.p (.val (.int .u64 y4.Hi)),.p (.val (.int .u64 y4.Lo))]],[],True,fun _ => ok_ref01_Divide (ref01_Wide.mk common common1) (ref01_Wide.mk (0:Int) y2) (y3,y4) h_3,[]⟩]) 119 [⟨[(5,.x (.one (.ptr 105 0)))],[(105,some (.var [.p (.val (.int .u64 common)),.p (.val (.int .u64 common1))]))],[(76,.x (.agg [.p (.val (.int .u64 common)),.p (.val (.int .u64 common1))]))],[],none⟩,
      ⟨[(0,.x (.one (.p (.sl 2 (List.map enc_api_Ratio l)))))],[],[(77,.x (.one (.p (.sl 2 (List.map enc_api_Ratio l)))))],[],none⟩,
      ⟨[(12,.x (.one (.p (pi i))))],[],[(78,.x (.one (.p (pi i))))],[],none⟩,
      ⟨[(77,.x (.one (.p (.sl 2 (List.map enc_api_Ratio l))))),(78,.x (.one (.p (pi i))))],[],[(79,.x (.one (.ep [pi ((ix l i).Num),pi ((ix l i).Den)])))],[],none⟩,
      ⟨[(79,.x (.one (.ep [pi ((ix l i).Num),pi ((ix l i).Den)])))],[],[(80,.x (.one (.ep [pi ((ix l i).Den)])))],[],none⟩,
      ⟨[(80,.x (.one (.ep [pi ((ix l i).Den)])))],[],[(81,.x (.one (.p (pi ((ix l i).Den)))))],[],none⟩,
      ⟨[(81,.x (.one (.p (pi ((ix l i).Den)))))],[],[(82,.x (.one (.p (.val (.int .u64 y2)))))],[],none⟩,
      ⟨[(82,.x (.one (.p (.val (.int .u64 y2)))))],[],[(83,.x (.agg [.p (.val (.int .u64 (0:Int))),.p (.val (.int .u64 y2))]))],[],none⟩,
      ⟨[(76,.x (.agg [.p (.val (.int .u64 common)),.p (.val (.int .u64 common1))])),(83,.x (.agg [.p (.val (.int .u64 (0:Int))),.p (.val (.int .u64 y2))]))],[],[(84,.tup [.agg [.p (.val (.int .u64 y3.Hi)),.p (.val (.int .u64 y3.Lo))],.agg [.p (.val (.int .u64 y4.Hi)),.p (.val (.int .u64 y4.Lo))]])],[],none⟩,
      ⟨[(84,.tup [.agg [.p (.val (.int .u64 y3.Hi)),.p (.val (.int .u64 y3.Lo))],.agg [.p (.val (.int .u64 y4.Hi)),.p (.val (.int .u64 y4.Lo))]])],[],[(75,.tup [.agg [.p (.val (.int .u64 y3.Hi)),.p (.val (.int .u64 y3.Lo))],.agg [.p (.val (.int .u64 y4.Hi)),.p (.val (.int .u64 y4.Lo))]])],[],none⟩,
      ⟨[(75,.tup [.agg [.p (.val (.int .u64 y3.Hi)),.p (.val (.int .u64 y3.Lo))],.agg [.p (.val (.int .u64 y4.Hi)),.p (.val (.int .u64 y4.Lo))]])],[],[(85,.x (.agg [.p (.val (.int .u64 y3.Hi)),.p (.val (.int .u64 y3.Lo))]))],[],none⟩,
      ⟨[(75,.tup [.agg [.p (.val (.int .u64 y3.Hi)),.p (.val (.int .u64 y3.Lo))],.agg [.p (.val (.int .u64 y4.Hi)),.p (.val (.int .u64 y4.Lo))]])],[],[(86,.x (.agg [.p (.val (.int .u64 y4.Hi)),.p (.val (.int .u64 y4.Lo))]))],[],none⟩,
      ⟨[],[(113,none)],[(13,.x (.one (.ptr 113 0)))],[(113,some (.var [.p (.val (.int .u64 (0:Int))),.p (.val (.int .u64 (0:Int)))]))],some 113⟩,
      ⟨[],[(114,none)],[(14,.x (.one (.ptr 114 0)))],[(114,some (.var [.p (.val (.int .u64 (0:Int))),.p (.val (.int .u64 (0:Int)))]))],some 114⟩,
      ⟨[(13,.x (.one (.ptr 113 0))),(85,.x (.agg [.p (.val (.int .u64 y3.Hi)),.p (.val (.int .u64 y3.Lo))]))],[(113,some (.var [.p (.val (.int .u64 (0:Int))),.p (.val (.int .u64 (0:Int)))]))],[],[(113,some (.var [.p (.val (.int .u64 y3.Hi)),.p (.val (.int .u64 y3.Lo))]))],none⟩] (⟨119,mkS [(0,.x (.one (.p (.sl 2 (List.map enc_api_Ratio l))))),(2,.x (.one (.ptr 102 0))),(5,.x (.one (.ptr 105 0))),(10,.x (.one (.p (.val (.bool s1))))),(11,.x (.one (.ptr 111 0))),(12,.x (.one (.p (pi i)))),(13,.x (.one (.ptr 113 0)))],mkH [(102,.var [.p (pi (0:Int)),.p (pi (0:Int))]),(105,.var [.p (.val (.int .u64 common)),.p (.val (.int .u64 common1))]),(111,.var [.p (.val (.int .u64 n2)),.p (.val (.int .u64 n3))]),(113,.var [.p (.val (.int .u64 y3.Hi)),.p (.val (.int .u64 y3.Lo))])]⟩) (by kernel_rfl) (by kernel_rfl) (by kernel_rfl) rfl rfl rfl ?_
              replace H1:=req_some H1
              obtain ⟨q_7,H1⟩:=H1
              replace H1:=bind_some H1
              obtain ⟨y5,h_4,H1⟩:=H1
              replace H1:=bind_some H1
              obtain ⟨y6,h_5,H1⟩:=H1
              replace H1:=bind_some H1
              obtain ⟨⟨y7,y8⟩,h_6,H1⟩:=H1
              try dsimp only at H1
              refine lok_dl (Env.of E0 [⟨some 101,89,[.one (.p (pi ((ix l i).Num)))],[],[.one (.p (.val (.int .u64 y5)))],[],True,fun _ => ok_ref01_Size ((ix l i).Num) y5 h_4,[]⟩,
      ⟨some 104,90,[.one (.p (.val (.int .u64 y5))),.one (.p (.val (.int .u64 y3.Lo)))],[],[.agg [.p (.val (.int .u64 y6.Hi)),.p (.val (.int .u64 y6.Lo))]],[],True,fun _ => ok_ref01_Product y5 y3.Lo y6 h_5,[]⟩,
      ⟨some 105,91,[.one (.p (.val (.bool s1))),.agg [.p (.val (.int .u64 n2)),.p (.val (.int .u64 n3))],.one (.p (.val (.bool (decide ((ix l i).Num < (0:Int)))))),.agg [.p (.val (.int .u64 y6.Hi)),.p (.val (.int .u64 y6.Lo))]],[],[.one (.p (.val (.bool y7))),.agg [.p (.val (.int .u64 y8.Hi)),.p (.val (.int .u64 y8.Lo))]],[],True,fun _ => ok_ref01_total s1 (ref01_Wide.mk n2 n3) (decide ((ix l i).Num < (0:Int))) y6 (y7,y8) h_6,[]⟩]) 22 (⟨119,mkS [(0,.x (.one (.p (.sl 2 (List.map enc_api_Ratio l))))),(2,.x (.one (.ptr 102 0))),(5,.x (.one (.ptr 105 0))),(10,.x (.one (.p (.val (.bool y7))))),(11,.x (.one (.ptr 111 0))),(12,.x (.one (.p (pi i))))],mkH [(102,.var [.p (pi (0:Int)),.p (pi (0:Int))]),(105,.var [.p (.val (.int .u64 common)),.p (.val (.int .u64 common1))]),(111,.var [.p (.val (.int .u64 y8.Hi)),.p (.val (.int .u64 y8.Lo))])]⟩) (by kernel_rfl) (by kernel_rfl) ?_
              try simp only [thenL,blockL,↓reduceIte,reduceCtorEq]
              refine lok_rl E0 (⟨119,mkS [(0,.x (.one (.p (.sl 2 (List.map enc_api_Ratio l))))),(2,.x (.one (.ptr 102 0))),(5,.x (.one (.ptr 105 0))),(10,.x (.one (.p (.val (.bool y7))))),(11,.x (.one (.ptr 111 0))),(12,.x (.one (.p (pi (IntKind.i64.wrap (i + (1:Int)))))))],mkH [(102,.var [.p (pi (0:Int)),.p (pi (0:Int))]),(105,.var [.p (.val (.int .u64 common)),.p (.val (.int .u64 common1))]),(111,.var [.p (.val (.int .u64 y8.Hi)),.p (.val (.int .u64 y8.Lo))])]⟩) ?_
              try simp only [thenL,blockL,↓reduceIte,reduceCtorEq]
              exact ⟨(y7,(IntKind.i64.wrap (i + (1:Int))),y8.Hi,y8.Lo),(Option.some.inj H1).symm,imp_au⟩
            · intro b_9
              replace H1:=cneg H1 b_9
              refine lok_exit ?_
              try simp only [thenL,blockL,↓reduceIte,reduceCtorEq]
              have e_1:=k_1 _ (Option.some.inj H1).symm
              subst e_1
              try dsimp only at H0
              try simp only [thenL,blockL,↓reduceIte,reduceCtorEq]
              exact ⟨(s1,n2,n3),H0,imp_au⟩
      case hxref01_Sum_j3 =>
        refine lok_rt E0 (⟨119,mkS [(0,.x (.one (.p (.sl 2 (List.map enc_api_Ratio l))))),(2,.x (.one (.ptr 102 0))),(5,.x (.one (.ptr 105 0))),(6,.x (.one (.p (pi (0:Int)))))],mkH [(102,.var [.p (pi (0:Int)),.p (pi (0:Int))]),(105,.var [.p (.val (.int .u64 (0:Int))),.p (.val (.int .u64 (1:Int)))])]⟩) ?_
        refine lok_block ?_
        replace H0:=bind_some H0
        obtain ⟨v_10,hv_10,H0⟩:=H0
        refine lok_iter (fun x_ => ⟨119,mkS [(0,.x (.one (.p (.sl 2 (List.map enc_api_Ratio l))))),(2,.x (.one (.ptr 102 0))),(5,.x (.one (.ptr 105 0))),(6,.x (.one (.p (pi x_.1))))],mkH [(102,.var [.p (pi (0:Int)),.p (pi (0:Int))]),(105,.var [.p (.val (.int .u64 x_.2.1)),.p (.val (.int .u64 x_.2.2))])]⟩) hv_10 imp_au ?_
        · rintro ⟨i1,common2,common3⟩ o_1 H1 k_1
          unfold ref01_Sum_l4 at H1
          try dsimp only at H1 ⊢
          refine lok_seq ?_
          refine lok_rt E0 (⟨119,mkS [(0,.x (.one (.p (.sl 2 (List.map enc_api_Ratio l))))),(2,.x (.one (.ptr 102 0))),(5,.x (.one (.ptr 105 0))),(6,.x (.one (.p (pi i1)))),(36,.x (.one (.p (.val (.bool (decide (i1 < (l.length:Int))))))))],mkH [(102,.var [.p (pi (0:Int)),.p (pi (0:Int))]),(105,.var [.p (.val (.int .u64 common2)),.p (.val (.int .u64 common3))])]⟩) ?_
          refine lok_c (decide (i1 < (l.length:Int))) ?_ ?_
          · intro b_17
            replace H1:=cpos H1 b_17
            refine lok_skip ?_
            try simp only [thenL,blockL,↓reduceIte,reduceCtorEq]
            refine lok_seq ?_
            refine lok_block ?_
            replace H1:=req_some H1
            obtain ⟨q_16,H1⟩:=H1
            replace H1:=bind_some H1
            obtain ⟨y9,h_11,H1⟩:=H1
            refine lok_rt (Env.of E0 [⟨some 44,89,[.one (.p (pi ((ix l i1).Den)))],[],[.one (.p (.val (.int .u64 y9)))],[],True,fun _ => ok_ref01_Size ((ix l i1).Den) y9 h_11,[]⟩]) (⟨119,mkS [(0,.x (.one (.p (.sl 2 (List.map enc_api_Ratio l))))),(2,.x (.one (.ptr 102 0))),(5,.x (.one (.ptr 105 0))),(6,.x (.one (.p (pi i1)))),(7,.x (.one (.ptr 107 0)))],mkH [(102,.var [.p (pi (0:Int)),.p (pi (0:Int))]),(105,.var [.p (.val (.int .u64 common2)),.p (.val (.int .u64 common3))]),(107,.var [.p (.val (.int .u64 (0:Int))),.p (.val (.int .u64 y9))])]⟩) ?_
            replace H1:=bind_some H1
            obtain ⟨y10,h_12,H1⟩:=H1
            replace H1:=bind_some H1
            obtain ⟨⟨y11,y12⟩,h_13,H1⟩:=H1
            try dsimp only at H1
            refine lok_et (Env.of E0 [⟨some 50,95,[.agg [.p (.val (.int .u64 common2)),.p (.val (.int .u64 common3))],.agg [.p (.val (.int .u64 (0:Int))),.p (.val (.int .u64 y9))]],[],[.agg [.p (.val (.int .u64 y10.Hi)),.p (.val (.int .u64 y10.Lo))]],[],True,fun _ => ok_ref01_Divisor (ref01_Wide.mk common2 common3) (ref01_Wide.mk (0:Int) y9) y10 h_12,[]⟩,
      ⟨some 51,107,[.agg [.p (.val (.int .u64 (0:Int))),.p (.val (.int .u64 y9))],.agg [.p (.val (.int .u64 y10.Hi)),.p (.val (.int .u64 y10.Lo))]],[],[.agg [.p (.val (.int .u64 y11.Hi)),.p (.val (.int .u64 y11.Lo))],.agg [.p (.val (.int .u64 y12.Hi)),.p (.val (.int .u64 y12.Lo))]],[],True,fun _ => ok_ref01_Divide (ref01_Wide.mk (0:Int) y9) y10 (y11,y12) h_13,[]⟩]) 119 [⟨[(7,.x (.one (.ptr 107 0)))],[(107,some (.var [.p (.val (.int .u64 (0:Int))),.p (.val (.int .u64 y9))]))],[(47,.x (.agg [.p (.val (.int .u64 (0:Int))),.p (.val (.int .u64 y9))]))],[],none⟩,
      ⟨[(5,.x (.one (.ptr 105 0)))],[(105,some (.var [.p (.val (.int .u64 common2)),.p (.val (.int .u64 common3))]))],[(48,.x (.agg [.p (.val (.int .u64 common2)),.p (.val (.int .u64 common3))]))],[],none⟩,
      ⟨[(7,.x (.one (.ptr 107 0)))],[(107,some (.var [.p (.val (.int .u64 (0:Int))),.p (.val (.int .u64 y9))]))],[(49,.x (.agg [.p (.val (.int .u64 (0:Int))),.p (.val (.int .u64 y9))]))],[],none⟩,
      ⟨[(48,.x (.agg [.p (.val (.int .u64 common2)),.p (.val (.int .u64 common3))])),(49,.x (.agg [.p (.val (.int .u64 (0:Int))),.p (.val (.int .u64 y9))]))],[],[(50,.x (.agg [.p (.val (.int .u64 y10.Hi)),.p (.val (.int .u64 y10.Lo))]))],[],none⟩,
      ⟨[(47,.x (.agg [.p (.val (.int .u64 (0:Int))),.p (.val (.int .u64 y9))])),(50,.x (.agg [.p (.val (.int .u64 y10.Hi)),.p (.val (.int .u64 y10.Lo))]))],[],[(51,.tup [.agg [.p (.val (.int .u64 y11.Hi)),.p (.val (.int .u64 y11.Lo))],.agg [.p (.val (.int .u64 y12.Hi)),.p (.val (.int .u64 y12.Lo))]])],[],none⟩,
      ⟨[(51,.tup [.agg [.p (.val (.int .u64 y11.Hi)),.p (.val (.int .u64 y11.Lo))],.agg [.p (.val (.int .u64 y12.Hi)),.p (.val (.int .u64 y12.Lo))]])],[],[(46,.tup [.agg [.p (.val (.int .u64 y11.Hi)),.p (.val (.int .u64 y11.Lo))],.agg [.p (.val (.int .u64 y12.Hi)),.p (.val (.int .u64 y12.Lo))]])],[],none⟩,
      ⟨[(46,.tup [.agg [.p (.val (.int .u64 y11.Hi)),.p (.val (.int .u64 y11.Lo))],.agg [.p (.val (.int .u64 y12.Hi)),.p (.val (.int .u64 y12.Lo))]])],[],[(52,.x (.agg [.p (.val (.int .u64 y11.Hi)),.p (.val (.int .u64 y11.Lo))]))],[],none⟩,
      ⟨[(46,.tup [.agg [.p (.val (.int .u64 y11.Hi)),.p (.val (.int .u64 y11.Lo))],.agg [.p (.val (.int .u64 y12.Hi)),.p (.val (.int .u64 y12.Lo))]])],[],[(53,.x (.agg [.p (.val (.int .u64 y12.Hi)),.p (.val (.int .u64 y12.Lo))]))],[],none⟩,
      ⟨[],[(108,none)],[(8,.x (.one (.ptr 108 0)))],[(108,some (.var [.p (.val (.int .u64 (0:Int))),.p (.val (.int .u64 (0:Int)))]))],some 108⟩,
      ⟨[],[(109,none)],[(9,.x (.one (.ptr 109 0)))],[(109,some (.var [.p (.val (.int .u64 (0:Int))),.p (.val (.int .u64 (0:Int)))]))],some 109⟩,
      ⟨[(8,.x (.one (.ptr 108 0))),(52,.x (.agg [.p (.val (.int .u64 y11.Hi)),.p (.val (.int .u64 y11.Lo))]))],[(108,some (.var [.p (.val (.int .u64 (0:Int))),.p (.val (.int .u64 (0:Int)))]))],[],[(108,some (.var [.p (.val (.int .u64 y11.Hi)),.p (.val (.int .u64 y11.Lo))]))],none⟩] (⟨119,mkS [(0,.x (.one (.p (.sl 2 (List.map enc_api_Ratio l))))),(2,.x (.one (.ptr 102 0))),(5,.x (.one (.ptr 105 0))),(6,.x (.one (.p (pi i1)))),(8,.x (.one (.ptr 108 0)))],mkH [(102,.var [.p (pi (0:Int)),.p (pi (0:Int))]),(105,.var [.p (.val (.int .u64 common2)),.p (.val (.int .u64 common3))]),(108,.var [.p (.val (.int .u64 y11.Hi)),.p (.val (.int .u64 y11.Lo))])]⟩) (by kernel_rfl) (by kernel_rfl) (by kernel_rfl) rfl rfl rfl ?_
            replace H1:=bind_some H1
            obtain ⟨y13,h_14,H1⟩:=H1
            refine lok_rt (Env.of E0 [⟨some 58,90,[.one (.p (.val (.int .u64 common3))),.one (.p (.val (.int .u64 y11.Lo)))],[],[.agg [.p (.val (.int .u64 y13.Hi)),.p (.val (.int .u64 y13.Lo))]],[],True,fun _ => ok_ref01_Product common3 y11.Lo y13 h_14,[]⟩]) (⟨119,mkS [(0,.x (.one (.p (.sl 2 (List.map enc_api_Ratio l))))),(2,.x (.one (.ptr 102 0))),(5,.x (.one (.ptr 105 0))),(6,.x (.one (.p (pi i1))))],mkH [(102,.var [.p (pi (0:Int)),.p (pi (0:Int))]),(105,.var [.p (.val (.int .u64 y13.Hi)),.p (.val (.int .u64 y13.Lo))])]⟩) ?_
            refine lok_rt E0 (⟨119,mkS [(0,.x (.one (.p (.sl 2 (List.map enc_api_Ratio l))))),(2,.x (.one (.ptr 102 0))),(5,.x (.one (.ptr 105 0))),(6,.x (.one (.p (pi i1)))),(66,.x (.one (.p (.val (.bool ((decide ((0:Int) < y13.Hi)) || (decide ((1152921504606846976:Int) < y13.Lo))))))))],mkH [(102,.var [.p (pi (0:Int)),.p (pi (0:Int))]),(105,.var [.p (.val (.int .u64 y13.Hi)),.p (.val (.int .u64 y13.Lo))])]⟩) ?_
            refine lok_c ((decide ((0:Int) < y13.Hi)) || (decide ((1152921504606846976:Int) < y13.Lo))) ?_ ?_
            · intro b_15
              replace H1:=cpos H1 b_15
              refine lok_rt E0 (⟨119,mkS [(2,.x (.one (.ptr 102 0))),(3,.x (.one (.p (pi (6:Int)))))],mkH [(102,.var [.p (pi (0:Int)),.p (pi (0:Int))])]⟩) ?_
              refine lok_ret ?_
              try simp only [thenL,blockL,↓reduceIte,reduceCtorEq]
              have e_1:=k_1 _ (Option.some.inj H1).symm
              subst e_1
              try dsimp only at H0
              obtain rfl:=Option.some.inj H0
              try simp only [thenL,blockL]
              exact fin_au _ (.inr rfl) [] (⟨119,mkS [(2,.x (.one (.ptr 102 0))),(3,.x (.one (.p (pi (6:Int)))))],mkH [(102,.var [.p (pi (0:Int)),.p (pi (0:Int))])]⟩) rfl rfl imp_au
            · intro b_15
              replace H1:=cneg H1 b_15
              refine lok_skip ?_
              try simp only [thenL,blockL,↓reduceIte,reduceCtorEq]
              refine lok_rl E0 (⟨119,mkS [(0,.x (.one (.p (.sl 2 (List.map enc_api_Ratio l))))),(2,.x (.one (.ptr 102 0))),(5,.x (.one (.ptr 105 0))),(6,.x (.one (.p (pi (IntKind.i64.wrap (i1 + (1:Int)))))))],mkH [(102,.var [.p (pi (0:Int)),.p (pi (0:Int))]),(105,.var [.p (.val (.int .u64 y13.Hi)),.p (.val (.int .u64 y13.Lo))])]⟩) ?_
              try simp only [thenL,blockL,↓reduceIte,reduceCtorEq]
              exact ⟨((IntKind.i64.wrap (i1 + (1:Int))),y13.Hi,y13.Lo),(Option.some.inj H1).symm,imp_au⟩
          · intro b_17
            replace H1:=cneg H1 b_17
            refine lok_exit ?_
            try simp only [thenL,blockL,↓reduceIte,reduceCtorEq]
            have e_1:=k_1 _ (Option.some.inj H1).symm
            subst e_1
            try dsimp only at H0
            try simp only [thenL,blockL,↓reduceIte,reduceCtorEq]
            exact ⟨(common2,common3),H0,imp_au⟩
    case hxref01_Sum_j5 =>
      refine lok_rt E0 (⟨119,mkS [(0,.x (.one (.p (.sl 2 (List.map enc_api_Ratio l))))),(2,.x (.one (.ptr 102 0))),(4,.x (.one (.p (pi (0:Int)))))],mkH [(102,.var [.p (pi (0:Int)),.p (pi (0:Int))])]⟩) ?_
      refine lok_block ?_
      replace H0:=bind_some H0
      obtain ⟨v_18,hv_18,H0⟩:=H0
      refine lok_iter (fun x_ => ⟨119,mkS [(0,.x (.one (.p (.sl 2 (List.map enc_api_Ratio l))))),(2,.x (.one (.ptr 102 0))),(4,.x (.one (.p (pi x_))))],mkH [(102,.var [.p (pi (0:Int)),.p (pi (0:Int))])]⟩) hv_18 imp_au ?_
      · rintro i2 o_1 H1 k_1
        unfold ref01_Sum_l6 at H1
        try dsimp only at H1 ⊢
        refine lok_seq ?_
        refine lok_rt E0 (⟨119,mkS [(0,.x (.one (.p (.sl 2 (List.map enc_api_Ratio l))))),(2,.x (.one (.ptr 102 0))),(4,.x (.one (.p (pi i2)))),(22,.x (.one (.p (.val (.bool (decide (i2 < (l.length:Int))))))))],mkH [(102,.var [.p (pi (0:Int)),.p (pi (0:Int))])]⟩) ?_
        refine lok_c (decide (i2 < (l.length:Int))) ?_ ?_
        · intro b_22
          replace H1:=cpos H1 b_22
          refine lok_skip ?_
          try simp only [thenL,blockL,↓reduceIte,reduceCtorEq]
          refine lok_seq ?_
          refine lok_block ?_
          replace H1:=req_some H1
          obtain ⟨q_21,H1⟩:=H1
          replace H1:=bind_some H1
          obtain ⟨y14,h_19,H1⟩:=H1
          refine lok_rt (Env.of E0 [⟨some 29,60,[.agg [.p (pi ((ix l i2).Num)),.p (pi ((ix l i2).Den))]],[],[.one (.p (.val (.bool y14)))],[],True,fun _ => ok_ref01_Valid (ix l i2) y14 h_19,[]⟩]) (⟨119,mkS [(0,.x (.one (.p (.sl 2 (List.map enc_api_Ratio l))))),(2,.x (.one (.ptr 102 0))),(4,.x (.one (.p (pi i2)))),(30,.x (.one (.p (.val (.bool (!y14))))))],mkH [(102,.var [.p (pi (0:Int)),.p (pi (0:Int))])]⟩) ?_
          refine lok_c (!y14) ?_ ?_
          · intro b_20
            replace H1:=cpos H1 b_20
            refine lok_rt E0 (⟨119,mkS [(2,.x (.one (.ptr 102 0))),(3,.x (.one (.p (pi (1:Int)))))],mkH [(102,.var [.p (pi (0:Int)),.p (pi (0:Int))])]⟩) ?_
            refine lok_ret ?_
            try simp only [thenL,blockL,↓reduceIte,reduceCtorEq]
            have e_1:=k_1 _ (Option.some.inj H1).symm
            subst e_1
            try dsimp only at H0
            obtain rfl:=Option.some.inj H0
            try simp only [thenL,blockL]
            exact fin_au _ (.inr rfl) [] (⟨119,mkS [(2,.x (.one (.ptr 102 0))),(3,.x (.one (.p (pi (1:Int)))))],mkH [(102,.var [.p (pi (0:Int)),.p (pi (0:Int))])]⟩) rfl rfl imp_au
          · intro b_20
            replace H1:=cneg H1 b_20
            refine lok_skip ?_
            try simp only [thenL,blockL,↓reduceIte,reduceCtorEq]
            refine lok_rl E0 (⟨119,mkS [(0,.x (.one (.p (.sl 2 (List.map enc_api_Ratio l))))),(2,.x (.one (.ptr 102 0))),(4,.x (.one (.p (pi (IntKind.i64.wrap (i2 + (1:Int)))))))],mkH [(102,.var [.p (pi (0:Int)),.p (pi (0:Int))])]⟩) ?_
            try simp only [thenL,blockL,↓reduceIte,reduceCtorEq]
            exact ⟨(IntKind.i64.wrap (i2 + (1:Int))),(Option.some.inj H1).symm,imp_au⟩
        · intro b_22
          replace H1:=cneg H1 b_22
          refine lok_exit ?_
          try simp only [thenL,blockL,↓reduceIte,reduceCtorEq]
          have e_1:=k_1 _ (Option.some.inj H1).symm
          subst e_1
          try dsimp only at H0
          try simp only [thenL,blockL,↓reduceIte,reduceCtorEq]
          exact ⟨(),H0,imp_au⟩
theorem ok_ref36_mean (a : api_Award) (l : List api_UnitMark) (r_ : Int × api_Ratio × Int) (H0 : ref36_mean a l = some r_) : CallOK Try.prog 51 [.agg [.p (.sl 3 (List.map enc_api_Unit a.Units)),.p (.sl 1 (List.map encI a.Bounds)),.p (pi a.Max)],.one (.p (.sl 3 (List.map enc_api_UnitMark l)))] [] [.one (.p (pi r_.1)),.agg [.p (pi r_.2.1.Num),.p (pi r_.2.1.Den)],.one (.p (pi r_.2.2))] []:=by
  refine callOK (n:=81) (rs:=[.tmp 4,.cell 5 36,.tmp 6]) (nb:=0) (V:=[]) Try.func51 rfl (by kernel_rfl) rfl rfl rfl rfl (Nat.le_of_ble_eq_true rfl) (by decide) ?_
  unfold ref36_mean at H0
  refine lok_rt E0 (⟨81,mkS [(1,.x (.one (.p (.sl 3 (List.map enc_api_UnitMark l))))),(2,.x (.one (.ptr 102 0))),(5,.x (.one (.ptr 105 0)))],mkH [(102,.var [.p (.sl 3 (List.map enc_api_Unit a.Units)),.p (.sl 1 (List.map encI a.Bounds)),.p (pi a.Max)]),(105,.var [.p (pi (0:Int)),.p (pi (0:Int))])]⟩) ?_
  refine lok_rt E0 (⟨81,mkS [(1,.x (.one (.p (.sl 3 (List.map enc_api_UnitMark l))))),(2,.x (.one (.ptr 102 0))),(5,.x (.one (.ptr 105 0))),(7,.x (.one (.p (pi (0:Int)))))],mkH [(102,.var [.p (.sl 3 (List.map enc_api_Unit a.Units)),.p (.sl 1 (List.map encI a.Bounds)),.p (pi a.Max)]),(105,.var [.p (pi (0:Int)),.p (pi (0:Int))])]⟩) ?_
  refine lok_rt E0 (⟨81,mkS [(1,.x (.one (.p (.sl 3 (List.map enc_api_UnitMark l))))),(2,.x (.one (.ptr 102 0))),(5,.x (.one (.ptr 105 0))),(7,.x (.one (.p (pi (0:Int))))),(8,.x (.one (.vw 108)))],mkH [(102,.var [.p (.sl 3 (List.map enc_api_Unit a.Units)),.p (.sl 1 (List.map encI a.Bounds)),.p (pi a.Max)]),(105,.var [.p (pi (0:Int)),.p (pi (0:Int))]),(108,.arr 2 (List.map enc_api_Ratio ([] : List api_Ratio)))]⟩) ?_
  refine lok_join (fun x_ : Int × (List api_Ratio) => ref36_mean_j1 x_.1 x_.2 = some r_) (fun x_ => ⟨81,mkS [(5,.x (.one (.ptr 105 0))),(7,.x (.one (.p (pi x_.1)))),(8,.x (.one (.vw 108)))],mkH [(105,.var [.p (pi (0:Int)),.p (pi (0:Int))]),(108,.arr 2 (List.map enc_api_Ratio x_.2))]⟩) ?hyref36_mean_j1 ?hxref36_mean_j1
  case hyref36_mean_j1 =>
    rintro ⟨weight,parts⟩ H0
    try dsimp only at H0 ⊢
    unfold ref36_mean_j1 at H0
    refine lok_seq ?_
    refine lok_rt E0 (⟨81,mkS [(5,.x (.one (.ptr 105 0))),(7,.x (.one (.p (pi weight)))),(8,.x (.one (.vw 108))),(71,.x (.one (.p (.val (.bool (weight == (0:Int)))))))],mkH [(105,.var [.p (pi (0:Int)),.p (pi (0:Int))]),(108,.arr 2 (List.map enc_api_Ratio parts))]⟩) ?_
    refine lok_c (weight == (0:Int)) ?_ ?_
    · intro b_1
      replace H0:=cpos H0 b_1
      refine lok_rt E0 (⟨81,mkS [(4,.x (.one (.p (pi (0:Int))))),(5,.x (.one (.ptr 105 0))),(6,.x (.one (.p (pi (10:Int)))))],mkH [(105,.var [.p (pi (0:Int)),.p (pi (0:Int))])]⟩) ?_
      refine lok_ret ?_
      obtain rfl:=Option.some.inj H0
      try simp only [thenL,blockL]
      exact fin_au _ (.inr rfl) [] (⟨81,mkS [(4,.x (.one (.p (pi (0:Int))))),(5,.x (.one (.ptr 105 0))),(6,.x (.one (.p (pi (10:Int)))))],mkH [(105,.var [.p (pi (0:Int)),.p (pi (0:Int))])]⟩) rfl rfl imp_au
    · intro b_1
      replace H0:=cneg H0 b_1
      refine lok_skip ?_
      try simp only [thenL,blockL,↓reduceIte,reduceCtorEq]
      replace H0:=bind_some H0
      obtain ⟨⟨y,y1⟩,h_0,H0⟩:=H0
      try dsimp only at H0
      refine lok_rt (Env.of E0 [⟨some 75,87,[.one (.p (.sl 2 (List.map enc_api_Ratio parts)))],[],[.agg [.p (pi y.Num),.p (pi y.Den)],.one (.p (pi y1))],[],True,fun _ => ok_ref01_Sum parts (y,y1) h_0,[]⟩]) (⟨81,mkS [(5,.x (.one (.ptr 105 0))),(7,.x (.one (.p (pi weight)))),(14,.x (.one (.ptr 114 0))),(15,.x (.one (.p (pi y1))))],mkH [(105,.var [.p (pi (0:Int)),.p (pi (0:Int))]),(114,.var [.p (pi y.Num),.p (pi y.Den)])]⟩) ?_
      refine lok_et E0 81 [⟨[(7,.x (.one (.p (pi weight))))],[],[(78,.x (.one (.p (pi weight))))],[],none⟩,
      ⟨[(14,.x (.one (.ptr 114 0)))],[(114,some (.var [.p (pi y.Num),.p (pi y.Den)]))],[(79,.x (.agg [.p (pi y.Num),.p (pi y.Den)]))],[],none⟩,
      ⟨[(15,.x (.one (.p (pi y1))))],[],[(80,.x (.one (.p (pi y1))))],[],none⟩,
      ⟨[(78,.x (.one (.p (pi weight))))],[],[(4,.x (.one (.p (pi weight))))],[],none⟩,
      ⟨[(5,.x (.one (.ptr 105 0))),(79,.x (.agg [.p (pi y.Num),.p (pi y.Den)]))],[(105,some (.var [.p (pi (0:Int)),.p (pi (0:Int))]))],[],[(105,some (.var [.p (pi y.Num),.p (pi y.Den)]))],none⟩] (⟨81,mkS [(4,.x (.one (.p (pi weight)))),(5,.x (.one (.ptr 105 0))),(6,.x (.one (.p (pi y1))))],mkH [(105,.var [.p (pi y.Num),.p (pi y.Den)])]⟩) (by kernel_rfl) (by kernel_rfl) (by kernel_rfl) rfl rfl rfl ?_
      refine lok_ret ?_
      obtain rfl:=Option.some.inj H0
      try simp only [thenL,blockL]
      exact fin_au _ (.inr rfl) [] (⟨81,mkS [(4,.x (.one (.p (pi weight)))),(5,.x (.one (.ptr 105 0))),(6,.x (.one (.p (pi y1))))],mkH [(105,.var [.p (pi y.Num),.p (pi y.Den)])]⟩) rfl rfl imp_au
  case hxref36_mean_j1 =>
    refine lok_rt E0 (⟨81,mkS [(1,.x (.one (.p (.sl 3 (List.map enc_api_UnitMark l))))),(2,.x (.one (.ptr 102 0))),(5,.x (.one (.ptr 105 0))),(7,.x (.one (.p (pi (0:Int))))),(8,.x (.one (.vw 108))),(9,.x (.one (.p (pi (0:Int)))))],mkH [(102,.var [.p (.sl 3 (List.map enc_api_Unit a.Units)),.p (.sl 1 (List.map encI a.Bounds)),.p (pi a.Max)]),(105,.var [.p (pi (0:Int)),.p (pi (0:Int))]),(108,.arr 2 (List.map enc_api_Ratio ([] : List api_Ratio)))]⟩) ?_
    refine lok_block ?_
    replace H0:=bind_some H0
    obtain ⟨v_2,hv_2,H0⟩:=H0
    refine lok_iter (fun x_ => ⟨81,mkS [(1,.x (.one (.p (.sl 3 (List.map enc_api_UnitMark l))))),(2,.x (.one (.ptr 102 0))),(5,.x (.one (.ptr 105 0))),(7,.x (.one (.p (pi x_.1)))),(8,.x (.one (.vw 108))),(9,.x (.one (.p (pi x_.2.1))))],mkH [(102,.var [.p (.sl 3 (List.map enc_api_Unit a.Units)),.p (.sl 1 (List.map encI a.Bounds)),.p (pi a.Max)]),(105,.var [.p (pi (0:Int)),.p (pi (0:Int))]),(108,.arr 2 (List.map enc_api_Ratio x_.2.2))]⟩) hv_2 imp_au ?_
    · rintro ⟨weight1,i,parts1⟩ o_1 H1 k_1
      unfold ref36_mean_l3 at H1
      try dsimp only at H1 ⊢
      refine lok_seq ?_
      refine lok_rt E0 (⟨81,mkS [(1,.x (.one (.p (.sl 3 (List.map enc_api_UnitMark l))))),(2,.x (.one (.ptr 102 0))),(5,.x (.one (.ptr 105 0))),(7,.x (.one (.p (pi weight1)))),(8,.x (.one (.vw 108))),(9,.x (.one (.p (pi i)))),(19,.x (.one (.p (.val (.bool (decide (i < (l.length:Int))))))))],mkH [(102,.var [.p (.sl 3 (List.map enc_api_Unit a.Units)),.p (.sl 1 (List.map encI a.Bounds)),.p (pi a.Max)]),(105,.var [.p (pi (0:Int)),.p (pi (0:Int))]),(108,.arr 2 (List.map enc_api_Ratio parts1))]⟩) ?_
      refine lok_c (decide (i < (l.length:Int))) ?_ ?_
      · intro b_12
        replace H1:=cpos H1 b_12
        refine lok_skip ?_
        try simp only [thenL,blockL,↓reduceIte,reduceCtorEq]
        refine lok_join (fun x_ : Int × (List api_Ratio) => ref36_mean_j2 i x_.1 x_.2 = some o_1) (fun x_ => ⟨81,mkS [(1,.x (.one (.p (.sl 3 (List.map enc_api_UnitMark l))))),(2,.x (.one (.ptr 102 0))),(5,.x (.one (.ptr 105 0))),(7,.x (.one (.p (pi x_.1)))),(8,.x (.one (.vw 108))),(9,.x (.one (.p (pi i))))],mkH [(102,.var [.p (.sl 3 (List.map enc_api_Unit a.Units)),.p (.sl 1 (List.map encI a.Bounds)),.p (pi a.Max)]),(105,.var [.p (pi (0:Int)),.p (pi (0:Int))]),(108,.arr 2 (List.map enc_api_Ratio x_.2))]⟩) ?hyref36_mean_j2 ?hxref36_mean_j2
        case hyref36_mean_j2 =>
          rintro ⟨weight3,parts3⟩ H1
          try dsimp only at H1 ⊢
          unfold ref36_mean_j2 at H1
          refine lok_rl E0 (⟨81,mkS [(1,.x (.one (.p (.sl 3 (List.map enc_api_UnitMark l))))),(2,.x (.one (.ptr 102 0))),(5,.x (.one (.ptr 105 0))),(7,.x (.one (.p (pi weight3)))),(8,.x (.one (.vw 108))),(9,.x (.one (.p (pi (IntKind.i64.wrap (i + (1:Int)))))))],mkH [(102,.var [.p (.sl 3 (List.map enc_api_Unit a.Units)),.p (.sl 1 (List.map encI a.Bounds)),.p (pi a.Max)]),(105,.var [.p (pi (0:Int)),.p (pi (0:Int))]),(108,.arr 2 (List.map enc_api_Ratio parts3))]⟩) ?_
          try simp only [thenL,blockL,↓reduceIte,reduceCtorEq]
          exact ⟨(weight3,(IntKind.i64.wrap (i + (1:Int))),parts3),(Option.some.inj H1).symm,imp_au⟩
        case hxref36_mean_j2 =>
          refine lok_block ?_
          refine lok_seq ?_
          replace H1:=req_some H1
          obtain ⟨q_11,H1⟩:=H1
          refine lok_rt E0 (⟨81,mkS [(1,.x (.one (.p (.sl 3 (List.map enc_api_UnitMark l))))),(2,.x (.one (.ptr 102 0))),(5,.x (.one (.ptr 105 0))),(7,.x (.one (.p (pi weight1)))),(8,.x (.one (.vw 108))),(9,.x (.one (.p (pi i)))),(27,.x (.one (.p (.val (.bool ((ix l i).Kind == (2:Int)))))))],mkH [(102,.var [.p (.sl 3 (List.map enc_api_Unit a.Units)),.p (.sl 1 (List.map encI a.Bounds)),.p (pi a.Max)]),(105,.var [.p (pi (0:Int)),.p (pi (0:Int))]),(108,.arr 2 (List.map enc_api_Ratio parts1))]⟩) ?_
          refine lok_c ((ix l i).Kind == (2:Int)) ?_ ?_
          · intro b_10
            replace H1:=cpos H1 b_10
            refine lok_exit ?_
            try simp only [thenL,blockL,↓reduceIte,reduceCtorEq]
            exact ⟨(weight1,parts1),H1,imp_au⟩
          · intro b_10
            replace H1:=cneg H1 b_10
            refine lok_skip ?_
            try simp only [thenL,blockL,↓reduceIte,reduceCtorEq]
            replace H1:=req_some H1
            obtain ⟨q_9,H1⟩:=H1
            refine lok_rt E0 (⟨81,mkS [(1,.x (.one (.p (.sl 3 (List.map enc_api_UnitMark l))))),(2,.x (.one (.ptr 102 0))),(5,.x (.one (.ptr 105 0))),(7,.x (.one (.p (pi (IntKind.i64.wrap (weight1 + (ix a.Units i).Weight)))))),(8,.x (.one (.vw 108))),(9,.x (.one (.p (pi i))))],mkH [(102,.var [.p (.sl 3 (List.map enc_api_Unit a.Units)),.p (.sl 1 (List.map encI a.Bounds)),.p (pi a.Max)]),(105,.var [.p (pi (0:Int)),.p (pi (0:Int))]),(108,.arr 2 (List.map enc_api_Ratio parts1))]⟩) ?_
            replace H1:=req_some H1
            obtain ⟨q_8,H1⟩:=H1
            replace H1:=bind_some H1
            obtain ⟨⟨y2,y3⟩,h_3,H1⟩:=H1
            try dsimp only at H1
            refine lok_et (Env.of E0 [⟨some 49,52,[.one (.p (pi ((ix a.Units i).Weight))),.one (.p (pi ((ix a.Units i).Max)))],[],[.agg [.p (pi y2.Num),.p (pi y2.Den)],.one (.p (pi y3))],[],True,fun _ => ok_ref01_New ((ix a.Units i).Weight) ((ix a.Units i).Max) (y2,y3) h_3,[]⟩]) 81 [⟨[(2,.x (.one (.ptr 102 0)))],[],[(37,.x (.one (.ptr 102 0)))],[],none⟩,
      ⟨[(37,.x (.one (.ptr 102 0)))],[(102,some (.var [.p (.sl 3 (List.map enc_api_Unit a.Units)),.p (.sl 1 (List.map encI a.Bounds)),.p (pi a.Max)]))],[(38,.x (.one (.p (.sl 3 (List.map enc_api_Unit a.Units)))))],[],none⟩,
      ⟨[(9,.x (.one (.p (pi i))))],[],[(39,.x (.one (.p (pi i))))],[],none⟩,
      ⟨[(38,.x (.one (.p (.sl 3 (List.map enc_api_Unit a.Units))))),(39,.x (.one (.p (pi i))))],[],[(40,.x (.one (.ep [pi ((ix a.Units i).Paper),pi ((ix a.Units i).Weight),pi ((ix a.Units i).Max)])))],[],none⟩,
      ⟨[(40,.x (.one (.ep [pi ((ix a.Units i).Paper),pi ((ix a.Units i).Weight),pi ((ix a.Units i).Max)])))],[],[(41,.x (.one (.ep [pi ((ix a.Units i).Weight),pi ((ix a.Units i).Max)])))],[],none⟩,
      ⟨[(41,.x (.one (.ep [pi ((ix a.Units i).Weight),pi ((ix a.Units i).Max)])))],[],[(42,.x (.one (.p (pi ((ix a.Units i).Weight)))))],[],none⟩,
      ⟨[(2,.x (.one (.ptr 102 0)))],[],[(43,.x (.one (.ptr 102 0)))],[],none⟩,
      ⟨[(43,.x (.one (.ptr 102 0)))],[(102,some (.var [.p (.sl 3 (List.map enc_api_Unit a.Units)),.p (.sl 1 (List.map encI a.Bounds)),.p (pi a.Max)]))],[(44,.x (.one (.p (.sl 3 (List.map enc_api_Unit a.Units)))))],[],none⟩,
      ⟨[(9,.x (.one (.p (pi i))))],[],[(45,.x (.one (.p (pi i))))],[],none⟩,
      ⟨[(44,.x (.one (.p (.sl 3 (List.map enc_api_Unit a.Units))))),(45,.x (.one (.p (pi i))))],[],[(46,.x (.one (.ep [pi ((ix a.Units i).Paper),pi ((ix a.Units i).Weight),pi ((ix a.Units i).Max)])))],[],none⟩,
      ⟨[(46,.x (.one (.ep [pi ((ix a.Units i).Paper),pi ((ix a.Units i).Weight),pi ((ix a.Units i).Max)])))],[],[(47,.x (.one (.ep [pi ((ix a.Units i).Max)])))],[],none⟩,
      ⟨[(47,.x (.one (.ep [pi ((ix a.Units i).Max)])))],[],[(48,.x (.one (.p (pi ((ix a.Units i).Max)))))],[],none⟩,
      ⟨[(42,.x (.one (.p (pi ((ix a.Units i).Weight))))),(48,.x (.one (.p (pi ((ix a.Units i).Max)))))],[],[(49,.tup [.agg [.p (pi y2.Num),.p (pi y2.Den)],.one (.p (pi y3))])],[],none⟩,
      ⟨[(49,.tup [.agg [.p (pi y2.Num),.p (pi y2.Den)],.one (.p (pi y3))])],[],[(36,.tup [.agg [.p (pi y2.Num),.p (pi y2.Den)],.one (.p (pi y3))])],[],none⟩,
      ⟨[(36,.tup [.agg [.p (pi y2.Num),.p (pi y2.Den)],.one (.p (pi y3))])],[],[(50,.x (.agg [.p (pi y2.Num),.p (pi y2.Den)]))],[],none⟩,
      ⟨[(36,.tup [.agg [.p (pi y2.Num),.p (pi y2.Den)],.one (.p (pi y3))])],[],[(51,.x (.one (.p (pi y3))))],[],none⟩,
      ⟨[],[(110,none)],[(10,.x (.one (.ptr 110 0)))],[(110,some (.var [.p (pi (0:Int)),.p (pi (0:Int))]))],some 110⟩,
      ⟨[(10,.x (.one (.ptr 110 0))),(50,.x (.agg [.p (pi y2.Num),.p (pi y2.Den)]))],[(110,some (.var [.p (pi (0:Int)),.p (pi (0:Int))]))],[],[(110,some (.var [.p (pi y2.Num),.p (pi y2.Den)]))],none⟩] (⟨81,mkS [(1,.x (.one (.p (.sl 3 (List.map enc_api_UnitMark l))))),(2,.x (.one (.ptr 102 0))),(5,.x (.one (.ptr 105 0))),(7,.x (.one (.p (pi (IntKind.i64.wrap (weight1 + (ix a.Units i).Weight)))))),(8,.x (.one (.vw 108))),(9,.x (.one (.p (pi i)))),(10,.x (.one (.ptr 110 0)))],mkH [(102,.var [.p (.sl 3 (List.map enc_api_Unit a.Units)),.p (.sl 1 (List.map encI a.Bounds)),.p (pi a.Max)]),(105,.var [.p (pi (0:Int)),.p (pi (0:Int))]),(108,.arr 2 (List.map enc_api_Ratio parts1)),(110,.var [.p (pi y2.Num),.p (pi y2.Den)])]⟩) (by kernel_rfl) (by kernel_rfl) (by kernel_rfl) rfl rfl rfl ?_
            replace H1:=req_some H1
            obtain ⟨q_7,H1⟩:=H1
            replace H1:=bind_some H1
            obtain ⟨⟨y4,y5⟩,h_4,H1⟩:=H1
            try dsimp only at H1
            refine lok_et (Env.of E0 [⟨some 59,53,[.agg [.p (pi (((ix l i).Value).Num)),.p (pi (((ix l i).Value).Den))],.agg [.p (pi y2.Num),.p (pi y2.Den)]],[],[.agg [.p (pi y4.Num),.p (pi y4.Den)],.one (.p (pi y5))],[],True,fun _ => ok_ref01_Mul ((ix l i).Value) y2 (y4,y5) h_4,[]⟩]) 81 [⟨[(1,.x (.one (.p (.sl 3 (List.map enc_api_UnitMark l)))))],[],[(53,.x (.one (.p (.sl 3 (List.map enc_api_UnitMark l)))))],[],none⟩,
      ⟨[(9,.x (.one (.p (pi i))))],[],[(54,.x (.one (.p (pi i))))],[],none⟩,
      ⟨[(53,.x (.one (.p (.sl 3 (List.map enc_api_UnitMark l))))),(54,.x (.one (.p (pi i))))],[],[(55,.x (.one (.ep [pi ((ix l i).Kind),pi (((ix l i).Value).Num),pi (((ix l i).Value).Den)])))],[],none⟩,
      ⟨[(55,.x (.one (.ep [pi ((ix l i).Kind),pi (((ix l i).Value).Num),pi (((ix l i).Value).Den)])))],[],[(56,.x (.one (.ep [pi (((ix l i).Value).Num),pi (((ix l i).Value).Den)])))],[],none⟩,
      ⟨[(56,.x (.one (.ep [pi (((ix l i).Value).Num),pi (((ix l i).Value).Den)])))],[],[(57,.x (.agg [.p (pi (((ix l i).Value).Num)),.p (pi (((ix l i).Value).Den))]))],[],none⟩,
      ⟨[(10,.x (.one (.ptr 110 0)))],[(110,some (.var [.p (pi y2.Num),.p (pi y2.Den)]))],[(58,.x (.agg [.p (pi y2.Num),.p (pi y2.Den)]))],[],none⟩,
      ⟨[(57,.x (.agg [.p (pi (((ix l i).Value).Num)),.p (pi (((ix l i).Value).Den))])),(58,.x (.agg [.p (pi y2.Num),.p (pi y2.Den)]))],[],[(59,.tup [.agg [.p (pi y4.Num),.p (pi y4.Den)],.one (.p (pi y5))])],[],none⟩,
      ⟨[(59,.tup [.agg [.p (pi y4.Num),.p (pi y4.Den)],.one (.p (pi y5))])],[],[(52,.tup [.agg [.p (pi y4.Num),.p (pi y4.Den)],.one (.p (pi y5))])],[],none⟩,
      ⟨[(52,.tup [.agg [.p (pi y4.Num),.p (pi y4.Den)],.one (.p (pi y5))])],[],[(60,.x (.agg [.p (pi y4.Num),.p (pi y4.Den)]))],[],none⟩,
      ⟨[(52,.tup [.agg [.p (pi y4.Num),.p (pi y4.Den)],.one (.p (pi y5))])],[],[(61,.x (.one (.p (pi y5))))],[],none⟩,
      ⟨[],[(112,none)],[(12,.x (.one (.ptr 112 0)))],[(112,some (.var [.p (pi (0:Int)),.p (pi (0:Int))]))],some 112⟩,
      ⟨[(12,.x (.one (.ptr 112 0))),(60,.x (.agg [.p (pi y4.Num),.p (pi y4.Den)]))],[(112,some (.var [.p (pi (0:Int)),.p (pi (0:Int))]))],[],[(112,some (.var [.p (pi y4.Num),.p (pi y4.Den)]))],none⟩] (⟨81,mkS [(1,.x (.one (.p (.sl 3 (List.map enc_api_UnitMark l))))),(2,.x (.one (.ptr 102 0))),(5,.x (.one (.ptr 105 0))),(7,.x (.one (.p (pi (IntKind.i64.wrap (weight1 + (ix a.Units i).Weight)))))),(8,.x (.one (.vw 108))),(9,.x (.one (.p (pi i)))),(12,.x (.one (.ptr 112 0))),(13,.x (.one (.p (pi y5))))],mkH [(102,.var [.p (.sl 3 (List.map enc_api_Unit a.Units)),.p (.sl 1 (List.map encI a.Bounds)),.p (pi a.Max)]),(105,.var [.p (pi (0:Int)),.p (pi (0:Int))]),(108,.arr 2 (List.map enc_api_Ratio parts1)),(112,.var [.p (pi y4.Num),.p (pi y4.Den)])]⟩) (by kernel_rfl) (by kernel_rfl) (by kernel_rfl) rfl rfl rfl ?_
            refine lok_seq ?_
            refine lok_rt E0 (⟨81,mkS [(1,.x (.one (.p (.sl 3 (List.map enc_api_UnitMark l))))),(2,.x (.one (.ptr 102 0))),(5,.x (.one (.ptr 105 0))),(7,.x (.one (.p (pi (IntKind.i64.wrap (weight1 + (ix a.Units i).Weight)))))),(8,.x (.one (.vw 108))),(9,.x (.one (.p (pi i)))),(12,.x (.one (.ptr 112 0))),(13,.x (.one (.p (pi y5)))),(63,.x (.one (.p (.val (.bool (y5 != (0:Int)))))))],mkH [(102,.var [.p (.sl 3 (List.map enc_api_Unit a.Units)),.p (.sl 1 (List.map encI a.Bounds)),.p (pi a.Max)]),(105,.var [.p (pi (0:Int)),.p (pi (0:Int))]),(108,.arr 2 (List.map enc_api_Ratio parts1)),(112,.var [.p (pi y4.Num),.p (pi y4.Den)])]⟩) ?_
            refine lok_c (y5 != (0:Int)) ?_ ?_
            · intro b_6
              replace H1:=cpos H1 b_6
              refine lok_rt E0 (⟨81,mkS [(4,.x (.one (.p (pi (0:Int))))),(5,.x (.one (.ptr 105 0))),(6,.x (.one (.p (pi y5))))],mkH [(105,.var [.p (pi (0:Int)),.p (pi (0:Int))])]⟩) ?_
              refine lok_ret ?_
              try simp only [thenL,blockL,↓reduceIte,reduceCtorEq]
              have e_1:=k_1 _ (Option.some.inj H1).symm
              subst e_1
              try dsimp only at H0
              obtain rfl:=Option.some.inj H0
              try simp only [thenL,blockL]
              exact fin_au _ (.inr rfl) [] (⟨81,mkS [(4,.x (.one (.p (pi (0:Int))))),(5,.x (.one (.ptr 105 0))),(6,.x (.one (.p (pi y5))))],mkH [(105,.var [.p (pi (0:Int)),.p (pi (0:Int))])]⟩) rfl rfl imp_au
            · intro b_6
              replace H1:=cneg H1 b_6
              refine lok_skip ?_
              try simp only [thenL,blockL,↓reduceIte,reduceCtorEq]
              replace H1:=req_some H1
              obtain ⟨q_5,H1⟩:=H1
              refine lok_rl E0 (⟨81,mkS [(1,.x (.one (.p (.sl 3 (List.map enc_api_UnitMark l))))),(2,.x (.one (.ptr 102 0))),(5,.x (.one (.ptr 105 0))),(7,.x (.one (.p (pi (IntKind.i64.wrap (weight1 + (ix a.Units i).Weight)))))),(8,.x (.one (.vw 108))),(9,.x (.one (.p (pi i))))],mkH [(102,.var [.p (.sl 3 (List.map enc_api_Unit a.Units)),.p (.sl 1 (List.map encI a.Bounds)),.p (pi a.Max)]),(105,.var [.p (pi (0:Int)),.p (pi (0:Int))]),(108,.arr 2 (List.map enc_api_Ratio (parts1 ++ [y4])))]⟩) ?_
              try simp only [thenL,blockL,↓reduceIte,reduceCtorEq]
              exact ⟨((IntKind.i64.wrap (weight1 + (ix a.Units i).Weight)),(parts1 ++ [y4])),H1,imp_au⟩
      · intro b_12
        replace H1:=cneg H1 b_12
        refine lok_exit ?_
        try simp only [thenL,blockL,↓reduceIte,reduceCtorEq]
        have e_1:=k_1 _ (Option.some.inj H1).symm
        subst e_1
        try dsimp only at H0
        try simp only [thenL,blockL,↓reduceIte,reduceCtorEq]
        exact ⟨(weight1,parts1),H0,imp_au⟩
theorem ok_ref01_Add (a : api_Ratio) (b : api_Ratio) (r_ : api_Ratio × Int) (H0 : ref01_Add a b = some r_) : CallOK Try.prog 54 [.agg [.p (pi a.Num),.p (pi a.Den)],.agg [.p (pi b.Num),.p (pi b.Den)]] [] [.agg [.p (pi r_.1.Num),.p (pi r_.1.Den)],.one (.p (pi r_.2))] []:=by
  refine callOK (n:=53) (rs:=[.cell 4 36,.tmp 5]) (nb:=0) (V:=[]) Try.func54 rfl (by kernel_rfl) rfl rfl rfl rfl (Nat.le_of_ble_eq_true rfl) (by decide) ?_
  unfold ref01_Add at H0
  refine lok_rt E0 (⟨53,mkS [(2,.x (.one (.ptr 102 0))),(3,.x (.one (.ptr 103 0))),(4,.x (.one (.ptr 104 0)))],mkH [(102,.var [.p (pi a.Num),.p (pi a.Den)]),(103,.var [.p (pi b.Num),.p (pi b.Den)]),(104,.var [.p (pi (0:Int)),.p (pi (0:Int))])]⟩) ?_
  refine lok_seq ?_
  replace H0:=bind_some H0
  obtain ⟨y,h_0,H0⟩:=H0
  replace H0:=req_some H0
  obtain ⟨q_13,H0⟩:=H0
  refine lok_rt (Env.of E0 [⟨some 9,60,[.agg [.p (pi a.Num),.p (pi a.Den)]],[],[.one (.p (.val (.bool y)))],[],True,fun _ => ok_ref01_Valid a y h_0,[]⟩,
      ⟨some 13,60,[.agg [.p (pi b.Num),.p (pi b.Den)]],[],[.one (.p (.val (.bool ((ref01_Valid b).getD default))))],[],(ref01_Valid b).isSome = true,fun h => ok_ref01_Valid b _ (isSome_get h),[]⟩]) (⟨53,mkS [(2,.x (.one (.ptr 102 0))),(3,.x (.one (.ptr 103 0))),(4,.x (.one (.ptr 104 0))),(15,.x (.one (.p (.val (.bool ((!y) || (!((ref01_Valid b).getD default))))))))],mkH [(102,.var [.p (pi a.Num),.p (pi a.Den)]),(103,.var [.p (pi b.Num),.p (pi b.Den)]),(104,.var [.p (pi (0:Int)),.p (pi (0:Int))])]⟩) ?_
  refine lok_c ((!y) || (!((ref01_Valid b).getD default))) ?_ ?_
  · intro b_12
    replace H0:=cpos H0 b_12
    refine lok_rt E0 (⟨53,mkS [(4,.x (.one (.ptr 104 0))),(5,.x (.one (.p (pi (1:Int)))))],mkH [(104,.var [.p (pi (0:Int)),.p (pi (0:Int))])]⟩) ?_
    refine lok_ret ?_
    obtain rfl:=Option.some.inj H0
    try simp only [thenL,blockL]
    exact fin_au _ (.inr rfl) [] (⟨53,mkS [(4,.x (.one (.ptr 104 0))),(5,.x (.one (.p (pi (1:Int)))))],mkH [(104,.var [.p (pi (0:Int)),.p (pi (0:Int))])]⟩) rfl rfl imp_au
  · intro b_12
    replace H0:=cneg H0 b_12
    refine lok_skip ?_
    try simp only [thenL,blockL,↓reduceIte,reduceCtorEq]
    replace H0:=bind_some H0
    obtain ⟨y1,h_1,H0⟩:=H0
    replace H0:=bind_some H0
    obtain ⟨y2,h_2,H0⟩:=H0
    replace H0:=bind_some H0
    obtain ⟨y3,h_3,H0⟩:=H0
    replace H0:=bind_some H0
    obtain ⟨y4,h_4,H0⟩:=H0
    replace H0:=bind_some H0
    obtain ⟨y5,h_5,H0⟩:=H0
    replace H0:=bind_some H0
    obtain ⟨y6,h_6,H0⟩:=H0
    replace H0:=bind_some H0
    obtain ⟨⟨y7,y8⟩,h_7,H0⟩:=H0
    try dsimp only at H0
    refine lok_et (Env.of E0 [⟨some 23,89,[.one (.p (pi a.Num))],[],[.one (.p (.val (.int .u64 y1)))],[],True,fun _ => ok_ref01_Size a.Num y1 h_1,[]⟩,
      ⟨some 26,89,[.one (.p (pi b.Den))],[],[.one (.p (.val (.int .u64 y2)))],[],True,fun _ => ok_ref01_Size b.Den y2 h_2,[]⟩,
      ⟨some 27,90,[.one (.p (.val (.int .u64 y1))),.one (.p (.val (.int .u64 y2)))],[],[.agg [.p (.val (.int .u64 y3.Hi)),.p (.val (.int .u64 y3.Lo))]],[],True,fun _ => ok_ref01_Product y1 y2 y3 h_3,[]⟩,
      ⟨some 33,89,[.one (.p (pi b.Num))],[],[.one (.p (.val (.int .u64 y4)))],[],True,fun _ => ok_ref01_Size b.Num y4 h_4,[]⟩,
      ⟨some 36,89,[.one (.p (pi a.Den))],[],[.one (.p (.val (.int .u64 y5)))],[],True,fun _ => ok_ref01_Size a.Den y5 h_5,[]⟩,
      ⟨some 37,90,[.one (.p (.val (.int .u64 y4))),.one (.p (.val (.int .u64 y5)))],[],[.agg [.p (.val (.int .u64 y6.Hi)),.p (.val (.int .u64 y6.Lo))]],[],True,fun _ => ok_ref01_Product y4 y5 y6 h_6,[]⟩,
      ⟨some 38,91,[.one (.p (.val (.bool (decide (a.Num < (0:Int)))))),.agg [.p (.val (.int .u64 y3.Hi)),.p (.val (.int .u64 y3.Lo))],.one (.p (.val (.bool (decide (b.Num < (0:Int)))))),.agg [.p (.val (.int .u64 y6.Hi)),.p (.val (.int .u64 y6.Lo))]],[],[.one (.p (.val (.bool y7))),.agg [.p (.val (.int .u64 y8.Hi)),.p (.val (.int .u64 y8.Lo))]],[],True,fun _ => ok_ref01_total (decide (a.Num < (0:Int))) y3 (decide (b.Num < (0:Int))) y6 (y7,y8) h_7,[]⟩]) 53 [⟨[(2,.x (.one (.ptr 102 0)))],[],[(18,.x (.one (.ptr 102 0)))],[],none⟩,
      ⟨[(18,.x (.one (.ptr 102 0)))],[(102,some (.var [.p (pi a.Num),.p (pi a.Den)]))],[(19,.x (.one (.p (pi a.Num))))],[],none⟩,
      ⟨[(19,.x (.one (.p (pi a.Num))))],[],[(20,.x (.one (.p (.val (.bool (decide (a.Num < (0:Int))))))))],[],none⟩,
      ⟨[(2,.x (.one (.ptr 102 0)))],[],[(21,.x (.one (.ptr 102 0)))],[],none⟩,
      ⟨[(21,.x (.one (.ptr 102 0)))],[(102,some (.var [.p (pi a.Num),.p (pi a.Den)]))],[(22,.x (.one (.p (pi a.Num))))],[],none⟩,
      ⟨[(22,.x (.one (.p (pi a.Num))))],[],[(23,.x (.one (.p (.val (.int .u64 y1)))))],[],none⟩,
      ⟨[(3,.x (.one (.ptr 103 0)))],[],[(24,.x (.one (.ptr 103 1)))],[],none⟩,
      ⟨[(24,.x (.one (.ptr 103 1)))],[(103,some (.var [.p (pi b.Num),.p (pi b.Den)]))],[(25,.x (.one (.p (pi b.Den))))],[],none⟩,
      ⟨[(25,.x (.one (.p (pi b.Den))))],[],[(26,.x (.one (.p (.val (.int .u64 y2)))))],[],none⟩,
      ⟨[(23,.x (.one (.p (.val (.int .u64 y1))))),(26,.x (.one (.p (.val (.int .u64 y2)))))],[],[(27,.x (.agg [.p (.val (.int .u64 y3.Hi)),.p (.val (.int .u64 y3.Lo))]))],[],none⟩,
      ⟨[(3,.x (.one (.ptr 103 0)))],[],[(28,.x (.one (.ptr 103 0)))],[],none⟩,
      ⟨[(28,.x (.one (.ptr 103 0)))],[(103,some (.var [.p (pi b.Num),.p (pi b.Den)]))],[(29,.x (.one (.p (pi b.Num))))],[],none⟩,
      ⟨[(29,.x (.one (.p (pi b.Num))))],[],[(30,.x (.one (.p (.val (.bool (decide (b.Num < (0:Int))))))))],[],none⟩,
      ⟨[(3,.x (.one (.ptr 103 0)))],[],[(31,.x (.one (.ptr 103 0)))],[],none⟩,
      ⟨[(31,.x (.one (.ptr 103 0)))],[(103,some (.var [.p (pi b.Num),.p (pi b.Den)]))],[(32,.x (.one (.p (pi b.Num))))],[],none⟩,
      ⟨[(32,.x (.one (.p (pi b.Num))))],[],[(33,.x (.one (.p (.val (.int .u64 y4)))))],[],none⟩,
      ⟨[(2,.x (.one (.ptr 102 0)))],[],[(34,.x (.one (.ptr 102 1)))],[],none⟩,
      ⟨[(34,.x (.one (.ptr 102 1)))],[(102,some (.var [.p (pi a.Num),.p (pi a.Den)]))],[(35,.x (.one (.p (pi a.Den))))],[],none⟩,
      ⟨[(35,.x (.one (.p (pi a.Den))))],[],[(36,.x (.one (.p (.val (.int .u64 y5)))))],[],none⟩,
      ⟨[(33,.x (.one (.p (.val (.int .u64 y4))))),(36,.x (.one (.p (.val (.int .u64 y5)))))],[],[(37,.x (.agg [.p (.val (.int .u64 y6.Hi)),.p (.val (.int .u64 y6.Lo))]))],[],none⟩,
      ⟨[(20,.x (.one (.p (.val (.bool (decide (a.Num < (0:Int)))))))),(27,.x (.agg [.p (.val (.int .u64 y3.Hi)),.p (.val (.int .u64 y3.Lo))])),(30,.x (.one (.p (.val (.bool (decide (b.Num < (0:Int)))))))),(37,.x (.agg [.p (.val (.int .u64 y6.Hi)),.p (.val (.int .u64 y6.Lo))]))],[],[(38,.tup [.one (.p (.val (.bool y7))),.agg [.p (.val (.int .u64 y8.Hi)),.p (.val (.int .u64 y8.Lo))]])],[],none⟩,
      ⟨[(38,.tup [.one (.p (.val (.bool y7))),.agg [.p (.val (.int .u64 y8.Hi)),.p (.val (.int .u64 y8.Lo))]])],[],[(17,.tup [.one (.p (.val (.bool y7))),.agg [.p (.val (.int .u64 y8.Hi)),.p (.val (.int .u64 y8.Lo))]])],[],none⟩,
      ⟨[(17,.tup [.one (.p (.val (.bool y7))),.agg [.p (.val (.int .u64 y8.Hi)),.p (.val (.int .u64 y8.Lo))]])],[],[(39,.x (.one (.p (.val (.bool y7)))))],[],none⟩,
      ⟨[(17,.tup [.one (.p (.val (.bool y7))),.agg [.p (.val (.int .u64 y8.Hi)),.p (.val (.int .u64 y8.Lo))]])],[],[(40,.x (.agg [.p (.val (.int .u64 y8.Hi)),.p (.val (.int .u64 y8.Lo))]))],[],none⟩,
      ⟨[],[(107,none)],[(7,.x (.one (.ptr 107 0)))],[(107,some (.var [.p (.val (.int .u64 (0:Int))),.p (.val (.int .u64 (0:Int)))]))],some 107⟩,
      ⟨[(39,.x (.one (.p (.val (.bool y7)))))],[],[(6,.x (.one (.p (.val (.bool y7)))))],[],none⟩] (⟨53,mkS [(2,.x (.one (.ptr 102 0))),(3,.x (.one (.ptr 103 0))),(4,.x (.one (.ptr 104 0))),(6,.x (.one (.p (.val (.bool y7))))),(7,.x (.one (.ptr 107 0)))],mkH [(102,.var [.p (pi a.Num),.p (pi a.Den)]),(103,.var [.p (pi b.Num),.p (pi b.Den)]),(104,.var [.p (pi (0:Int)),.p (pi (0:Int))]),(107,.var [.p (.val (.int .u64 y8.Hi)),.p (.val (.int .u64 y8.Lo))])]⟩) (by kernel_rfl) (by kernel_rfl) (by kernel_rfl) rfl rfl rfl ?_
    replace H0:=bind_some H0
    obtain ⟨y9,h_8,H0⟩:=H0
    replace H0:=bind_some H0
    obtain ⟨y10,h_9,H0⟩:=H0
    replace H0:=bind_some H0
    obtain ⟨y11,h_10,H0⟩:=H0
    replace H0:=bind_some H0
    obtain ⟨⟨y12,y13⟩,h_11,H0⟩:=H0
    try dsimp only at H0
    refine lok_dt (Env.of E0 [⟨some 45,89,[.one (.p (pi a.Den))],[],[.one (.p (.val (.int .u64 y9)))],[],True,fun _ => ok_ref01_Size a.Den y9 h_8,[]⟩,
      ⟨some 48,89,[.one (.p (pi b.Den))],[],[.one (.p (.val (.int .u64 y10)))],[],True,fun _ => ok_ref01_Size b.Den y10 h_9,[]⟩,
      ⟨some 49,90,[.one (.p (.val (.int .u64 y9))),.one (.p (.val (.int .u64 y10)))],[],[.agg [.p (.val (.int .u64 y11.Hi)),.p (.val (.int .u64 y11.Lo))]],[],True,fun _ => ok_ref01_Product y9 y10 y11 h_10,[]⟩,
      ⟨some 50,88,[.one (.p (.val (.bool y7))),.agg [.p (.val (.int .u64 y8.Hi)),.p (.val (.int .u64 y8.Lo))],.agg [.p (.val (.int .u64 y11.Hi)),.p (.val (.int .u64 y11.Lo))]],[],[.agg [.p (pi y12.Num),.p (pi y12.Den)],.one (.p (pi y13))],[],True,fun _ => ok_ref01_Reduce y7 y8 y11 (y12,y13) h_11,[]⟩]) 12 (⟨53,mkS [(4,.x (.one (.ptr 104 0))),(5,.x (.one (.p (pi y13))))],mkH [(104,.var [.p (pi y12.Num),.p (pi y12.Den)])]⟩) (by kernel_rfl) (by kernel_rfl) ?_
    refine lok_ret ?_
    obtain rfl:=Option.some.inj H0
    try simp only [thenL,blockL]
    exact fin_au _ (.inr rfl) [] (⟨53,mkS [(4,.x (.one (.ptr 104 0))),(5,.x (.one (.p (pi y13))))],mkH [(104,.var [.p (pi y12.Num),.p (pi y12.Den)])]⟩) rfl rfl imp_au
theorem ok_ref36_Exact (a : api_Award) (l : List api_UnitMark) (special:Int) (r_ : api_Ratio × Int) (H0 : ref36_Exact a l special = some r_) : CallOK Try.prog 22 [.agg [.p (.sl 3 (List.map enc_api_Unit a.Units)),.p (.sl 1 (List.map encI a.Bounds)),.p (pi a.Max)],.one (.p (.sl 3 (List.map enc_api_UnitMark l))),.one (.p (pi special))] [] [.agg [.p (pi r_.1.Num),.p (pi r_.1.Den)],.one (.p (pi r_.2))] []:=by
  refine callOK (n:=100) (rs:=[.cell 6 36,.tmp 7]) (nb:=0) (V:=[]) Try.func22 rfl (by kernel_rfl) rfl rfl rfl rfl (Nat.le_of_ble_eq_true rfl) (by decide) ?_
  unfold ref36_Exact at H0
  refine lok_rt E0 (⟨100,mkS [(1,.x (.one (.p (.sl 3 (List.map enc_api_UnitMark l))))),(2,.x (.one (.p (pi special)))),(3,.x (.one (.ptr 103 0))),(6,.x (.one (.ptr 106 0)))],mkH [(103,.var [.p (.sl 3 (List.map enc_api_Unit a.Units)),.p (.sl 1 (List.map encI a.Bounds)),.p (pi a.Max)]),(106,.var [.p (pi (0:Int)),.p (pi (0:Int))])]⟩) ?_
  refine lok_seq ?_
  replace H0:=bind_some H0
  obtain ⟨y,h_0,H0⟩:=H0
  replace H0:=req_some H0
  obtain ⟨q_18,H0⟩:=H0
  refine lok_rt (Env.of E0 [⟨some 20,20,[.agg [.p (.sl 3 (List.map enc_api_Unit a.Units)),.p (.sl 1 (List.map encI a.Bounds)),.p (pi a.Max)]],[],[.one (.p (pi y))],[],True,fun _ => ok_ref36_Check a y h_0,[]⟩,
      ⟨some 25,50,[.agg [.p (.sl 3 (List.map enc_api_Unit a.Units)),.p (.sl 1 (List.map encI a.Bounds)),.p (pi a.Max)],.one (.p (.sl 3 (List.map enc_api_UnitMark l)))],[],[.one (.p (.val (.bool ((ref36_Fit a l).getD default))))],[],(ref36_Fit a l).isSome = true,fun h => ok_ref36_Fit a l _ (isSome_get h),[]⟩]) (⟨100,mkS [(1,.x (.one (.p (.sl 3 (List.map enc_api_UnitMark l))))),(2,.x (.one (.p (pi special)))),(3,.x (.one (.ptr 103 0))),(6,.x (.one (.ptr 106 0))),(27,.x (.one (.p (.val (.bool ((y != (0:Int)) || (!((ref36_Fit a l).getD default))))))))],mkH [(103,.var [.p (.sl 3 (List.map enc_api_Unit a.Units)),.p (.sl 1 (List.map encI a.Bounds)),.p (pi a.Max)]),(106,.var [.p (pi (0:Int)),.p (pi (0:Int))])]⟩) ?_
  refine lok_c ((y != (0:Int)) || (!((ref36_Fit a l).getD default))) ?_ ?_
  · intro b_17
    replace H0:=cpos H0 b_17
    refine lok_rt E0 (⟨100,mkS [(6,.x (.one (.ptr 106 0))),(7,.x (.one (.p (pi (1:Int)))))],mkH [(106,.var [.p (pi (0:Int)),.p (pi (0:Int))])]⟩) ?_
    refine lok_ret ?_
    obtain rfl:=Option.some.inj H0
    try simp only [thenL,blockL]
    exact fin_au _ (.inr rfl) [] (⟨100,mkS [(6,.x (.one (.ptr 106 0))),(7,.x (.one (.p (pi (1:Int)))))],mkH [(106,.var [.p (pi (0:Int)),.p (pi (0:Int))])]⟩) rfl rfl imp_au
  · intro b_17
    replace H0:=cneg H0 b_17
    refine lok_skip ?_
    try simp only [thenL,blockL,↓reduceIte,reduceCtorEq]
    refine lok_seq ?_
    replace H0:=bind_some H0
    obtain ⟨y1,h_1,H0⟩:=H0
    refine lok_rt (Env.of E0 [⟨some 30,42,[.one (.p (pi special)),.one (.p (pi (0:Int))),.one (.p (pi (50:Int)))],[],[.one (.p (.val (.bool y1)))],[],True,fun _ => ok_ref36_in special (0:Int) (50:Int) y1 h_1,[]⟩]) (⟨100,mkS [(1,.x (.one (.p (.sl 3 (List.map enc_api_UnitMark l))))),(2,.x (.one (.p (pi special)))),(3,.x (.one (.ptr 103 0))),(6,.x (.one (.ptr 106 0))),(31,.x (.one (.p (.val (.bool (!y1))))))],mkH [(103,.var [.p (.sl 3 (List.map enc_api_Unit a.Units)),.p (.sl 1 (List.map encI a.Bounds)),.p (pi a.Max)]),(106,.var [.p (pi (0:Int)),.p (pi (0:Int))])]⟩) ?_
    refine lok_c (!y1) ?_ ?_
    · intro b_16
      replace H0:=cpos H0 b_16
      refine lok_rt E0 (⟨100,mkS [(6,.x (.one (.ptr 106 0))),(7,.x (.one (.p (pi (2:Int)))))],mkH [(106,.var [.p (pi (0:Int)),.p (pi (0:Int))])]⟩) ?_
      refine lok_ret ?_
      obtain rfl:=Option.some.inj H0
      try simp only [thenL,blockL]
      exact fin_au _ (.inr rfl) [] (⟨100,mkS [(6,.x (.one (.ptr 106 0))),(7,.x (.one (.p (pi (2:Int)))))],mkH [(106,.var [.p (pi (0:Int)),.p (pi (0:Int))])]⟩) rfl rfl imp_au
    · intro b_16
      replace H0:=cneg H0 b_16
      refine lok_skip ?_
      try simp only [thenL,blockL,↓reduceIte,reduceCtorEq]
      refine lok_join (fun x_ : Unit => ref36_Exact_j1 a l special = some r_) (fun x_ => ⟨100,mkS [(1,.x (.one (.p (.sl 3 (List.map enc_api_UnitMark l))))),(2,.x (.one (.p (pi special)))),(3,.x (.one (.ptr 103 0))),(6,.x (.one (.ptr 106 0)))],mkH [(103,.var [.p (.sl 3 (List.map enc_api_Unit a.Units)),.p (.sl 1 (List.map encI a.Bounds)),.p (pi a.Max)]),(106,.var [.p (pi (0:Int)),.p (pi (0:Int))])]⟩) ?hyref36_Exact_j1 ?hxref36_Exact_j1
      case hyref36_Exact_j1 =>
        rintro _ H0
        try dsimp only at H0 ⊢
        unfold ref36_Exact_j1 at H0
        replace H0:=bind_some H0
        obtain ⟨⟨y2,y3,y4⟩,h_2,H0⟩:=H0
        try dsimp only at H0
        refine lok_rt (Env.of E0 [⟨some 49,51,[.agg [.p (.sl 3 (List.map enc_api_Unit a.Units)),.p (.sl 1 (List.map encI a.Bounds)),.p (pi a.Max)],.one (.p (.sl 3 (List.map enc_api_UnitMark l)))],[],[.one (.p (pi y2)),.agg [.p (pi y3.Num),.p (pi y3.Den)],.one (.p (pi y4))],[],True,fun _ => ok_ref36_mean a l (y2,y3,y4) h_2,[]⟩]) (⟨100,mkS [(2,.x (.one (.p (pi special)))),(3,.x (.one (.ptr 103 0))),(6,.x (.one (.ptr 106 0))),(9,.x (.one (.p (pi y2)))),(10,.x (.one (.ptr 110 0))),(11,.x (.one (.p (pi y4))))],mkH [(103,.var [.p (.sl 3 (List.map enc_api_Unit a.Units)),.p (.sl 1 (List.map encI a.Bounds)),.p (pi a.Max)]),(106,.var [.p (pi (0:Int)),.p (pi (0:Int))]),(110,.var [.p (pi y3.Num),.p (pi y3.Den)])]⟩) ?_
        refine lok_seq ?_
        refine lok_rt E0 (⟨100,mkS [(2,.x (.one (.p (pi special)))),(3,.x (.one (.ptr 103 0))),(6,.x (.one (.ptr 106 0))),(9,.x (.one (.p (pi y2)))),(10,.x (.one (.ptr 110 0))),(11,.x (.one (.p (pi y4)))),(54,.x (.one (.p (.val (.bool (y4 != (0:Int)))))))],mkH [(103,.var [.p (.sl 3 (List.map enc_api_Unit a.Units)),.p (.sl 1 (List.map encI a.Bounds)),.p (pi a.Max)]),(106,.var [.p (pi (0:Int)),.p (pi (0:Int))]),(110,.var [.p (pi y3.Num),.p (pi y3.Den)])]⟩) ?_
        refine lok_c (y4 != (0:Int)) ?_ ?_
        · intro b_11
          replace H0:=cpos H0 b_11
          refine lok_rt E0 (⟨100,mkS [(6,.x (.one (.ptr 106 0))),(7,.x (.one (.p (pi y4))))],mkH [(106,.var [.p (pi (0:Int)),.p (pi (0:Int))])]⟩) ?_
          refine lok_ret ?_
          obtain rfl:=Option.some.inj H0
          try simp only [thenL,blockL]
          exact fin_au _ (.inr rfl) [] (⟨100,mkS [(6,.x (.one (.ptr 106 0))),(7,.x (.one (.p (pi y4))))],mkH [(106,.var [.p (pi (0:Int)),.p (pi (0:Int))])]⟩) rfl rfl imp_au
        · intro b_11
          replace H0:=cneg H0 b_11
          refine lok_skip ?_
          try simp only [thenL,blockL,↓reduceIte,reduceCtorEq]
          replace H0:=bind_some H0
          obtain ⟨⟨y5,y6⟩,h_3,H0⟩:=H0
          try dsimp only at H0
          refine lok_rt (Env.of E0 [⟨some 61,52,[.one (.p (pi a.Max)),.one (.p (pi y2))],[],[.agg [.p (pi y5.Num),.p (pi y5.Den)],.one (.p (pi y6))],[],True,fun _ => ok_ref01_New a.Max y2 (y5,y6) h_3,[]⟩]) (⟨100,mkS [(2,.x (.one (.p (pi special)))),(3,.x (.one (.ptr 103 0))),(6,.x (.one (.ptr 106 0))),(10,.x (.one (.ptr 110 0))),(12,.x (.one (.ptr 112 0)))],mkH [(103,.var [.p (.sl 3 (List.map enc_api_Unit a.Units)),.p (.sl 1 (List.map encI a.Bounds)),.p (pi a.Max)]),(106,.var [.p (pi (0:Int)),.p (pi (0:Int))]),(110,.var [.p (pi y3.Num),.p (pi y3.Den)]),(112,.var [.p (pi y5.Num),.p (pi y5.Den)])]⟩) ?_
          replace H0:=bind_some H0
          obtain ⟨⟨y7,y8⟩,h_4,H0⟩:=H0
          try dsimp only at H0
          refine lok_rt (Env.of E0 [⟨some 67,53,[.agg [.p (pi y3.Num),.p (pi y3.Den)],.agg [.p (pi y5.Num),.p (pi y5.Den)]],[],[.agg [.p (pi y7.Num),.p (pi y7.Den)],.one (.p (pi y8))],[],True,fun _ => ok_ref01_Mul y3 y5 (y7,y8) h_4,[]⟩]) (⟨100,mkS [(2,.x (.one (.p (pi special)))),(3,.x (.one (.ptr 103 0))),(6,.x (.one (.ptr 106 0))),(11,.x (.one (.p (pi y8)))),(14,.x (.one (.ptr 114 0)))],mkH [(103,.var [.p (.sl 3 (List.map enc_api_Unit a.Units)),.p (.sl 1 (List.map encI a.Bounds)),.p (pi a.Max)]),(106,.var [.p (pi (0:Int)),.p (pi (0:Int))]),(114,.var [.p (pi y7.Num),.p (pi y7.Den)])]⟩) ?_
          refine lok_seq ?_
          refine lok_rt E0 (⟨100,mkS [(2,.x (.one (.p (pi special)))),(3,.x (.one (.ptr 103 0))),(6,.x (.one (.ptr 106 0))),(11,.x (.one (.p (pi y8)))),(14,.x (.one (.ptr 114 0))),(71,.x (.one (.p (.val (.bool (y8 != (0:Int)))))))],mkH [(103,.var [.p (.sl 3 (List.map enc_api_Unit a.Units)),.p (.sl 1 (List.map encI a.Bounds)),.p (pi a.Max)]),(106,.var [.p (pi (0:Int)),.p (pi (0:Int))]),(114,.var [.p (pi y7.Num),.p (pi y7.Den)])]⟩) ?_
          refine lok_c (y8 != (0:Int)) ?_ ?_
          · intro b_10
            replace H0:=cpos H0 b_10
            refine lok_rt E0 (⟨100,mkS [(6,.x (.one (.ptr 106 0))),(7,.x (.one (.p (pi y8))))],mkH [(106,.var [.p (pi (0:Int)),.p (pi (0:Int))])]⟩) ?_
            refine lok_ret ?_
            obtain rfl:=Option.some.inj H0
            try simp only [thenL,blockL]
            exact fin_au _ (.inr rfl) [] (⟨100,mkS [(6,.x (.one (.ptr 106 0))),(7,.x (.one (.p (pi y8))))],mkH [(106,.var [.p (pi (0:Int)),.p (pi (0:Int))])]⟩) rfl rfl imp_au
          · intro b_10
            replace H0:=cneg H0 b_10
            refine lok_skip ?_
            try simp only [thenL,blockL,↓reduceIte,reduceCtorEq]
            replace H0:=bind_some H0
            obtain ⟨⟨y9,y10⟩,h_5,H0⟩:=H0
            try dsimp only at H0
            refine lok_rt (Env.of E0 [⟨some 79,52,[.one (.p (pi (IntKind.i64.wrap (special * a.Max)))),.one (.p (pi (1000:Int)))],[],[.agg [.p (pi y9.Num),.p (pi y9.Den)],.one (.p (pi y10))],[],True,fun _ => ok_ref01_New (IntKind.i64.wrap (special * a.Max)) (1000:Int) (y9,y10) h_5,[]⟩]) (⟨100,mkS [(3,.x (.one (.ptr 103 0))),(6,.x (.one (.ptr 106 0))),(14,.x (.one (.ptr 114 0))),(15,.x (.one (.ptr 115 0)))],mkH [(103,.var [.p (.sl 3 (List.map enc_api_Unit a.Units)),.p (.sl 1 (List.map encI a.Bounds)),.p (pi a.Max)]),(106,.var [.p (pi (0:Int)),.p (pi (0:Int))]),(114,.var [.p (pi y7.Num),.p (pi y7.Den)]),(115,.var [.p (pi y9.Num),.p (pi y9.Den)])]⟩) ?_
            replace H0:=bind_some H0
            obtain ⟨⟨y11,y12⟩,h_6,H0⟩:=H0
            try dsimp only at H0
            refine lok_rt (Env.of E0 [⟨some 85,54,[.agg [.p (pi y7.Num),.p (pi y7.Den)],.agg [.p (pi y9.Num),.p (pi y9.Den)]],[],[.agg [.p (pi y11.Num),.p (pi y11.Den)],.one (.p (pi y12))],[],True,fun _ => ok_ref01_Add y7 y9 (y11,y12) h_6,[]⟩]) (⟨100,mkS [(3,.x (.one (.ptr 103 0))),(6,.x (.one (.ptr 106 0))),(11,.x (.one (.p (pi y12)))),(17,.x (.one (.ptr 117 0)))],mkH [(103,.var [.p (.sl 3 (List.map enc_api_Unit a.Units)),.p (.sl 1 (List.map encI a.Bounds)),.p (pi a.Max)]),(106,.var [.p (pi (0:Int)),.p (pi (0:Int))]),(117,.var [.p (pi y11.Num),.p (pi y11.Den)])]⟩) ?_
            refine lok_seq ?_
            refine lok_rt E0 (⟨100,mkS [(3,.x (.one (.ptr 103 0))),(6,.x (.one (.ptr 106 0))),(11,.x (.one (.p (pi y12)))),(17,.x (.one (.ptr 117 0))),(89,.x (.one (.p (.val (.bool (y12 != (0:Int)))))))],mkH [(103,.var [.p (.sl 3 (List.map enc_api_Unit a.Units)),.p (.sl 1 (List.map encI a.Bounds)),.p (pi a.Max)]),(106,.var [.p (pi (0:Int)),.p (pi (0:Int))]),(117,.var [.p (pi y11.Num),.p (pi y11.Den)])]⟩) ?_
            refine lok_c (y12 != (0:Int)) ?_ ?_
            · intro b_9
              replace H0:=cpos H0 b_9
              refine lok_rt E0 (⟨100,mkS [(6,.x (.one (.ptr 106 0))),(7,.x (.one (.p (pi y12))))],mkH [(106,.var [.p (pi (0:Int)),.p (pi (0:Int))])]⟩) ?_
              refine lok_ret ?_
              obtain rfl:=Option.some.inj H0
              try simp only [thenL,blockL]
              exact fin_au _ (.inr rfl) [] (⟨100,mkS [(6,.x (.one (.ptr 106 0))),(7,.x (.one (.p (pi y12))))],mkH [(106,.var [.p (pi (0:Int)),.p (pi (0:Int))])]⟩) rfl rfl imp_au
            · intro b_9
              replace H0:=cneg H0 b_9
              refine lok_skip ?_
              try simp only [thenL,blockL,↓reduceIte,reduceCtorEq]
              refine lok_seq ?_
              refine lok_rt E0 (⟨100,mkS [(6,.x (.one (.ptr 106 0))),(17,.x (.one (.ptr 117 0))),(18,.x (.one (.ptr 118 0)))],mkH [(106,.var [.p (pi (0:Int)),.p (pi (0:Int))]),(117,.var [.p (pi y11.Num),.p (pi y11.Den)]),(118,.var [.p (pi a.Max),.p (pi (1:Int))])]⟩) ?_
              replace H0:=bind_some H0
              obtain ⟨y13,h_7,H0⟩:=H0
              refine lok_rt (Env.of E0 [⟨some 97,55,[.agg [.p (pi a.Max),.p (pi (1:Int))],.agg [.p (pi y11.Num),.p (pi y11.Den)]],[],[.one (.p (.val (.bool y13)))],[],True,fun _ => ok_ref01_Less (api_Ratio.mk a.Max (1:Int)) y11 y13 h_7,[]⟩]) (⟨100,mkS [(6,.x (.one (.ptr 106 0))),(17,.x (.one (.ptr 117 0))),(18,.x (.one (.ptr 118 0))),(97,.x (.one (.p (.val (.bool y13)))))],mkH [(106,.var [.p (pi (0:Int)),.p (pi (0:Int))]),(117,.var [.p (pi y11.Num),.p (pi y11.Den)]),(118,.var [.p (pi a.Max),.p (pi (1:Int))])]⟩) ?_
              refine lok_c y13 ?_ ?_
              · intro b_8
                replace H0:=cpos H0 b_8
                refine lok_rt E0 (⟨100,mkS [(6,.x (.one (.ptr 106 0))),(7,.x (.one (.p (pi (0:Int)))))],mkH [(106,.var [.p (pi a.Max),.p (pi (1:Int))])]⟩) ?_
                refine lok_ret ?_
                obtain rfl:=Option.some.inj H0
                try simp only [thenL,blockL]
                exact fin_au _ (.inr rfl) [] (⟨100,mkS [(6,.x (.one (.ptr 106 0))),(7,.x (.one (.p (pi (0:Int)))))],mkH [(106,.var [.p (pi a.Max),.p (pi (1:Int))])]⟩) rfl rfl imp_au
              · intro b_8
                replace H0:=cneg H0 b_8
                refine lok_skip ?_
                try simp only [thenL,blockL,↓reduceIte,reduceCtorEq]
                refine lok_rt E0 (⟨100,mkS [(6,.x (.one (.ptr 106 0))),(7,.x (.one (.p (pi (0:Int)))))],mkH [(106,.var [.p (pi y11.Num),.p (pi y11.Den)])]⟩) ?_
                refine lok_ret ?_
                obtain rfl:=Option.some.inj H0
                try simp only [thenL,blockL]
                exact fin_au _ (.inr rfl) [] (⟨100,mkS [(6,.x (.one (.ptr 106 0))),(7,.x (.one (.p (pi (0:Int)))))],mkH [(106,.var [.p (pi y11.Num),.p (pi y11.Den)])]⟩) rfl rfl imp_au
      case hxref36_Exact_j1 =>
        refine lok_rt E0 (⟨100,mkS [(1,.x (.one (.p (.sl 3 (List.map enc_api_UnitMark l))))),(2,.x (.one (.p (pi special)))),(3,.x (.one (.ptr 103 0))),(6,.x (.one (.ptr 106 0))),(8,.x (.one (.p (pi (0:Int)))))],mkH [(103,.var [.p (.sl 3 (List.map enc_api_Unit a.Units)),.p (.sl 1 (List.map encI a.Bounds)),.p (pi a.Max)]),(106,.var [.p (pi (0:Int)),.p (pi (0:Int))])]⟩) ?_
        refine lok_block ?_
        replace H0:=bind_some H0
        obtain ⟨v_12,hv_12,H0⟩:=H0
        refine lok_iter (fun x_ => ⟨100,mkS [(1,.x (.one (.p (.sl 3 (List.map enc_api_UnitMark l))))),(2,.x (.one (.p (pi special)))),(3,.x (.one (.ptr 103 0))),(6,.x (.one (.ptr 106 0))),(8,.x (.one (.p (pi x_))))],mkH [(103,.var [.p (.sl 3 (List.map enc_api_Unit a.Units)),.p (.sl 1 (List.map encI a.Bounds)),.p (pi a.Max)]),(106,.var [.p (pi (0:Int)),.p (pi (0:Int))])]⟩) hv_12 imp_au ?_
        · rintro i o_1 H1 k_1
          unfold ref36_Exact_l2 at H1
          try dsimp only at H1 ⊢
          refine lok_seq ?_
          refine lok_rt E0 (⟨100,mkS [(1,.x (.one (.p (.sl 3 (List.map enc_api_UnitMark l))))),(2,.x (.one (.p (pi special)))),(3,.x (.one (.ptr 103 0))),(6,.x (.one (.ptr 106 0))),(8,.x (.one (.p (pi i)))),(36,.x (.one (.p (.val (.bool (decide (i < (l.length:Int))))))))],mkH [(103,.var [.p (.sl 3 (List.map enc_api_Unit a.Units)),.p (.sl 1 (List.map encI a.Bounds)),.p (pi a.Max)]),(106,.var [.p (pi (0:Int)),.p (pi (0:Int))])]⟩) ?_
          refine lok_c (decide (i < (l.length:Int))) ?_ ?_
          · intro b_15
            replace H1:=cpos H1 b_15
            refine lok_skip ?_
            try simp only [thenL,blockL,↓reduceIte,reduceCtorEq]
            refine lok_seq ?_
            refine lok_block ?_
            replace H1:=req_some H1
            obtain ⟨q_14,H1⟩:=H1
            refine lok_rt E0 (⟨100,mkS [(1,.x (.one (.p (.sl 3 (List.map enc_api_UnitMark l))))),(2,.x (.one (.p (pi special)))),(3,.x (.one (.ptr 103 0))),(6,.x (.one (.ptr 106 0))),(8,.x (.one (.p (pi i)))),(44,.x (.one (.p (.val (.bool ((ix l i).Kind == (3:Int)))))))],mkH [(103,.var [.p (.sl 3 (List.map enc_api_Unit a.Units)),.p (.sl 1 (List.map encI a.Bounds)),.p (pi a.Max)]),(106,.var [.p (pi (0:Int)),.p (pi (0:Int))])]⟩) ?_
            refine lok_c ((ix l i).Kind == (3:Int)) ?_ ?_
            · intro b_13
              replace H1:=cpos H1 b_13
              refine lok_rt E0 (⟨100,mkS [(6,.x (.one (.ptr 106 0))),(7,.x (.one (.p (pi (8:Int)))))],mkH [(106,.var [.p (pi (0:Int)),.p (pi (0:Int))])]⟩) ?_
              refine lok_ret ?_
              try simp only [thenL,blockL,↓reduceIte,reduceCtorEq]
              have e_1:=k_1 _ (Option.some.inj H1).symm
              subst e_1
              try dsimp only at H0
              obtain rfl:=Option.some.inj H0
              try simp only [thenL,blockL]
              exact fin_au _ (.inr rfl) [] (⟨100,mkS [(6,.x (.one (.ptr 106 0))),(7,.x (.one (.p (pi (8:Int)))))],mkH [(106,.var [.p (pi (0:Int)),.p (pi (0:Int))])]⟩) rfl rfl imp_au
            · intro b_13
              replace H1:=cneg H1 b_13
              refine lok_skip ?_
              try simp only [thenL,blockL,↓reduceIte,reduceCtorEq]
              refine lok_rl E0 (⟨100,mkS [(1,.x (.one (.p (.sl 3 (List.map enc_api_UnitMark l))))),(2,.x (.one (.p (pi special)))),(3,.x (.one (.ptr 103 0))),(6,.x (.one (.ptr 106 0))),(8,.x (.one (.p (pi (IntKind.i64.wrap (i + (1:Int)))))))],mkH [(103,.var [.p (.sl 3 (List.map enc_api_Unit a.Units)),.p (.sl 1 (List.map encI a.Bounds)),.p (pi a.Max)]),(106,.var [.p (pi (0:Int)),.p (pi (0:Int))])]⟩) ?_
              try simp only [thenL,blockL,↓reduceIte,reduceCtorEq]
              exact ⟨(IntKind.i64.wrap (i + (1:Int))),(Option.some.inj H1).symm,imp_au⟩
          · intro b_15
            replace H1:=cneg H1 b_15
            refine lok_exit ?_
            try simp only [thenL,blockL,↓reduceIte,reduceCtorEq]
            have e_1:=k_1 _ (Option.some.inj H1).symm
            subst e_1
            try dsimp only at H0
            try simp only [thenL,blockL,↓reduceIte,reduceCtorEq]
            exact ⟨(),H0,imp_au⟩
theorem ok_ref01_floor (n:Int) (d:Int) (r_:Int) (H0 : ref01_floor n d = some r_) : CallOK Try.prog 61 [.one (.p (pi n)),.one (.p (pi d))] [] [.one (.p (pi r_))] []:=by
  refine callOK (n:=16) (rs:=[.tmp 4]) (nb:=0) (V:=[]) Try.func61 rfl (by kernel_rfl) rfl rfl rfl rfl (Nat.le_of_ble_eq_true rfl) (by decide) ?_
  unfold ref01_floor at H0
  refine lok_rt E0 (⟨16,mkS [(0,.x (.one (.p (pi n)))),(1,.x (.one (.p (pi d))))],mkH []⟩) ?_
  replace H0:=req_some H0
  obtain ⟨q_2,H0⟩:=H0
  refine lok_rt E0 (⟨16,mkS [(0,.x (.one (.p (pi n)))),(1,.x (.one (.p (pi d)))),(5,.x (.one (.p (pi (IntKind.i64.wrap (Int.tdiv n d))))))],mkH []⟩) ?_
  refine lok_join (fun x_ : Int => ref01_floor_j1 x_ = some r_) (fun x_ => ⟨16,mkS [(5,.x (.one (.p (pi x_))))],mkH []⟩) ?hyref01_floor_j1 ?hxref01_floor_j1
  case hyref01_floor_j1 =>
    rintro q H0
    try dsimp only at H0 ⊢
    unfold ref01_floor_j1 at H0
    refine lok_rt E0 (⟨16,mkS [(4,.x (.one (.p (pi q))))],mkH []⟩) ?_
    refine lok_ret ?_
    obtain rfl:=Option.some.inj H0
    try simp only [thenL,blockL]
    exact fin_au _ (.inr rfl) [] (⟨16,mkS [(4,.x (.one (.p (pi q))))],mkH []⟩) rfl rfl imp_au
  case hxref01_floor_j1 =>
    replace H0:=req_some H0
    obtain ⟨q_1,H0⟩:=H0
    refine lok_rt E0 (⟨16,mkS [(5,.x (.one (.p (pi (IntKind.i64.wrap (Int.tdiv n d)))))),(12,.x (.one (.p (.val (.bool (decide ((Int.tmod n d) < (0:Int))))))))],mkH []⟩) ?_
    refine lok_c (decide ((Int.tmod n d) < (0:Int))) ?_ ?_
    · intro b_0
      replace H0:=cpos H0 b_0
      refine lok_rl E0 (⟨16,mkS [(5,.x (.one (.p (pi (IntKind.i64.wrap ((IntKind.i64.wrap (Int.tdiv n d)) - (1:Int)))))))],mkH []⟩) ?_
      try simp only [thenL,blockL,↓reduceIte,reduceCtorEq]
      exact ⟨(IntKind.i64.wrap ((IntKind.i64.wrap (Int.tdiv n d)) - (1:Int))),H0,imp_au⟩
    · intro b_0
      replace H0:=cneg H0 b_0
      refine lok_skip ?_
      try simp only [thenL,blockL,↓reduceIte,reduceCtorEq]
      exact ⟨(IntKind.i64.wrap (Int.tdiv n d)),H0,imp_au⟩
theorem ok_ref01_Round (a : api_Ratio) (r_:Int) (H0 : ref01_Round a = some r_) : CallOK Try.prog 57 [.agg [.p (pi a.Num),.p (pi a.Den)]] [] [.one (.p (pi r_))] []:=by
  refine callOK (n:=16) (rs:=[.tmp 2]) (nb:=0) (V:=[]) Try.func57 rfl (by kernel_rfl) rfl rfl rfl rfl (Nat.le_of_ble_eq_true rfl) (by decide) ?_
  unfold ref01_Round at H0
  refine lok_rt E0 (⟨16,mkS [(1,.x (.one (.ptr 101 0)))],mkH [(101,.var [.p (pi a.Num),.p (pi a.Den)])]⟩) ?_
  refine lok_seq ?_
  replace H0:=bind_some H0
  obtain ⟨y,h_0,H0⟩:=H0
  refine lok_rt (Env.of E0 [⟨some 4,60,[.agg [.p (pi a.Num),.p (pi a.Den)]],[],[.one (.p (.val (.bool y)))],[],True,fun _ => ok_ref01_Valid a y h_0,[]⟩]) (⟨16,mkS [(1,.x (.one (.ptr 101 0))),(5,.x (.one (.p (.val (.bool (!y))))))],mkH [(101,.var [.p (pi a.Num),.p (pi a.Den)])]⟩) ?_
  refine lok_c (!y) ?_ ?_
  · intro b_2
    replace H0:=cpos H0 b_2
    refine lok_rt E0 (⟨16,mkS [(2,.x (.one (.p (pi (0:Int)))))],mkH []⟩) ?_
    refine lok_ret ?_
    obtain rfl:=Option.some.inj H0
    try simp only [thenL,blockL]
    exact fin_au _ (.inr rfl) [] (⟨16,mkS [(2,.x (.one (.p (pi (0:Int)))))],mkH []⟩) rfl rfl imp_au
  · intro b_2
    replace H0:=cneg H0 b_2
    refine lok_skip ?_
    try simp only [thenL,blockL,↓reduceIte,reduceCtorEq]
    replace H0:=bind_some H0
    obtain ⟨y1,h_1,H0⟩:=H0
    refine lok_rt (Env.of E0 [⟨some 15,61,[.one (.p (pi (IntKind.i64.wrap ((IntKind.i64.wrap ((2:Int) * a.Num)) + a.Den)))),.one (.p (pi (IntKind.i64.wrap ((2:Int) * a.Den))))],[],[.one (.p (pi y1))],[],True,fun _ => ok_ref01_floor (IntKind.i64.wrap ((IntKind.i64.wrap ((2:Int) * a.Num)) + a.Den)) (IntKind.i64.wrap ((2:Int) * a.Den)) y1 h_1,[]⟩]) (⟨16,mkS [(2,.x (.one (.p (pi y1))))],mkH []⟩) ?_
    refine lok_ret ?_
    obtain rfl:=Option.some.inj H0
    try simp only [thenL,blockL]
    exact fin_au _ (.inr rfl) [] (⟨16,mkS [(2,.x (.one (.p (pi y1))))],mkH []⟩) rfl rfl imp_au
theorem ok_ref36_Total (a : api_Award) (l : List api_UnitMark) (special:Int) (r_ : Int × Int) (H0 : ref36_Total a l special = some r_) : CallOK Try.prog 24 [.agg [.p (.sl 3 (List.map enc_api_Unit a.Units)),.p (.sl 1 (List.map encI a.Bounds)),.p (pi a.Max)],.one (.p (.sl 3 (List.map enc_api_UnitMark l))),.one (.p (pi special))] [] [.one (.p (pi r_.1)),.one (.p (pi r_.2))] []:=by
  refine callOK (n:=22) (rs:=[.tmp 6,.tmp 7]) (nb:=0) (V:=[]) Try.func24 rfl (by kernel_rfl) rfl rfl rfl rfl (Nat.le_of_ble_eq_true rfl) (by decide) ?_
  unfold ref36_Total at H0
  refine lok_rt E0 (⟨22,mkS [(1,.x (.one (.p (.sl 3 (List.map enc_api_UnitMark l))))),(2,.x (.one (.p (pi special)))),(3,.x (.one (.ptr 103 0)))],mkH [(103,.var [.p (.sl 3 (List.map enc_api_Unit a.Units)),.p (.sl 1 (List.map encI a.Bounds)),.p (pi a.Max)])]⟩) ?_
  replace H0:=bind_some H0
  obtain ⟨⟨y,y1⟩,h_0,H0⟩:=H0
  try dsimp only at H0
  refine lok_rt (Env.of E0 [⟨some 14,22,[.agg [.p (.sl 3 (List.map enc_api_Unit a.Units)),.p (.sl 1 (List.map encI a.Bounds)),.p (pi a.Max)],.one (.p (.sl 3 (List.map enc_api_UnitMark l))),.one (.p (pi special))],[],[.agg [.p (pi y.Num),.p (pi y.Den)],.one (.p (pi y1))],[],True,fun _ => ok_ref36_Exact a l special (y,y1) h_0,[]⟩]) (⟨22,mkS [(8,.x (.one (.ptr 108 0))),(9,.x (.one (.p (pi y1))))],mkH [(108,.var [.p (pi y.Num),.p (pi y.Den)])]⟩) ?_
  refine lok_seq ?_
  refine lok_rt E0 (⟨22,mkS [(8,.x (.one (.ptr 108 0))),(9,.x (.one (.p (pi y1)))),(18,.x (.one (.p (.val (.bool (y1 != (0:Int)))))))],mkH [(108,.var [.p (pi y.Num),.p (pi y.Den)])]⟩) ?_
  refine lok_c (y1 != (0:Int)) ?_ ?_
  · intro b_2
    replace H0:=cpos H0 b_2
    refine lok_rt E0 (⟨22,mkS [(6,.x (.one (.p (pi (0:Int))))),(7,.x (.one (.p (pi y1))))],mkH []⟩) ?_
    refine lok_ret ?_
    obtain rfl:=Option.some.inj H0
    try simp only [thenL,blockL]
    exact fin_au _ (.inr rfl) [] (⟨22,mkS [(6,.x (.one (.p (pi (0:Int))))),(7,.x (.one (.p (pi y1))))],mkH []⟩) rfl rfl imp_au
  · intro b_2
    replace H0:=cneg H0 b_2
    refine lok_skip ?_
    try simp only [thenL,blockL,↓reduceIte,reduceCtorEq]
    replace H0:=bind_some H0
    obtain ⟨y2,h_1,H0⟩:=H0
    refine lok_rt (Env.of E0 [⟨some 21,57,[.agg [.p (pi y.Num),.p (pi y.Den)]],[],[.one (.p (pi y2))],[],True,fun _ => ok_ref01_Round y y2 h_1,[]⟩]) (⟨22,mkS [(6,.x (.one (.p (pi y2)))),(7,.x (.one (.p (pi (0:Int)))))],mkH []⟩) ?_
    refine lok_ret ?_
    obtain rfl:=Option.some.inj H0
    try simp only [thenL,blockL]
    exact fin_au _ (.inr rfl) [] (⟨22,mkS [(6,.x (.one (.p (pi y2)))),(7,.x (.one (.p (pi (0:Int)))))],mkH []⟩) rfl rfl imp_au
theorem ok_ref35_Grade (b : List Int) (mark:Int) (r_:Int) (H0 : ref35_Grade b mark = some r_) : CallOK Try.prog 59 [.one (.p (.sl 1 (List.map encI b))),.one (.p (pi mark))] [] [.one (.p (pi r_))] []:=by
  refine callOK (n:=21) (rs:=[.tmp 4]) (nb:=0) (V:=[]) Try.func59 rfl (by kernel_rfl) rfl rfl rfl rfl (Nat.le_of_ble_eq_true rfl) (by decide) ?_
  unfold ref35_Grade at H0
  refine lok_rt E0 (⟨21,mkS [(0,.x (.one (.p (.sl 1 (List.map encI b))))),(1,.x (.one (.p (pi mark))))],mkH []⟩) ?_
  refine lok_join (fun x_ : Unit => ref35_Grade_j1 b = some r_) (fun x_ => ⟨21,mkS [(0,.x (.one (.p (.sl 1 (List.map encI b)))))],mkH []⟩) ?hyref35_Grade_j1 ?hxref35_Grade_j1
  case hyref35_Grade_j1 =>
    rintro _ H0
    try dsimp only at H0 ⊢
    unfold ref35_Grade_j1 at H0
    refine lok_rt E0 (⟨21,mkS [(4,.x (.one (.p (pi (b.length:Int)))))],mkH []⟩) ?_
    refine lok_ret ?_
    obtain rfl:=Option.some.inj H0
    try simp only [thenL,blockL]
    exact fin_au _ (.inr rfl) [] (⟨21,mkS [(4,.x (.one (.p (pi (b.length:Int)))))],mkH []⟩) rfl rfl imp_au
  case hxref35_Grade_j1 =>
    refine lok_rt E0 (⟨21,mkS [(0,.x (.one (.p (.sl 1 (List.map encI b))))),(1,.x (.one (.p (pi mark)))),(5,.x (.one (.p (pi (0:Int)))))],mkH []⟩) ?_
    refine lok_block ?_
    replace H0:=bind_some H0
    obtain ⟨v_0,hv_0,H0⟩:=H0
    refine lok_iter (fun x_ => ⟨21,mkS [(0,.x (.one (.p (.sl 1 (List.map encI b))))),(1,.x (.one (.p (pi mark)))),(5,.x (.one (.p (pi x_))))],mkH []⟩) hv_0 imp_au ?_
    · rintro i o_1 H1 k_1
      unfold ref35_Grade_l2 at H1
      try dsimp only at H1 ⊢
      refine lok_seq ?_
      refine lok_rt E0 (⟨21,mkS [(0,.x (.one (.p (.sl 1 (List.map encI b))))),(1,.x (.one (.p (pi mark)))),(5,.x (.one (.p (pi i)))),(9,.x (.one (.p (.val (.bool (decide (i < (b.length:Int))))))))],mkH []⟩) ?_
      refine lok_c (decide (i < (b.length:Int))) ?_ ?_
      · intro b_3
        replace H1:=cpos H1 b_3
        refine lok_skip ?_
        try simp only [thenL,blockL,↓reduceIte,reduceCtorEq]
        refine lok_seq ?_
        refine lok_block ?_
        replace H1:=req_some H1
        obtain ⟨q_2,H1⟩:=H1
        refine lok_rt E0 (⟨21,mkS [(0,.x (.one (.p (.sl 1 (List.map encI b))))),(1,.x (.one (.p (pi mark)))),(5,.x (.one (.p (pi i)))),(17,.x (.one (.p (.val (.bool (decide ((ix b i) ≤ mark)))))))],mkH []⟩) ?_
        refine lok_c (decide ((ix b i) ≤ mark)) ?_ ?_
        · intro b_1
          replace H1:=cpos H1 b_1
          refine lok_rt E0 (⟨21,mkS [(4,.x (.one (.p (pi i))))],mkH []⟩) ?_
          refine lok_ret ?_
          try simp only [thenL,blockL,↓reduceIte,reduceCtorEq]
          have e_1:=k_1 _ (Option.some.inj H1).symm
          subst e_1
          try dsimp only at H0
          obtain rfl:=Option.some.inj H0
          try simp only [thenL,blockL]
          exact fin_au _ (.inr rfl) [] (⟨21,mkS [(4,.x (.one (.p (pi i))))],mkH []⟩) rfl rfl imp_au
        · intro b_1
          replace H1:=cneg H1 b_1
          refine lok_skip ?_
          try simp only [thenL,blockL,↓reduceIte,reduceCtorEq]
          refine lok_rl E0 (⟨21,mkS [(0,.x (.one (.p (.sl 1 (List.map encI b))))),(1,.x (.one (.p (pi mark)))),(5,.x (.one (.p (pi (IntKind.i64.wrap (i + (1:Int)))))))],mkH []⟩) ?_
          try simp only [thenL,blockL,↓reduceIte,reduceCtorEq]
          exact ⟨(IntKind.i64.wrap (i + (1:Int))),(Option.some.inj H1).symm,imp_au⟩
      · intro b_3
        replace H1:=cneg H1 b_3
        refine lok_exit ?_
        try simp only [thenL,blockL,↓reduceIte,reduceCtorEq]
        have e_1:=k_1 _ (Option.some.inj H1).symm
        subst e_1
        try dsimp only at H0
        try simp only [thenL,blockL,↓reduceIte,reduceCtorEq]
        exact ⟨(),H0,imp_au⟩
theorem ok_ref36_Decide (a : api_Award) (l : List api_UnitMark) (special:Int) (r_ : Int × Int × Int × Int) (H0 : ref36_Decide a l special = some r_) : CallOK Try.prog 26 [.agg [.p (.sl 3 (List.map enc_api_Unit a.Units)),.p (.sl 1 (List.map encI a.Bounds)),.p (pi a.Max)],.one (.p (.sl 3 (List.map enc_api_UnitMark l))),.one (.p (pi special))] [] [.one (.p (pi r_.1)),.one (.p (pi r_.2.1)),.one (.p (pi r_.2.2.1)),.one (.p (pi r_.2.2.2))] []:=by
  refine callOK (n:=64) (rs:=[.tmp 6,.tmp 7,.tmp 8,.tmp 9]) (nb:=0) (V:=[]) Try.func26 rfl (by kernel_rfl) rfl rfl rfl rfl (Nat.le_of_ble_eq_true rfl) (by decide) ?_
  unfold ref36_Decide at H0
  refine lok_rt E0 (⟨64,mkS [(1,.x (.one (.p (.sl 3 (List.map enc_api_UnitMark l))))),(2,.x (.one (.p (pi special)))),(3,.x (.one (.ptr 103 0)))],mkH [(103,.var [.p (.sl 3 (List.map enc_api_Unit a.Units)),.p (.sl 1 (List.map encI a.Bounds)),.p (pi a.Max)])]⟩) ?_
  refine lok_seq ?_
  replace H0:=bind_some H0
  obtain ⟨y,h_0,H0⟩:=H0
  replace H0:=req_some H0
  obtain ⟨q_13,H0⟩:=H0
  refine lok_rt (Env.of E0 [⟨some 15,20,[.agg [.p (.sl 3 (List.map enc_api_Unit a.Units)),.p (.sl 1 (List.map encI a.Bounds)),.p (pi a.Max)]],[],[.one (.p (pi y))],[],True,fun _ => ok_ref36_Check a y h_0,[]⟩,
      ⟨some 20,50,[.agg [.p (.sl 3 (List.map enc_api_Unit a.Units)),.p (.sl 1 (List.map encI a.Bounds)),.p (pi a.Max)],.one (.p (.sl 3 (List.map enc_api_UnitMark l)))],[],[.one (.p (.val (.bool ((ref36_Fit a l).getD default))))],[],(ref36_Fit a l).isSome = true,fun h => ok_ref36_Fit a l _ (isSome_get h),[]⟩]) (⟨64,mkS [(1,.x (.one (.p (.sl 3 (List.map enc_api_UnitMark l))))),(2,.x (.one (.p (pi special)))),(3,.x (.one (.ptr 103 0))),(22,.x (.one (.p (.val (.bool ((y != (0:Int)) || (!((ref36_Fit a l).getD default))))))))],mkH [(103,.var [.p (.sl 3 (List.map enc_api_Unit a.Units)),.p (.sl 1 (List.map encI a.Bounds)),.p (pi a.Max)])]⟩) ?_
  refine lok_c ((y != (0:Int)) || (!((ref36_Fit a l).getD default))) ?_ ?_
  · intro b_12
    replace H0:=cpos H0 b_12
    refine lok_rt E0 (⟨64,mkS [(6,.x (.one (.p (pi (0:Int))))),(7,.x (.one (.p (pi (0:Int))))),(8,.x (.one (.p (pi (0:Int))))),(9,.x (.one (.p (pi (1:Int)))))],mkH []⟩) ?_
    refine lok_ret ?_
    obtain rfl:=Option.some.inj H0
    try simp only [thenL,blockL]
    exact fin_au _ (.inr rfl) [] (⟨64,mkS [(6,.x (.one (.p (pi (0:Int))))),(7,.x (.one (.p (pi (0:Int))))),(8,.x (.one (.p (pi (0:Int))))),(9,.x (.one (.p (pi (1:Int)))))],mkH []⟩) rfl rfl imp_au
  · intro b_12
    replace H0:=cneg H0 b_12
    refine lok_skip ?_
    try simp only [thenL,blockL,↓reduceIte,reduceCtorEq]
    refine lok_seq ?_
    replace H0:=bind_some H0
    obtain ⟨y1,h_1,H0⟩:=H0
    refine lok_rt (Env.of E0 [⟨some 24,42,[.one (.p (pi special)),.one (.p (pi (0:Int))),.one (.p (pi (50:Int)))],[],[.one (.p (.val (.bool y1)))],[],True,fun _ => ok_ref36_in special (0:Int) (50:Int) y1 h_1,[]⟩]) (⟨64,mkS [(1,.x (.one (.p (.sl 3 (List.map enc_api_UnitMark l))))),(2,.x (.one (.p (pi special)))),(3,.x (.one (.ptr 103 0))),(25,.x (.one (.p (.val (.bool (!y1))))))],mkH [(103,.var [.p (.sl 3 (List.map enc_api_Unit a.Units)),.p (.sl 1 (List.map encI a.Bounds)),.p (pi a.Max)])]⟩) ?_
    refine lok_c (!y1) ?_ ?_
    · intro b_11
      replace H0:=cpos H0 b_11
      refine lok_rt E0 (⟨64,mkS [(6,.x (.one (.p (pi (0:Int))))),(7,.x (.one (.p (pi (0:Int))))),(8,.x (.one (.p (pi (0:Int))))),(9,.x (.one (.p (pi (2:Int)))))],mkH []⟩) ?_
      refine lok_ret ?_
      obtain rfl:=Option.some.inj H0
      try simp only [thenL,blockL]
      exact fin_au _ (.inr rfl) [] (⟨64,mkS [(6,.x (.one (.p (pi (0:Int))))),(7,.x (.one (.p (pi (0:Int))))),(8,.x (.one (.p (pi (0:Int))))),(9,.x (.one (.p (pi (2:Int)))))],mkH []⟩) rfl rfl imp_au
    · intro b_11
      replace H0:=cneg H0 b_11
      refine lok_skip ?_
      try simp only [thenL,blockL,↓reduceIte,reduceCtorEq]
      refine lok_rt E0 (⟨64,mkS [(1,.x (.one (.p (.sl 3 (List.map enc_api_UnitMark l))))),(2,.x (.one (.p (pi special)))),(3,.x (.one (.ptr 103 0))),(10,.x (.one (.p (.val (.bool false)))))],mkH [(103,.var [.p (.sl 3 (List.map enc_api_Unit a.Units)),.p (.sl 1 (List.map encI a.Bounds)),.p (pi a.Max)])]⟩) ?_
      refine lok_join (fun x_ : Bool => ref36_Decide_j1 a l special x_ = some r_) (fun x_ => ⟨64,mkS [(1,.x (.one (.p (.sl 3 (List.map enc_api_UnitMark l))))),(2,.x (.one (.p (pi special)))),(3,.x (.one (.ptr 103 0))),(10,.x (.one (.p (.val (.bool x_)))))],mkH [(103,.var [.p (.sl 3 (List.map enc_api_Unit a.Units)),.p (.sl 1 (List.map encI a.Bounds)),.p (pi a.Max)])]⟩) ?hyref36_Decide_j1 ?hxref36_Decide_j1
      case hyref36_Decide_j1 =>
        rintro there H0
        try dsimp only at H0 ⊢
        unfold ref36_Decide_j1 at H0
        refine lok_seq ?_
        refine lok_rt E0 (⟨64,mkS [(1,.x (.one (.p (.sl 3 (List.map enc_api_UnitMark l))))),(2,.x (.one (.p (pi special)))),(3,.x (.one (.ptr 103 0))),(48,.x (.one (.p (.val (.bool (!there))))))],mkH [(103,.var [.p (.sl 3 (List.map enc_api_Unit a.Units)),.p (.sl 1 (List.map encI a.Bounds)),.p (pi a.Max)])]⟩) ?_
        refine lok_c (!there) ?_ ?_
        · intro b_5
          replace H0:=cpos H0 b_5
          refine lok_rt E0 (⟨64,mkS [(6,.x (.one (.p (pi (1:Int))))),(7,.x (.one (.p (pi (0:Int))))),(8,.x (.one (.p (pi (0:Int))))),(9,.x (.one (.p (pi (0:Int)))))],mkH []⟩) ?_
          refine lok_ret ?_
          obtain rfl:=Option.some.inj H0
          try simp only [thenL,blockL]
          exact fin_au _ (.inr rfl) [] (⟨64,mkS [(6,.x (.one (.p (pi (1:Int))))),(7,.x (.one (.p (pi (0:Int))))),(8,.x (.one (.p (pi (0:Int))))),(9,.x (.one (.p (pi (0:Int)))))],mkH []⟩) rfl rfl imp_au
        · intro b_5
          replace H0:=cneg H0 b_5
          refine lok_skip ?_
          try simp only [thenL,blockL,↓reduceIte,reduceCtorEq]
          replace H0:=bind_some H0
          obtain ⟨⟨y2,y3⟩,h_2,H0⟩:=H0
          try dsimp only at H0
          refine lok_rt (Env.of E0 [⟨some 53,24,[.agg [.p (.sl 3 (List.map enc_api_Unit a.Units)),.p (.sl 1 (List.map encI a.Bounds)),.p (pi a.Max)],.one (.p (.sl 3 (List.map enc_api_UnitMark l))),.one (.p (pi special))],[],[.one (.p (pi y2)),.one (.p (pi y3))],[],True,fun _ => ok_ref36_Total a l special (y2,y3) h_2,[]⟩]) (⟨64,mkS [(3,.x (.one (.ptr 103 0))),(12,.x (.one (.p (pi y2)))),(13,.x (.one (.p (pi y3))))],mkH [(103,.var [.p (.sl 3 (List.map enc_api_Unit a.Units)),.p (.sl 1 (List.map encI a.Bounds)),.p (pi a.Max)])]⟩) ?_
          refine lok_seq ?_
          refine lok_rt E0 (⟨64,mkS [(3,.x (.one (.ptr 103 0))),(12,.x (.one (.p (pi y2)))),(13,.x (.one (.p (pi y3)))),(57,.x (.one (.p (.val (.bool (y3 != (0:Int)))))))],mkH [(103,.var [.p (.sl 3 (List.map enc_api_Unit a.Units)),.p (.sl 1 (List.map encI a.Bounds)),.p (pi a.Max)])]⟩) ?_
          refine lok_c (y3 != (0:Int)) ?_ ?_
          · intro b_4
            replace H0:=cpos H0 b_4
            refine lok_rt E0 (⟨64,mkS [(6,.x (.one (.p (pi (0:Int))))),(7,.x (.one (.p (pi (0:Int))))),(8,.x (.one (.p (pi (0:Int))))),(9,.x (.one (.p (pi y3))))],mkH []⟩) ?_
            refine lok_ret ?_
            obtain rfl:=Option.some.inj H0
            try simp only [thenL,blockL]
            exact fin_au _ (.inr rfl) [] (⟨64,mkS [(6,.x (.one (.p (pi (0:Int))))),(7,.x (.one (.p (pi (0:Int))))),(8,.x (.one (.p (pi (0:Int))))),(9,.x (.one (.p (pi y3))))],mkH []⟩) rfl rfl imp_au
          · intro b_4
            replace H0:=cneg H0 b_4
            refine lok_skip ?_
            try simp only [thenL,blockL,↓reduceIte,reduceCtorEq]
            replace H0:=bind_some H0
            obtain ⟨y4,h_3,H0⟩:=H0
            refine lok_rt (Env.of E0 [⟨some 62,59,[.one (.p (.sl 1 (List.map encI a.Bounds))),.one (.p (pi y2))],[],[.one (.p (pi y4))],[],True,fun _ => ok_ref35_Grade a.Bounds y2 y4 h_3,[]⟩]) (⟨64,mkS [(6,.x (.one (.p (pi (0:Int))))),(7,.x (.one (.p (pi y4)))),(8,.x (.one (.p (pi y2)))),(9,.x (.one (.p (pi (0:Int)))))],mkH []⟩) ?_
            refine lok_ret ?_
            obtain rfl:=Option.some.inj H0
            try simp only [thenL,blockL]
            exact fin_au _ (.inr rfl) [] (⟨64,mkS [(6,.x (.one (.p (pi (0:Int))))),(7,.x (.one (.p (pi y4)))),(8,.x (.one (.p (pi y2)))),(9,.x (.one (.p (pi (0:Int)))))],mkH []⟩) rfl rfl imp_au
      case hxref36_Decide_j1 =>
        refine lok_rt E0 (⟨64,mkS [(1,.x (.one (.p (.sl 3 (List.map enc_api_UnitMark l))))),(2,.x (.one (.p (pi special)))),(3,.x (.one (.ptr 103 0))),(10,.x (.one (.p (.val (.bool false))))),(11,.x (.one (.p (pi (0:Int)))))],mkH [(103,.var [.p (.sl 3 (List.map enc_api_Unit a.Units)),.p (.sl 1 (List.map encI a.Bounds)),.p (pi a.Max)])]⟩) ?_
        refine lok_block ?_
        replace H0:=bind_some H0
        obtain ⟨v_6,hv_6,H0⟩:=H0
        refine lok_iter (fun x_ => ⟨64,mkS [(1,.x (.one (.p (.sl 3 (List.map enc_api_UnitMark l))))),(2,.x (.one (.p (pi special)))),(3,.x (.one (.ptr 103 0))),(10,.x (.one (.p (.val (.bool x_.1))))),(11,.x (.one (.p (pi x_.2))))],mkH [(103,.var [.p (.sl 3 (List.map enc_api_Unit a.Units)),.p (.sl 1 (List.map encI a.Bounds)),.p (pi a.Max)])]⟩) hv_6 imp_au ?_
        · rintro ⟨there1,i⟩ o_1 H1 k_1
          unfold ref36_Decide_l2 at H1
          try dsimp only at H1 ⊢
          refine lok_seq ?_
          refine lok_rt E0 (⟨64,mkS [(1,.x (.one (.p (.sl 3 (List.map enc_api_UnitMark l))))),(2,.x (.one (.p (pi special)))),(3,.x (.one (.ptr 103 0))),(10,.x (.one (.p (.val (.bool there1))))),(11,.x (.one (.p (pi i)))),(29,.x (.one (.p (.val (.bool (decide (i < (l.length:Int))))))))],mkH [(103,.var [.p (.sl 3 (List.map enc_api_Unit a.Units)),.p (.sl 1 (List.map encI a.Bounds)),.p (pi a.Max)])]⟩) ?_
          refine lok_c (decide (i < (l.length:Int))) ?_ ?_
          · intro b_10
            replace H1:=cpos H1 b_10
            refine lok_skip ?_
            try simp only [thenL,blockL,↓reduceIte,reduceCtorEq]
            refine lok_seq ?_
            refine lok_block ?_
            refine lok_seq ?_
            replace H1:=req_some H1
            obtain ⟨q_9,H1⟩:=H1
            refine lok_rt E0 (⟨64,mkS [(1,.x (.one (.p (.sl 3 (List.map enc_api_UnitMark l))))),(2,.x (.one (.p (pi special)))),(3,.x (.one (.ptr 103 0))),(10,.x (.one (.p (.val (.bool there1))))),(11,.x (.one (.p (pi i)))),(37,.x (.one (.p (.val (.bool ((ix l i).Kind == (3:Int)))))))],mkH [(103,.var [.p (.sl 3 (List.map enc_api_Unit a.Units)),.p (.sl 1 (List.map encI a.Bounds)),.p (pi a.Max)])]⟩) ?_
            refine lok_c ((ix l i).Kind == (3:Int)) ?_ ?_
            · intro b_8
              replace H1:=cpos H1 b_8
              refine lok_rt E0 (⟨64,mkS [(6,.x (.one (.p (pi (2:Int))))),(7,.x (.one (.p (pi (0:Int))))),(8,.x (.one (.p (pi (0:Int))))),(9,.x (.one (.p (pi (0:Int)))))],mkH []⟩) ?_
              refine lok_ret ?_
              try simp only [thenL,blockL,↓reduceIte,reduceCtorEq]
              have e_1:=k_1 _ (Option.some.inj H1).symm
              subst e_1
              try dsimp only at H0
              obtain rfl:=Option.some.inj H0
              try simp only [thenL,blockL]
              exact fin_au _ (.inr rfl) [] (⟨64,mkS [(6,.x (.one (.p (pi (2:Int))))),(7,.x (.one (.p (pi (0:Int))))),(8,.x (.one (.p (pi (0:Int))))),(9,.x (.one (.p (pi (0:Int)))))],mkH []⟩) rfl rfl imp_au
            · intro b_8
              replace H1:=cneg H1 b_8
              refine lok_skip ?_
              try simp only [thenL,blockL,↓reduceIte,reduceCtorEq]
              replace H1:=req_some H1
              obtain ⟨q_7,H1⟩:=H1
              refine lok_rl E0 (⟨64,mkS [(1,.x (.one (.p (.sl 3 (List.map enc_api_UnitMark l))))),(2,.x (.one (.p (pi special)))),(3,.x (.one (.ptr 103 0))),(10,.x (.one (.p (.val (.bool (there1 || ((ix l i).Kind == (0:Int)))))))),(11,.x (.one (.p (pi i))))],mkH [(103,.var [.p (.sl 3 (List.map enc_api_Unit a.Units)),.p (.sl 1 (List.map encI a.Bounds)),.p (pi a.Max)])]⟩) ?_
              try simp only [thenL,blockL,↓reduceIte,reduceCtorEq]
              refine lok_rl E0 (⟨64,mkS [(1,.x (.one (.p (.sl 3 (List.map enc_api_UnitMark l))))),(2,.x (.one (.p (pi special)))),(3,.x (.one (.ptr 103 0))),(10,.x (.one (.p (.val (.bool (there1 || ((ix l i).Kind == (0:Int)))))))),(11,.x (.one (.p (pi (IntKind.i64.wrap (i + (1:Int)))))))],mkH [(103,.var [.p (.sl 3 (List.map enc_api_Unit a.Units)),.p (.sl 1 (List.map encI a.Bounds)),.p (pi a.Max)])]⟩) ?_
              try simp only [thenL,blockL,↓reduceIte,reduceCtorEq]
              exact ⟨((there1 || ((ix l i).Kind == (0:Int))),(IntKind.i64.wrap (i + (1:Int)))),(Option.some.inj H1).symm,imp_au⟩
          · intro b_10
            replace H1:=cneg H1 b_10
            refine lok_exit ?_
            try simp only [thenL,blockL,↓reduceIte,reduceCtorEq]
            have e_1:=k_1 _ (Option.some.inj H1).symm
            subst e_1
            try dsimp only at H0
            try simp only [thenL,blockL,↓reduceIte,reduceCtorEq]
            exact ⟨there1,H0,imp_au⟩
theorem ok_ref36_Estimate (a : api_Award) (l : List api_UnitMark) (unit:Int) (r_ : api_Ratio × Int) (H0 : ref36_Estimate a l unit = some r_) : CallOK Try.prog 28 [.agg [.p (.sl 3 (List.map enc_api_Unit a.Units)),.p (.sl 1 (List.map encI a.Bounds)),.p (pi a.Max)],.one (.p (.sl 3 (List.map enc_api_UnitMark l))),.one (.p (pi unit))] [] [.agg [.p (pi r_.1.Num),.p (pi r_.1.Den)],.one (.p (pi r_.2))] []:=by
  refine callOK (n:=58) (rs:=[.cell 6 36,.tmp 7]) (nb:=0) (V:=[]) Try.func28 rfl (by kernel_rfl) rfl rfl rfl rfl (Nat.le_of_ble_eq_true rfl) (by decide) ?_
  unfold ref36_Estimate at H0
  refine lok_rt E0 (⟨58,mkS [(1,.x (.one (.p (.sl 3 (List.map enc_api_UnitMark l))))),(2,.x (.one (.p (pi unit)))),(3,.x (.one (.ptr 103 0))),(6,.x (.one (.ptr 106 0)))],mkH [(103,.var [.p (.sl 3 (List.map enc_api_Unit a.Units)),.p (.sl 1 (List.map encI a.Bounds)),.p (pi a.Max)]),(106,.var [.p (pi (0:Int)),.p (pi (0:Int))])]⟩) ?_
  refine lok_seq ?_
  refine lok_rt E0 (⟨58,mkS [(1,.x (.one (.p (.sl 3 (List.map enc_api_UnitMark l))))),(2,.x (.one (.p (pi unit)))),(3,.x (.one (.ptr 103 0))),(6,.x (.one (.ptr 106 0))),(23,.x (.one (.p (.val (.bool ((decide (unit < (0:Int))) || (decide ((a.Units.length:Int) ≤ unit))))))))],mkH [(103,.var [.p (.sl 3 (List.map enc_api_Unit a.Units)),.p (.sl 1 (List.map encI a.Bounds)),.p (pi a.Max)]),(106,.var [.p (pi (0:Int)),.p (pi (0:Int))])]⟩) ?_
  refine lok_c ((decide (unit < (0:Int))) || (decide ((a.Units.length:Int) ≤ unit))) ?_ ?_
  · intro b_6
    replace H0:=cpos H0 b_6
    refine lok_rt E0 (⟨58,mkS [(6,.x (.one (.ptr 106 0))),(7,.x (.one (.p (pi (4:Int)))))],mkH [(106,.var [.p (pi (0:Int)),.p (pi (0:Int))])]⟩) ?_
    refine lok_ret ?_
    obtain rfl:=Option.some.inj H0
    try simp only [thenL,blockL]
    exact fin_au _ (.inr rfl) [] (⟨58,mkS [(6,.x (.one (.ptr 106 0))),(7,.x (.one (.p (pi (4:Int)))))],mkH [(106,.var [.p (pi (0:Int)),.p (pi (0:Int))])]⟩) rfl rfl imp_au
  · intro b_6
    replace H0:=cneg H0 b_6
    refine lok_skip ?_
    try simp only [thenL,blockL,↓reduceIte,reduceCtorEq]
    refine lok_seq ?_
    replace H0:=bind_some H0
    obtain ⟨⟨y,y1⟩,h_0,H0⟩:=H0
    try dsimp only at H0
    refine lok_rt (Env.of E0 [⟨some 28,22,[.agg [.p (.sl 3 (List.map enc_api_Unit a.Units)),.p (.sl 1 (List.map encI a.Bounds)),.p (pi a.Max)],.one (.p (.sl 3 (List.map enc_api_UnitMark l))),.one (.p (pi (0:Int)))],[],[.agg [.p (pi y.Num),.p (pi y.Den)],.one (.p (pi y1))],[],True,fun _ => ok_ref36_Exact a l (0:Int) (y,y1) h_0,[]⟩]) (⟨58,mkS [(1,.x (.one (.p (.sl 3 (List.map enc_api_UnitMark l))))),(2,.x (.one (.p (pi unit)))),(3,.x (.one (.ptr 103 0))),(6,.x (.one (.ptr 106 0))),(9,.x (.one (.p (pi y1))))],mkH [(103,.var [.p (.sl 3 (List.map enc_api_Unit a.Units)),.p (.sl 1 (List.map encI a.Bounds)),.p (pi a.Max)]),(106,.var [.p (pi (0:Int)),.p (pi (0:Int))])]⟩) ?_
    refine lok_rt E0 (⟨58,mkS [(1,.x (.one (.p (.sl 3 (List.map enc_api_UnitMark l))))),(2,.x (.one (.p (pi unit)))),(3,.x (.one (.ptr 103 0))),(6,.x (.one (.ptr 106 0))),(9,.x (.one (.p (pi y1)))),(32,.x (.one (.p (.val (.bool (y1 != (0:Int)))))))],mkH [(103,.var [.p (.sl 3 (List.map enc_api_Unit a.Units)),.p (.sl 1 (List.map encI a.Bounds)),.p (pi a.Max)]),(106,.var [.p (pi (0:Int)),.p (pi (0:Int))])]⟩) ?_
    refine lok_c (y1 != (0:Int)) ?_ ?_
    · intro b_5
      replace H0:=cpos H0 b_5
      refine lok_rt E0 (⟨58,mkS [(6,.x (.one (.ptr 106 0))),(7,.x (.one (.p (pi y1))))],mkH [(106,.var [.p (pi (0:Int)),.p (pi (0:Int))])]⟩) ?_
      refine lok_ret ?_
      obtain rfl:=Option.some.inj H0
      try simp only [thenL,blockL]
      exact fin_au _ (.inr rfl) [] (⟨58,mkS [(6,.x (.one (.ptr 106 0))),(7,.x (.one (.p (pi y1))))],mkH [(106,.var [.p (pi (0:Int)),.p (pi (0:Int))])]⟩) rfl rfl imp_au
    · intro b_5
      replace H0:=cneg H0 b_5
      refine lok_skip ?_
      try simp only [thenL,blockL,↓reduceIte,reduceCtorEq]
      replace H0:=bind_some H0
      obtain ⟨⟨y2,y3,y4⟩,h_1,H0⟩:=H0
      try dsimp only at H0
      refine lok_rt (Env.of E0 [⟨some 38,51,[.agg [.p (.sl 3 (List.map enc_api_Unit a.Units)),.p (.sl 1 (List.map encI a.Bounds)),.p (pi a.Max)],.one (.p (.sl 3 (List.map enc_api_UnitMark l)))],[],[.one (.p (pi y2)),.agg [.p (pi y3.Num),.p (pi y3.Den)],.one (.p (pi y4))],[],True,fun _ => ok_ref36_mean a l (y2,y3,y4) h_1,[]⟩]) (⟨58,mkS [(2,.x (.one (.p (pi unit)))),(3,.x (.one (.ptr 103 0))),(6,.x (.one (.ptr 106 0))),(10,.x (.one (.p (pi y2)))),(11,.x (.one (.ptr 111 0)))],mkH [(103,.var [.p (.sl 3 (List.map enc_api_Unit a.Units)),.p (.sl 1 (List.map encI a.Bounds)),.p (pi a.Max)]),(106,.var [.p (pi (0:Int)),.p (pi (0:Int))]),(111,.var [.p (pi y3.Num),.p (pi y3.Den)])]⟩) ?_
      replace H0:=req_some H0
      obtain ⟨q_4,H0⟩:=H0
      replace H0:=bind_some H0
      obtain ⟨⟨y5,y6⟩,h_2,H0⟩:=H0
      try dsimp only at H0
      refine lok_rt (Env.of E0 [⟨some 50,52,[.one (.p (pi ((ix a.Units unit).Max))),.one (.p (pi y2))],[],[.agg [.p (pi y5.Num),.p (pi y5.Den)],.one (.p (pi y6))],[],True,fun _ => ok_ref01_New ((ix a.Units unit).Max) y2 (y5,y6) h_2,[]⟩]) (⟨58,mkS [(6,.x (.one (.ptr 106 0))),(11,.x (.one (.ptr 111 0))),(13,.x (.one (.ptr 113 0)))],mkH [(106,.var [.p (pi (0:Int)),.p (pi (0:Int))]),(111,.var [.p (pi y3.Num),.p (pi y3.Den)]),(113,.var [.p (pi y5.Num),.p (pi y5.Den)])]⟩) ?_
      replace H0:=bind_some H0
      obtain ⟨⟨y7,y8⟩,h_3,H0⟩:=H0
      try dsimp only at H0
      refine lok_rt (Env.of E0 [⟨some 55,53,[.agg [.p (pi y3.Num),.p (pi y3.Den)],.agg [.p (pi y5.Num),.p (pi y5.Den)]],[],[.agg [.p (pi y7.Num),.p (pi y7.Den)],.one (.p (pi y8))],[],True,fun _ => ok_ref01_Mul y3 y5 (y7,y8) h_3,[]⟩]) (⟨58,mkS [(6,.x (.one (.ptr 106 0))),(7,.x (.one (.p (pi y8))))],mkH [(106,.var [.p (pi y7.Num),.p (pi y7.Den)])]⟩) ?_
      refine lok_ret ?_
      obtain rfl:=Option.some.inj H0
      try simp only [thenL,blockL]
      exact fin_au _ (.inr rfl) [] (⟨58,mkS [(6,.x (.one (.ptr 106 0))),(7,.x (.one (.p (pi y8))))],mkH [(106,.var [.p (pi y7.Num),.p (pi y7.Den)])]⟩) rfl rfl imp_au
set_option maxHeartbeats 4000000 in
theorem ok_law36_AggregateExact (t : List Int) (raw : api_Award) (marks : List api_UnitMark) (special:Int) (unit:Int) (r_ : Bool) (H0 : law36_AggregateExact t raw marks special unit = some r_) : CallOK Try.prog 3 [.one (.p (.sl 1 (List.map encI t))),.agg [.p (.sl 3 (List.map enc_api_Unit raw.Units)),.p (.sl 1 (List.map encI raw.Bounds)),.p (pi raw.Max)],.one (.p (.sl 3 (List.map enc_api_UnitMark marks))),.one (.p (pi special)),.one (.p (pi unit))] [] [.one (.p (.val (.bool r_)))] []:=by
  refine callOK (n:=263) (rs:=[.tmp 10]) (nb:=0) (V:=[]) Try.func3 rfl (by kernel_rfl) rfl rfl rfl rfl (Nat.le_of_ble_eq_true rfl) (by decide) ?_
  unfold law36_AggregateExact at H0
  refine lok_rt E0 (⟨263,mkS [(0,.x (.one (.p (.sl 1 (List.map encI t))))),(2,.x (.one (.p (.sl 3 (List.map enc_api_UnitMark marks))))),(3,.x (.one (.p (pi special)))),(4,.x (.one (.p (pi unit)))),(6,.x (.one (.ptr 106 0)))],mkH [(106,.var [.p (.sl 3 (List.map enc_api_Unit raw.Units)),.p (.sl 1 (List.map encI raw.Bounds)),.p (pi raw.Max)])]⟩) ?_
  refine lok_seq ?_
  replace H0:=bind_some H0
  obtain ⟨y,h_0,H0⟩:=H0
  refine lok_rt (Env.of E0 [⟨some 45,10,[.one (.p (.sl 1 (List.map encI t)))],[],[.one (.p (.val (.bool y)))],[],True,fun _ => ok_mark_Light t y h_0,[]⟩]) (⟨263,mkS [(0,.x (.one (.p (.sl 1 (List.map encI t))))),(2,.x (.one (.p (.sl 3 (List.map enc_api_UnitMark marks))))),(3,.x (.one (.p (pi special)))),(4,.x (.one (.p (pi unit)))),(6,.x (.one (.ptr 106 0))),(63,.x (.one (.p (.val (.bool ((((!y) || (decide ((10:Int) < (raw.Units.length:Int)))) || (decide ((20:Int) < (raw.Bounds.length:Int)))) || (decide ((10:Int) < (marks.length:Int)))))))))],mkH [(106,.var [.p (.sl 3 (List.map enc_api_Unit raw.Units)),.p (.sl 1 (List.map encI raw.Bounds)),.p (pi raw.Max)])]⟩) ?_
  refine lok_c ((((!y) || (decide ((10:Int) < (raw.Units.length:Int)))) || (decide ((20:Int) < (raw.Bounds.length:Int)))) || (decide ((10:Int) < (marks.length:Int)))) ?_ ?_
  · intro b_48
    replace H0:=cpos H0 b_48
    replace H0:=bind_some H0
    obtain ⟨y1,h_1,H0⟩:=H0
    refine lok_rt (Env.of E0 [⟨some 64,11,[],[],[.one (.p (.val (.bool y1)))],[],True,fun _ => ok_law36_sane y1 h_1,[]⟩]) (⟨263,mkS [(10,.x (.one (.p (.val (.bool y1)))))],mkH []⟩) ?_
    refine lok_ret ?_
    obtain rfl:=Option.some.inj H0
    try simp only [thenL,blockL]
    exact fin_au _ (.inr rfl) [] (⟨263,mkS [(10,.x (.one (.p (.val (.bool y1)))))],mkH []⟩) rfl rfl imp_au
  · intro b_48
    replace H0:=cneg H0 b_48
    refine lok_skip ?_
    try simp only [thenL,blockL,↓reduceIte,reduceCtorEq]
    replace H0:=bind_some H0
    obtain ⟨y2,h_2,H0⟩:=H0
    refine lok_rt (Env.of E0 [⟨some 66,12,[.one (.p (.sl 1 (List.map encI t)))],[],[.one (.ptr 0 0)],[some (.var [.p (.sl 1 (List.map encI y2.L)),.p (pi y2.At)])],True,fun _ => ok_mark_Roll t y2 h_2,[]⟩]) (⟨263,mkS [(2,.x (.one (.p (.sl 3 (List.map enc_api_UnitMark marks))))),(3,.x (.one (.p (pi special)))),(4,.x (.one (.p (pi unit)))),(6,.x (.one (.ptr 106 0))),(11,.x (.one (.ptr 1066 0)))],mkH [(106,.var [.p (.sl 3 (List.map enc_api_Unit raw.Units)),.p (.sl 1 (List.map encI raw.Bounds)),.p (pi raw.Max)]),(1066,.var [.p (.sl 1 (List.map encI y2.L)),.p (pi y2.At)])]⟩) ?_
    replace H0:=bind_some H0
    obtain ⟨⟨y3,y4⟩,h_3,H0⟩:=H0
    try dsimp only at H0
    replace H0:=bind_some H0
    obtain ⟨⟨y5,y6⟩,h_4,H0⟩:=H0
    try dsimp only at H0
    refine lok_rt (Env.of E0 [⟨some 69,14,[.one (.ptr 0 0),.one (.p (pi (4:Int)))],[.var [.p (.sl 1 (List.map encI y2.L)),.p (pi y2.At)]],[.one (.p (pi y3))],[some (.var [.p (.sl 1 (List.map encI y4.L)),.p (pi y4.At)])],True,fun _ => ok_mark_Dice_Next y2 (4:Int) (y3,y4) h_3,[]⟩,
      ⟨some 71,13,[.one (.ptr 0 0),.one (.p (pi (IntKind.i64.wrap ((1:Int) + y3))))],[.var [.p (.sl 1 (List.map encI y4.L)),.p (pi y4.At)]],[.agg [.p (.sl 3 (List.map enc_api_Unit y5.Units)),.p (.sl 1 (List.map encI y5.Bounds)),.p (pi y5.Max)]],[some (.var [.p (.sl 1 (List.map encI y6.L)),.p (pi y6.At)])],True,fun _ => ok_mark_Dice_Award y4 (IntKind.i64.wrap ((1:Int) + y3)) (y5,y6) h_4,[]⟩]) (⟨263,mkS [(2,.x (.one (.p (.sl 3 (List.map enc_api_UnitMark marks))))),(3,.x (.one (.p (pi special)))),(4,.x (.one (.p (pi unit)))),(6,.x (.one (.ptr 106 0))),(11,.x (.one (.ptr 1066 0))),(12,.x (.one (.ptr 112 0)))],mkH [(106,.var [.p (.sl 3 (List.map enc_api_Unit raw.Units)),.p (.sl 1 (List.map encI raw.Bounds)),.p (pi raw.Max)]),(112,.var [.p (.sl 3 (List.map enc_api_Unit y5.Units)),.p (.sl 1 (List.map encI y5.Bounds)),.p (pi y5.Max)]),(1066,.var [.p (.sl 1 (List.map encI y6.L)),.p (pi y6.At)])]⟩) ?_
    replace H0:=bind_some H0
    obtain ⟨⟨y7,y8⟩,h_5,H0⟩:=H0
    try dsimp only at H0
    refine lok_rt (Env.of E0 [⟨some 74,15,[.one (.ptr 0 0),.agg [.p (.sl 3 (List.map enc_api_Unit y5.Units)),.p (.sl 1 (List.map encI y5.Bounds)),.p (pi y5.Max)]],[.var [.p (.sl 1 (List.map encI y6.L)),.p (pi y6.At)]],[.one (.p (.sl 3 (List.map enc_api_UnitMark y7)))],[some (.var [.p (.sl 1 (List.map encI y8.L)),.p (pi y8.At)])],True,fun _ => ok_mark_Dice_Marks y6 y5 (y7,y8) h_5,[]⟩]) (⟨263,mkS [(2,.x (.one (.p (.sl 3 (List.map enc_api_UnitMark marks))))),(3,.x (.one (.p (pi special)))),(4,.x (.one (.p (pi unit)))),(6,.x (.one (.ptr 106 0))),(11,.x (.one (.ptr 1066 0))),(12,.x (.one (.ptr 112 0))),(13,.x (.one (.p (.sl 3 (List.map enc_api_UnitMark y7)))))],mkH [(106,.var [.p (.sl 3 (List.map enc_api_Unit raw.Units)),.p (.sl 1 (List.map encI raw.Bounds)),.p (pi raw.Max)]),(112,.var [.p (.sl 3 (List.map enc_api_Unit y5.Units)),.p (.sl 1 (List.map encI y5.Bounds)),.p (pi y5.Max)]),(1066,.var [.p (.sl 1 (List.map encI y8.L)),.p (pi y8.At)])]⟩) ?_
    replace H0:=req_some H0
    obtain ⟨q_47,H0⟩:=H0
    refine lok_rt E0 (⟨263,mkS [(2,.x (.one (.p (.sl 3 (List.map enc_api_UnitMark marks))))),(3,.x (.one (.p (pi special)))),(4,.x (.one (.p (pi unit)))),(6,.x (.one (.ptr 106 0))),(11,.x (.one (.ptr 1066 0))),(12,.x (.one (.ptr 112 0))),(13,.x (.one (.p (.sl 3 (List.map enc_api_UnitMark y7))))),(14,.x (.one (.vw 176)))],mkH [(106,.var [.p (.sl 3 (List.map enc_api_Unit raw.Units)),.p (.sl 1 (List.map encI raw.Bounds)),.p (pi raw.Max)]),(112,.var [.p (.sl 3 (List.map enc_api_Unit y5.Units)),.p (.sl 1 (List.map encI y5.Bounds)),.p (pi y5.Max)]),(176,.arr 3 (List.map enc_api_UnitMark y7)),(1066,.var [.p (.sl 1 (List.map encI y8.L)),.p (pi y8.At)])]⟩) ?_
    replace H0:=bind_some H0
    obtain ⟨⟨y9,y10⟩,h_6,H0⟩:=H0
    try dsimp only at H0
    replace H0:=req_some H0
    obtain ⟨q_46,H0⟩:=H0
    refine lok_rt (Env.of E0 [⟨some 81,14,[.one (.ptr 0 0),.one (.p (pi (y7.length:Int)))],[.var [.p (.sl 1 (List.map encI y8.L)),.p (pi y8.At)]],[.one (.p (pi y9))],[some (.var [.p (.sl 1 (List.map encI y10.L)),.p (pi y10.At)])],True,fun _ => ok_mark_Dice_Next y8 (y7.length:Int) (y9,y10) h_6,[]⟩]) (⟨263,mkS [(2,.x (.one (.p (.sl 3 (List.map enc_api_UnitMark marks))))),(3,.x (.one (.p (pi special)))),(4,.x (.one (.p (pi unit)))),(6,.x (.one (.ptr 106 0))),(11,.x (.one (.ptr 1066 0))),(12,.x (.one (.ptr 112 0))),(13,.x (.one (.p (.sl 3 (List.map enc_api_UnitMark y7))))),(14,.x (.one (.vw 176))),(15,.x (.one (.ap 176 (y9.toNat) 0)))],mkH [(106,.var [.p (.sl 3 (List.map enc_api_Unit raw.Units)),.p (.sl 1 (List.map encI raw.Bounds)),.p (pi raw.Max)]),(112,.var [.p (.sl 3 (List.map enc_api_Unit y5.Units)),.p (.sl 1 (List.map encI y5.Bounds)),.p (pi y5.Max)]),(176,.arr 3 (List.map enc_api_UnitMark y7)),(1066,.var [.p (.sl 1 (List.map encI y10.L)),.p (pi y10.At)])]⟩) ?_
    refine lok_join (fun x_ : (List api_UnitMark) × (List Int) × Int => law36_AggregateExact_j9 raw marks special unit y5 y7 x_.1 x_.2.1 x_.2.2 = some r_) (fun x_ => ⟨263,mkS [(2,.x (.one (.p (.sl 3 (List.map enc_api_UnitMark marks))))),(3,.x (.one (.p (pi special)))),(4,.x (.one (.p (pi unit)))),(6,.x (.one (.ptr 106 0))),(11,.x (.one (.ptr 1066 0))),(12,.x (.one (.ptr 112 0))),(13,.x (.one (.p (.sl 3 (List.map enc_api_UnitMark y7))))),(14,.x (.one (.vw 176)))],mkH [(106,.var [.p (.sl 3 (List.map enc_api_Unit raw.Units)),.p (.sl 1 (List.map encI raw.Bounds)),.p (pi raw.Max)]),(112,.var [.p (.sl 3 (List.map enc_api_Unit y5.Units)),.p (.sl 1 (List.map encI y5.Bounds)),.p (pi y5.Max)]),(176,.arr 3 (List.map enc_api_UnitMark x_.1)),(1066,.var [.p (.sl 1 (List.map encI x_.2.1)),.p (pi x_.2.2)])]⟩) ?hylaw36_AggregateExact_j9 ?hxlaw36_AggregateExact_j9
    case hylaw36_AggregateExact_j9 =>
      rintro ⟨w,w1,w2⟩ H0
      try dsimp only at H0 ⊢
      unfold law36_AggregateExact_j9 at H0
      refine lok_join (fun x_ : Unit => law36_AggregateExact_j1 = some r_) (fun x_ => ⟨263,mkS [],mkH []⟩) ?hylaw36_AggregateExact_j1 ?hxlaw36_AggregateExact_j1
      case hylaw36_AggregateExact_j1 =>
        rintro _ H0
        try dsimp only at H0 ⊢
        unfold law36_AggregateExact_j1 at H0
        replace H0:=bind_some H0
        obtain ⟨y11,h_7,H0⟩:=H0
        refine lok_rt (Env.of E0 [⟨some 262,11,[],[],[.one (.p (.val (.bool y11)))],[],True,fun _ => ok_law36_sane y11 h_7,[]⟩]) (⟨263,mkS [(10,.x (.one (.p (.val (.bool y11)))))],mkH []⟩) ?_
        refine lok_ret ?_
        obtain rfl:=Option.some.inj H0
        try simp only [thenL,blockL]
        exact fin_au _ (.inr rfl) [] (⟨263,mkS [(10,.x (.one (.p (.val (.bool y11)))))],mkH []⟩) rfl rfl imp_au
      case hxlaw36_AggregateExact_j1 =>
        replace H0:=bind_some H0
        obtain ⟨⟨y12,y13⟩,h_8,H0⟩:=H0
        try dsimp only at H0
        refine lok_et (Env.of E0 [⟨some 118,18,[.one (.ptr 0 0),.agg [.p (.sl 3 (List.map enc_api_Unit y5.Units)),.p (.sl 1 (List.map encI y5.Bounds)),.p (pi y5.Max)]],[.var [.p (.sl 1 (List.map encI w1)),.p (pi w2)]],[.agg [.p (.sl 3 (List.map enc_api_Unit y12.Units)),.p (.sl 1 (List.map encI y12.Bounds)),.p (pi y12.Max)]],[some (.var [.p (.sl 1 (List.map encI y13.L)),.p (pi y13.At)])],True,fun _ => ok_law36_odd (mark_Dice.mk w1 w2) y5 (y12,y13) h_8,[]⟩]) 263 [⟨[(12,.x (.one (.ptr 112 0)))],[(112,some (.var [.p (.sl 3 (List.map enc_api_Unit y5.Units)),.p (.sl 1 (List.map encI y5.Bounds)),.p (pi y5.Max)]))],[(115,.x (.agg [.p (.sl 3 (List.map enc_api_Unit y5.Units)),.p (.sl 1 (List.map encI y5.Bounds)),.p (pi y5.Max)]))],[],none⟩,
      ⟨[(11,.x (.one (.ptr 1066 0)))],[],[(116,.x (.one (.ptr 1066 0)))],[],none⟩,
      ⟨[(12,.x (.one (.ptr 112 0)))],[(112,some (.var [.p (.sl 3 (List.map enc_api_Unit y5.Units)),.p (.sl 1 (List.map encI y5.Bounds)),.p (pi y5.Max)]))],[(117,.x (.agg [.p (.sl 3 (List.map enc_api_Unit y5.Units)),.p (.sl 1 (List.map encI y5.Bounds)),.p (pi y5.Max)]))],[],none⟩,
      ⟨[(116,.x (.one (.ptr 1066 0))),(117,.x (.agg [.p (.sl 3 (List.map enc_api_Unit y5.Units)),.p (.sl 1 (List.map encI y5.Bounds)),.p (pi y5.Max)]))],[(1066,some (.var [.p (.sl 1 (List.map encI w1)),.p (pi w2)]))],[(118,.x (.agg [.p (.sl 3 (List.map enc_api_Unit y12.Units)),.p (.sl 1 (List.map encI y12.Bounds)),.p (pi y12.Max)]))],[(1066,some (.var [.p (.sl 1 (List.map encI y13.L)),.p (pi y13.At)]))],none⟩,
      ⟨[(6,.x (.one (.ptr 106 0)))],[(106,some (.var [.p (.sl 3 (List.map enc_api_Unit raw.Units)),.p (.sl 1 (List.map encI raw.Bounds)),.p (pi raw.Max)]))],[(119,.x (.agg [.p (.sl 3 (List.map enc_api_Unit raw.Units)),.p (.sl 1 (List.map encI raw.Bounds)),.p (pi raw.Max)]))],[],none⟩,
      ⟨[(115,.x (.agg [.p (.sl 3 (List.map enc_api_Unit y5.Units)),.p (.sl 1 (List.map encI y5.Bounds)),.p (pi y5.Max)])),(118,.x (.agg [.p (.sl 3 (List.map enc_api_Unit y12.Units)),.p (.sl 1 (List.map encI y12.Bounds)),.p (pi y12.Max)])),(119,.x (.agg [.p (.sl 3 (List.map enc_api_Unit raw.Units)),.p (.sl 1 (List.map encI raw.Bounds)),.p (pi raw.Max)]))],[],[(120,.x (.agg [.p (.sl 3 (List.map enc_api_Unit y5.Units)),.p (.sl 1 (List.map encI y5.Bounds)),.p (pi y5.Max),.p (.sl 3 (List.map enc_api_Unit y12.Units)),.p (.sl 1 (List.map encI y12.Bounds)),.p (pi y12.Max),.p (.sl 3 (List.map enc_api_Unit raw.Units)),.p (.sl 1 (List.map encI raw.Bounds)),.p (pi raw.Max)]))],[],none⟩,
      ⟨[],[],[(121,.x (.one (.p (pi (0:Int)))))],[],none⟩] (⟨263,mkS [(2,.x (.one (.p (.sl 3 (List.map enc_api_UnitMark marks))))),(3,.x (.one (.p (pi special)))),(4,.x (.one (.p (pi unit)))),(11,.x (.one (.ptr 1066 0))),(13,.x (.one (.p (.sl 3 (List.map enc_api_UnitMark y7))))),(14,.x (.one (.vw 176))),(120,.x (.agg [.p (.sl 3 (List.map enc_api_Unit y5.Units)),.p (.sl 1 (List.map encI y5.Bounds)),.p (pi y5.Max),.p (.sl 3 (List.map enc_api_Unit y12.Units)),.p (.sl 1 (List.map encI y12.Bounds)),.p (pi y12.Max),.p (.sl 3 (List.map enc_api_Unit raw.Units)),.p (.sl 1 (List.map encI raw.Bounds)),.p (pi raw.Max)])),(121,.x (.one (.p (pi (0:Int)))))],mkH [(176,.arr 3 (List.map enc_api_UnitMark w)),(1066,.var [.p (.sl 1 (List.map encI y13.L)),.p (pi y13.At)])]⟩) (by kernel_rfl) (by kernel_rfl) (by kernel_rfl) rfl rfl rfl ?_
        refine lok_block ?_
        replace H0:=bind_some H0
        obtain ⟨v_9,hv_9,H0⟩:=H0
        refine lok_iter (fun x_ => ⟨263,mkS [(2,.x (.one (.p (.sl 3 (List.map enc_api_UnitMark marks))))),(3,.x (.one (.p (pi special)))),(4,.x (.one (.p (pi unit)))),(11,.x (.one (.ptr 1066 0))),(13,.x (.one (.p (.sl 3 (List.map enc_api_UnitMark y7))))),(14,.x (.one (.p (.sl 3 (List.map enc_api_UnitMark w))))),(120,.x (.agg [.p (.sl 3 (List.map enc_api_Unit y5.Units)),.p (.sl 1 (List.map encI y5.Bounds)),.p (pi y5.Max),.p (.sl 3 (List.map enc_api_Unit y12.Units)),.p (.sl 1 (List.map encI y12.Bounds)),.p (pi y12.Max),.p (.sl 3 (List.map enc_api_Unit raw.Units)),.p (.sl 1 (List.map encI raw.Bounds)),.p (pi raw.Max)])),(121,.x (.one (.p (pi x_.1))))],mkH [(1066,.var [.p (.sl 1 (List.map encI x_.2.1)),.p (pi x_.2.2)])]⟩) hv_9 (Imp.trans (imp_frz 176 3 (List.map enc_api_UnitMark w)) imp_au) ?_
        · rintro ⟨v,w3,w4⟩ o_1 H1 k_1
          unfold law36_AggregateExact_l8 at H1
          try dsimp only at H1 ⊢
          refine lok_rt E0 (⟨263,mkS [(2,.x (.one (.p (.sl 3 (List.map enc_api_UnitMark marks))))),(3,.x (.one (.p (pi special)))),(4,.x (.one (.p (pi unit)))),(11,.x (.one (.ptr 1066 0))),(13,.x (.one (.p (.sl 3 (List.map enc_api_UnitMark y7))))),(14,.x (.one (.p (.sl 3 (List.map enc_api_UnitMark w))))),(120,.x (.agg [.p (.sl 3 (List.map enc_api_Unit y5.Units)),.p (.sl 1 (List.map encI y5.Bounds)),.p (pi y5.Max),.p (.sl 3 (List.map enc_api_Unit y12.Units)),.p (.sl 1 (List.map encI y12.Bounds)),.p (pi y12.Max),.p (.sl 3 (List.map enc_api_Unit raw.Units)),.p (.sl 1 (List.map encI raw.Bounds)),.p (pi raw.Max)])),(121,.x (.one (.p (pi v)))),(122,.x (.one (.p (.val (.bool (decide (v < (3:Int))))))))],mkH [(1066,.var [.p (.sl 1 (List.map encI w3)),.p (pi w4)])]⟩) ?_
          refine lok_seq ?_
          refine lok_c (decide (v < (3:Int))) ?_ ?_
          · intro b_35
            replace H1:=cpos H1 b_35
            refine lok_skip ?_
            try simp only [thenL,blockL,↓reduceIte,reduceCtorEq]
            refine lok_join (fun x_ : (List Int) × Int => law36_AggregateExact_j2 v x_.1 x_.2 = some o_1) (fun x_ => ⟨263,mkS [(2,.x (.one (.p (.sl 3 (List.map enc_api_UnitMark marks))))),(3,.x (.one (.p (pi special)))),(4,.x (.one (.p (pi unit)))),(11,.x (.one (.ptr 1066 0))),(13,.x (.one (.p (.sl 3 (List.map enc_api_UnitMark y7))))),(14,.x (.one (.p (.sl 3 (List.map enc_api_UnitMark w))))),(120,.x (.agg [.p (.sl 3 (List.map enc_api_Unit y5.Units)),.p (.sl 1 (List.map encI y5.Bounds)),.p (pi y5.Max),.p (.sl 3 (List.map enc_api_Unit y12.Units)),.p (.sl 1 (List.map encI y12.Bounds)),.p (pi y12.Max),.p (.sl 3 (List.map enc_api_Unit raw.Units)),.p (.sl 1 (List.map encI raw.Bounds)),.p (pi raw.Max)])),(121,.x (.one (.p (pi v))))],mkH [(1066,.var [.p (.sl 1 (List.map encI x_.1)),.p (pi x_.2)])]⟩) ?hylaw36_AggregateExact_j2 ?hxlaw36_AggregateExact_j2
            case hylaw36_AggregateExact_j2 =>
              rintro ⟨w5,w6⟩ H1
              try dsimp only at H1 ⊢
              unfold law36_AggregateExact_j2 at H1
              refine lok_rl E0 (⟨263,mkS [(2,.x (.one (.p (.sl 3 (List.map enc_api_UnitMark marks))))),(3,.x (.one (.p (pi special)))),(4,.x (.one (.p (pi unit)))),(11,.x (.one (.ptr 1066 0))),(13,.x (.one (.p (.sl 3 (List.map enc_api_UnitMark y7))))),(14,.x (.one (.p (.sl 3 (List.map enc_api_UnitMark w))))),(120,.x (.agg [.p (.sl 3 (List.map enc_api_Unit y5.Units)),.p (.sl 1 (List.map encI y5.Bounds)),.p (pi y5.Max),.p (.sl 3 (List.map enc_api_Unit y12.Units)),.p (.sl 1 (List.map encI y12.Bounds)),.p (pi y12.Max),.p (.sl 3 (List.map enc_api_Unit raw.Units)),.p (.sl 1 (List.map encI raw.Bounds)),.p (pi raw.Max)])),(121,.x (.one (.p (pi (IntKind.i64.wrap (v + (1:Int)))))))],mkH [(1066,.var [.p (.sl 1 (List.map encI w5)),.p (pi w6)])]⟩) ?_
              try simp only [thenL,blockL,↓reduceIte,reduceCtorEq]
              exact ⟨((IntKind.i64.wrap (v + (1:Int))),w5,w6),(Option.some.inj H1).symm,imp_au⟩
            case hxlaw36_AggregateExact_j2 =>
              refine lok_block ?_
              replace H1:=req_some H1
              obtain ⟨q_34,H1⟩:=H1
              refine lok_rt E0 (⟨263,mkS [(2,.x (.one (.p (.sl 3 (List.map enc_api_UnitMark marks))))),(3,.x (.one (.p (pi special)))),(4,.x (.one (.p (pi unit)))),(11,.x (.one (.ptr 1066 0))),(13,.x (.one (.p (.sl 3 (List.map enc_api_UnitMark y7))))),(14,.x (.one (.p (.sl 3 (List.map enc_api_UnitMark w))))),(17,.x (.one (.ptr 117 0))),(120,.x (.agg [.p (.sl 3 (List.map enc_api_Unit y5.Units)),.p (.sl 1 (List.map encI y5.Bounds)),.p (pi y5.Max),.p (.sl 3 (List.map enc_api_Unit y12.Units)),.p (.sl 1 (List.map encI y12.Bounds)),.p (pi y12.Max),.p (.sl 3 (List.map enc_api_Unit raw.Units)),.p (.sl 1 (List.map encI raw.Bounds)),.p (pi raw.Max)])),(121,.x (.one (.p (pi v))))],mkH [(117,.var [.p (.sl 3 (List.map enc_api_Unit ((ix [y5,y12,raw] v).Units))),.p (.sl 1 (List.map encI ((ix [y5,y12,raw] v).Bounds))),.p (pi ((ix [y5,y12,raw] v).Max))]),(1066,.var [.p (.sl 1 (List.map encI w3)),.p (pi w4)])]⟩) ?_
              refine lok_seq ?_
              replace H1:=bind_some H1
              obtain ⟨y14,h_10,H1⟩:=H1
              replace H1:=bind_some H1
              obtain ⟨y15,h_11,H1⟩:=H1
              refine lok_dt (Env.of E0 [⟨some 125,19,[.agg [.p (.sl 3 (List.map enc_api_Unit ((ix [y5,y12,raw] v).Units))),.p (.sl 1 (List.map encI ((ix [y5,y12,raw] v).Bounds))),.p (pi ((ix [y5,y12,raw] v).Max))]],[],[.one (.p (pi y14))],[],True,fun _ => ok_aggregate_Check (ix [y5,y12,raw] v) y14 h_10,[]⟩,
      ⟨some 127,20,[.agg [.p (.sl 3 (List.map enc_api_Unit ((ix [y5,y12,raw] v).Units))),.p (.sl 1 (List.map encI ((ix [y5,y12,raw] v).Bounds))),.p (pi ((ix [y5,y12,raw] v).Max))]],[],[.one (.p (pi y15))],[],True,fun _ => ok_ref36_Check (ix [y5,y12,raw] v) y15 h_11,[]⟩]) 3 (⟨263,mkS [(2,.x (.one (.p (.sl 3 (List.map enc_api_UnitMark marks))))),(3,.x (.one (.p (pi special)))),(4,.x (.one (.p (pi unit)))),(11,.x (.one (.ptr 1066 0))),(13,.x (.one (.p (.sl 3 (List.map enc_api_UnitMark y7))))),(14,.x (.one (.p (.sl 3 (List.map enc_api_UnitMark w))))),(17,.x (.one (.ptr 117 0))),(120,.x (.agg [.p (.sl 3 (List.map enc_api_Unit y5.Units)),.p (.sl 1 (List.map encI y5.Bounds)),.p (pi y5.Max),.p (.sl 3 (List.map enc_api_Unit y12.Units)),.p (.sl 1 (List.map encI y12.Bounds)),.p (pi y12.Max),.p (.sl 3 (List.map enc_api_Unit raw.Units)),.p (.sl 1 (List.map encI raw.Bounds)),.p (pi raw.Max)])),(121,.x (.one (.p (pi v)))),(128,.x (.one (.p (.val (.bool (y14 != y15))))))],mkH [(117,.var [.p (.sl 3 (List.map enc_api_Unit ((ix [y5,y12,raw] v).Units))),.p (.sl 1 (List.map encI ((ix [y5,y12,raw] v).Bounds))),.p (pi ((ix [y5,y12,raw] v).Max))]),(1066,.var [.p (.sl 1 (List.map encI w3)),.p (pi w4)])]⟩) (by kernel_rfl) (by kernel_rfl) ?_
              refine lok_c (y14 != y15) ?_ ?_
              · intro b_33
                replace H1:=cpos H1 b_33
                refine lok_rt E0 (⟨263,mkS [(10,.x (.one (.p (.val (.bool false)))))],mkH []⟩) ?_
                refine lok_ret ?_
                try simp only [thenL,blockL,↓reduceIte,reduceCtorEq]
                have e_1:=k_1 _ (Option.some.inj H1).symm
                subst e_1
                try dsimp only at H0
                obtain rfl:=Option.some.inj H0
                try simp only [thenL,blockL]
                exact fin_au _ (.inr rfl) [] (⟨263,mkS [(10,.x (.one (.p (.val (.bool false)))))],mkH []⟩) rfl rfl imp_au
              · intro b_33
                replace H1:=cneg H1 b_33
                refine lok_skip ?_
                try simp only [thenL,blockL,↓reduceIte,reduceCtorEq]
                refine lok_rt E0 (⟨263,mkS [(2,.x (.one (.p (.sl 3 (List.map enc_api_UnitMark marks))))),(3,.x (.one (.p (pi special)))),(4,.x (.one (.p (pi unit)))),(11,.x (.one (.ptr 1066 0))),(13,.x (.one (.p (.sl 3 (List.map enc_api_UnitMark y7))))),(14,.x (.one (.p (.sl 3 (List.map enc_api_UnitMark w))))),(17,.x (.one (.ptr 117 0))),(120,.x (.agg [.p (.sl 3 (List.map enc_api_Unit y5.Units)),.p (.sl 1 (List.map encI y5.Bounds)),.p (pi y5.Max),.p (.sl 3 (List.map enc_api_Unit y12.Units)),.p (.sl 1 (List.map encI y12.Bounds)),.p (pi y12.Max),.p (.sl 3 (List.map enc_api_Unit raw.Units)),.p (.sl 1 (List.map encI raw.Bounds)),.p (pi raw.Max)])),(121,.x (.one (.p (pi v)))),(132,.x (.agg [.p (.sl 3 (List.map enc_api_UnitMark y7)),.p (.sl 3 (List.map enc_api_UnitMark w)),.p (.sl 3 (List.map enc_api_UnitMark marks))])),(133,.x (.one (.p (pi (0:Int)))))],mkH [(117,.var [.p (.sl 3 (List.map enc_api_Unit ((ix [y5,y12,raw] v).Units))),.p (.sl 1 (List.map encI ((ix [y5,y12,raw] v).Bounds))),.p (pi ((ix [y5,y12,raw] v).Max))]),(1066,.var [.p (.sl 1 (List.map encI w3)),.p (pi w4)])]⟩) ?_
                refine lok_block ?_
                replace H1:=bind_some H1
                obtain ⟨v_12,hv_12,H1⟩:=H1
                refine lok_iter (fun x_ => ⟨263,mkS [(2,.x (.one (.p (.sl 3 (List.map enc_api_UnitMark marks))))),(3,.x (.one (.p (pi special)))),(4,.x (.one (.p (pi unit)))),(11,.x (.one (.ptr 1066 0))),(13,.x (.one (.p (.sl 3 (List.map enc_api_UnitMark y7))))),(14,.x (.one (.p (.sl 3 (List.map enc_api_UnitMark w))))),(17,.x (.one (.ptr 117 0))),(120,.x (.agg [.p (.sl 3 (List.map enc_api_Unit y5.Units)),.p (.sl 1 (List.map encI y5.Bounds)),.p (pi y5.Max),.p (.sl 3 (List.map enc_api_Unit y12.Units)),.p (.sl 1 (List.map encI y12.Bounds)),.p (pi y12.Max),.p (.sl 3 (List.map enc_api_Unit raw.Units)),.p (.sl 1 (List.map encI raw.Bounds)),.p (pi raw.Max)])),(121,.x (.one (.p (pi v)))),(132,.x (.agg [.p (.sl 3 (List.map enc_api_UnitMark y7)),.p (.sl 3 (List.map enc_api_UnitMark w)),.p (.sl 3 (List.map enc_api_UnitMark marks))])),(133,.x (.one (.p (pi x_.1))))],mkH [(117,.var [.p (.sl 3 (List.map enc_api_Unit ((ix [y5,y12,raw] v).Units))),.p (.sl 1 (List.map encI ((ix [y5,y12,raw] v).Bounds))),.p (pi ((ix [y5,y12,raw] v).Max))]),(1066,.var [.p (.sl 1 (List.map encI x_.2.1)),.p (pi x_.2.2)])]⟩) hv_12 imp_au ?_
                · rintro ⟨v1,w7,w8⟩ o_2 H2 k_2
                  unfold law36_AggregateExact_l7 at H2
                  try dsimp only at H2 ⊢
                  refine lok_rt E0 (⟨263,mkS [(2,.x (.one (.p (.sl 3 (List.map enc_api_UnitMark marks))))),(3,.x (.one (.p (pi special)))),(4,.x (.one (.p (pi unit)))),(11,.x (.one (.ptr 1066 0))),(13,.x (.one (.p (.sl 3 (List.map enc_api_UnitMark y7))))),(14,.x (.one (.p (.sl 3 (List.map enc_api_UnitMark w))))),(17,.x (.one (.ptr 117 0))),(120,.x (.agg [.p (.sl 3 (List.map enc_api_Unit y5.Units)),.p (.sl 1 (List.map encI y5.Bounds)),.p (pi y5.Max),.p (.sl 3 (List.map enc_api_Unit y12.Units)),.p (.sl 1 (List.map encI y12.Bounds)),.p (pi y12.Max),.p (.sl 3 (List.map enc_api_Unit raw.Units)),.p (.sl 1 (List.map encI raw.Bounds)),.p (pi raw.Max)])),(121,.x (.one (.p (pi v)))),(132,.x (.agg [.p (.sl 3 (List.map enc_api_UnitMark y7)),.p (.sl 3 (List.map enc_api_UnitMark w)),.p (.sl 3 (List.map enc_api_UnitMark marks))])),(133,.x (.one (.p (pi v1)))),(134,.x (.one (.p (.val (.bool (decide (v1 < (3:Int))))))))],mkH [(117,.var [.p (.sl 3 (List.map enc_api_Unit ((ix [y5,y12,raw] v).Units))),.p (.sl 1 (List.map encI ((ix [y5,y12,raw] v).Bounds))),.p (pi ((ix [y5,y12,raw] v).Max))]),(1066,.var [.p (.sl 1 (List.map encI w7)),.p (pi w8)])]⟩) ?_
                  refine lok_seq ?_
                  refine lok_c (decide (v1 < (3:Int))) ?_ ?_
                  · intro b_32
                    replace H2:=cpos H2 b_32
                    refine lok_skip ?_
                    try simp only [thenL,blockL,↓reduceIte,reduceCtorEq]
                    refine lok_join (fun x_ : (List Int) × Int => law36_AggregateExact_j3 v1 x_.1 x_.2 = some o_2) (fun x_ => ⟨263,mkS [(2,.x (.one (.p (.sl 3 (List.map enc_api_UnitMark marks))))),(3,.x (.one (.p (pi special)))),(4,.x (.one (.p (pi unit)))),(11,.x (.one (.ptr 1066 0))),(13,.x (.one (.p (.sl 3 (List.map enc_api_UnitMark y7))))),(14,.x (.one (.p (.sl 3 (List.map enc_api_UnitMark w))))),(17,.x (.one (.ptr 117 0))),(120,.x (.agg [.p (.sl 3 (List.map enc_api_Unit y5.Units)),.p (.sl 1 (List.map encI y5.Bounds)),.p (pi y5.Max),.p (.sl 3 (List.map enc_api_Unit y12.Units)),.p (.sl 1 (List.map encI y12.Bounds)),.p (pi y12.Max),.p (.sl 3 (List.map enc_api_Unit raw.Units)),.p (.sl 1 (List.map encI raw.Bounds)),.p (pi raw.Max)])),(121,.x (.one (.p (pi v)))),(132,.x (.agg [.p (.sl 3 (List.map enc_api_UnitMark y7)),.p (.sl 3 (List.map enc_api_UnitMark w)),.p (.sl 3 (List.map enc_api_UnitMark marks))])),(133,.x (.one (.p (pi v1))))],mkH [(117,.var [.p (.sl 3 (List.map enc_api_Unit ((ix [y5,y12,raw] v).Units))),.p (.sl 1 (List.map encI ((ix [y5,y12,raw] v).Bounds))),.p (pi ((ix [y5,y12,raw] v).Max))]),(1066,.var [.p (.sl 1 (List.map encI x_.1)),.p (pi x_.2)])]⟩) ?hylaw36_AggregateExact_j3 ?hxlaw36_AggregateExact_j3
                    case hylaw36_AggregateExact_j3 =>
                      rintro ⟨w11,w12⟩ H2
                      try dsimp only at H2 ⊢
                      unfold law36_AggregateExact_j3 at H2
                      refine lok_rl E0 (⟨263,mkS [(2,.x (.one (.p (.sl 3 (List.map enc_api_UnitMark marks))))),(3,.x (.one (.p (pi special)))),(4,.x (.one (.p (pi unit)))),(11,.x (.one (.ptr 1066 0))),(13,.x (.one (.p (.sl 3 (List.map enc_api_UnitMark y7))))),(14,.x (.one (.p (.sl 3 (List.map enc_api_UnitMark w))))),(17,.x (.one (.ptr 117 0))),(120,.x (.agg [.p (.sl 3 (List.map enc_api_Unit y5.Units)),.p (.sl 1 (List.map encI y5.Bounds)),.p (pi y5.Max),.p (.sl 3 (List.map enc_api_Unit y12.Units)),.p (.sl 1 (List.map encI y12.Bounds)),.p (pi y12.Max),.p (.sl 3 (List.map enc_api_Unit raw.Units)),.p (.sl 1 (List.map encI raw.Bounds)),.p (pi raw.Max)])),(121,.x (.one (.p (pi v)))),(132,.x (.agg [.p (.sl 3 (List.map enc_api_UnitMark y7)),.p (.sl 3 (List.map enc_api_UnitMark w)),.p (.sl 3 (List.map enc_api_UnitMark marks))])),(133,.x (.one (.p (pi (IntKind.i64.wrap (v1 + (1:Int)))))))],mkH [(117,.var [.p (.sl 3 (List.map enc_api_Unit ((ix [y5,y12,raw] v).Units))),.p (.sl 1 (List.map encI ((ix [y5,y12,raw] v).Bounds))),.p (pi ((ix [y5,y12,raw] v).Max))]),(1066,.var [.p (.sl 1 (List.map encI w11)),.p (pi w12)])]⟩) ?_
                      try simp only [thenL,blockL,↓reduceIte,reduceCtorEq]
                      exact ⟨((IntKind.i64.wrap (v1 + (1:Int))),w11,w12),(Option.some.inj H2).symm,imp_au⟩
                    case hxlaw36_AggregateExact_j3 =>
                      refine lok_block ?_
                      replace H2:=req_some H2
                      obtain ⟨q_31,H2⟩:=H2
                      refine lok_rt E0 (⟨263,mkS [(2,.x (.one (.p (.sl 3 (List.map enc_api_UnitMark marks))))),(3,.x (.one (.p (pi special)))),(4,.x (.one (.p (pi unit)))),(11,.x (.one (.ptr 1066 0))),(13,.x (.one (.p (.sl 3 (List.map enc_api_UnitMark y7))))),(14,.x (.one (.p (.sl 3 (List.map enc_api_UnitMark w))))),(17,.x (.one (.ptr 117 0))),(19,.x (.one (.p (.sl 3 (List.map enc_api_UnitMark (ix [y7,w,marks] v1)))))),(120,.x (.agg [.p (.sl 3 (List.map enc_api_Unit y5.Units)),.p (.sl 1 (List.map encI y5.Bounds)),.p (pi y5.Max),.p (.sl 3 (List.map enc_api_Unit y12.Units)),.p (.sl 1 (List.map encI y12.Bounds)),.p (pi y12.Max),.p (.sl 3 (List.map enc_api_Unit raw.Units)),.p (.sl 1 (List.map encI raw.Bounds)),.p (pi raw.Max)])),(121,.x (.one (.p (pi v)))),(132,.x (.agg [.p (.sl 3 (List.map enc_api_UnitMark y7)),.p (.sl 3 (List.map enc_api_UnitMark w)),.p (.sl 3 (List.map enc_api_UnitMark marks))])),(133,.x (.one (.p (pi v1))))],mkH [(117,.var [.p (.sl 3 (List.map enc_api_Unit ((ix [y5,y12,raw] v).Units))),.p (.sl 1 (List.map encI ((ix [y5,y12,raw] v).Bounds))),.p (pi ((ix [y5,y12,raw] v).Max))]),(1066,.var [.p (.sl 1 (List.map encI w7)),.p (pi w8)])]⟩) ?_
                      refine lok_join (fun x_ : (List Int) × Int => law36_AggregateExact_j5 raw marks unit y5 y7 w y12 v v1 x_.1 x_.2 = some o_2) (fun x_ => ⟨263,mkS [(2,.x (.one (.p (.sl 3 (List.map enc_api_UnitMark marks))))),(3,.x (.one (.p (pi special)))),(4,.x (.one (.p (pi unit)))),(11,.x (.one (.ptr 1066 0))),(13,.x (.one (.p (.sl 3 (List.map enc_api_UnitMark y7))))),(14,.x (.one (.p (.sl 3 (List.map enc_api_UnitMark w))))),(17,.x (.one (.ptr 117 0))),(19,.x (.one (.p (.sl 3 (List.map enc_api_UnitMark (ix [y7,w,marks] v1)))))),(120,.x (.agg [.p (.sl 3 (List.map enc_api_Unit y5.Units)),.p (.sl 1 (List.map encI y5.Bounds)),.p (pi y5.Max),.p (.sl 3 (List.map enc_api_Unit y12.Units)),.p (.sl 1 (List.map encI y12.Bounds)),.p (pi y12.Max),.p (.sl 3 (List.map enc_api_Unit raw.Units)),.p (.sl 1 (List.map encI raw.Bounds)),.p (pi raw.Max)])),(121,.x (.one (.p (pi v)))),(132,.x (.agg [.p (.sl 3 (List.map enc_api_UnitMark y7)),.p (.sl 3 (List.map enc_api_UnitMark w)),.p (.sl 3 (List.map enc_api_UnitMark marks))])),(133,.x (.one (.p (pi v1))))],mkH [(117,.var [.p (.sl 3 (List.map enc_api_Unit ((ix [y5,y12,raw] v).Units))),.p (.sl 1 (List.map encI ((ix [y5,y12,raw] v).Bounds))),.p (pi ((ix [y5,y12,raw] v).Max))]),(1066,.var [.p (.sl 1 (List.map encI x_.1)),.p (pi x_.2)])]⟩) ?hylaw36_AggregateExact_j5 ?hxlaw36_AggregateExact_j5
                      case hylaw36_AggregateExact_j5 =>
                        rintro ⟨w13,w14⟩ H2
                        try dsimp only at H2 ⊢
                        unfold law36_AggregateExact_j5 at H2
                        replace H2:=bind_some H2
                        obtain ⟨⟨y16,y17⟩,h_13,H2⟩:=H2
                        try dsimp only at H2
                        refine lok_rt (Env.of E0 [⟨some 231,14,[.one (.ptr 0 0),.one (.p (pi (5:Int)))],[.var [.p (.sl 1 (List.map encI w13)),.p (pi w14)]],[.one (.p (pi y16))],[some (.var [.p (.sl 1 (List.map encI y17.L)),.p (pi y17.At)])],True,fun _ => ok_mark_Dice_Next (mark_Dice.mk w13 w14) (5:Int) (y16,y17) h_13,[]⟩]) (⟨263,mkS [(2,.x (.one (.p (.sl 3 (List.map enc_api_UnitMark marks))))),(3,.x (.one (.p (pi special)))),(4,.x (.one (.p (pi unit)))),(11,.x (.one (.ptr 1066 0))),(13,.x (.one (.p (.sl 3 (List.map enc_api_UnitMark y7))))),(14,.x (.one (.p (.sl 3 (List.map enc_api_UnitMark w))))),(17,.x (.one (.ptr 117 0))),(19,.x (.one (.p (.sl 3 (List.map enc_api_UnitMark (ix [y7,w,marks] v1)))))),(120,.x (.agg [.p (.sl 3 (List.map enc_api_Unit y5.Units)),.p (.sl 1 (List.map encI y5.Bounds)),.p (pi y5.Max),.p (.sl 3 (List.map enc_api_Unit y12.Units)),.p (.sl 1 (List.map encI y12.Bounds)),.p (pi y12.Max),.p (.sl 3 (List.map enc_api_Unit raw.Units)),.p (.sl 1 (List.map encI raw.Bounds)),.p (pi raw.Max)])),(121,.x (.one (.p (pi v)))),(132,.x (.agg [.p (.sl 3 (List.map enc_api_UnitMark y7)),.p (.sl 3 (List.map enc_api_UnitMark w)),.p (.sl 3 (List.map enc_api_UnitMark marks))])),(133,.x (.one (.p (pi v1)))),(233,.x (.agg [.p (pi unit),.p (pi (IntKind.i64.wrap (y16 - (1:Int))))])),(234,.x (.one (.p (pi (0:Int)))))],mkH [(117,.var [.p (.sl 3 (List.map enc_api_Unit ((ix [y5,y12,raw] v).Units))),.p (.sl 1 (List.map encI ((ix [y5,y12,raw] v).Bounds))),.p (pi ((ix [y5,y12,raw] v).Max))]),(1066,.var [.p (.sl 1 (List.map encI y17.L)),.p (pi y17.At)])]⟩) ?_
                        refine lok_block ?_
                        replace H2:=bind_some H2
                        obtain ⟨v_14,hv_14,H2⟩:=H2
                        refine lok_iter (fun x_ => ⟨263,mkS [(2,.x (.one (.p (.sl 3 (List.map enc_api_UnitMark marks))))),(3,.x (.one (.p (pi special)))),(4,.x (.one (.p (pi unit)))),(11,.x (.one (.ptr 1066 0))),(13,.x (.one (.p (.sl 3 (List.map enc_api_UnitMark y7))))),(14,.x (.one (.p (.sl 3 (List.map enc_api_UnitMark w))))),(17,.x (.one (.ptr 117 0))),(19,.x (.one (.p (.sl 3 (List.map enc_api_UnitMark (ix [y7,w,marks] v1)))))),(120,.x (.agg [.p (.sl 3 (List.map enc_api_Unit y5.Units)),.p (.sl 1 (List.map encI y5.Bounds)),.p (pi y5.Max),.p (.sl 3 (List.map enc_api_Unit y12.Units)),.p (.sl 1 (List.map encI y12.Bounds)),.p (pi y12.Max),.p (.sl 3 (List.map enc_api_Unit raw.Units)),.p (.sl 1 (List.map encI raw.Bounds)),.p (pi raw.Max)])),(121,.x (.one (.p (pi v)))),(132,.x (.agg [.p (.sl 3 (List.map enc_api_UnitMark y7)),.p (.sl 3 (List.map enc_api_UnitMark w)),.p (.sl 3 (List.map enc_api_UnitMark marks))])),(133,.x (.one (.p (pi v1)))),(233,.x (.agg [.p (pi unit),.p (pi (IntKind.i64.wrap (y16 - (1:Int))))])),(234,.x (.one (.p (pi x_))))],mkH [(117,.var [.p (.sl 3 (List.map enc_api_Unit ((ix [y5,y12,raw] v).Units))),.p (.sl 1 (List.map encI ((ix [y5,y12,raw] v).Bounds))),.p (pi ((ix [y5,y12,raw] v).Max))]),(1066,.var [.p (.sl 1 (List.map encI y17.L)),.p (pi y17.At)])]⟩) hv_14 imp_au ?_
                        · rintro v2 o_3 H3 k_3
                          unfold law36_AggregateExact_l4 at H3
                          try dsimp only at H3 ⊢
                          refine lok_rt E0 (⟨263,mkS [(2,.x (.one (.p (.sl 3 (List.map enc_api_UnitMark marks))))),(3,.x (.one (.p (pi special)))),(4,.x (.one (.p (pi unit)))),(11,.x (.one (.ptr 1066 0))),(13,.x (.one (.p (.sl 3 (List.map enc_api_UnitMark y7))))),(14,.x (.one (.p (.sl 3 (List.map enc_api_UnitMark w))))),(17,.x (.one (.ptr 117 0))),(19,.x (.one (.p (.sl 3 (List.map enc_api_UnitMark (ix [y7,w,marks] v1)))))),(120,.x (.agg [.p (.sl 3 (List.map enc_api_Unit y5.Units)),.p (.sl 1 (List.map encI y5.Bounds)),.p (pi y5.Max),.p (.sl 3 (List.map enc_api_Unit y12.Units)),.p (.sl 1 (List.map encI y12.Bounds)),.p (pi y12.Max),.p (.sl 3 (List.map enc_api_Unit raw.Units)),.p (.sl 1 (List.map encI raw.Bounds)),.p (pi raw.Max)])),(121,.x (.one (.p (pi v)))),(132,.x (.agg [.p (.sl 3 (List.map enc_api_UnitMark y7)),.p (.sl 3 (List.map enc_api_UnitMark w)),.p (.sl 3 (List.map enc_api_UnitMark marks))])),(133,.x (.one (.p (pi v1)))),(233,.x (.agg [.p (pi unit),.p (pi (IntKind.i64.wrap (y16 - (1:Int))))])),(234,.x (.one (.p (pi v2)))),(235,.x (.one (.p (.val (.bool (decide (v2 < (2:Int))))))))],mkH [(117,.var [.p (.sl 3 (List.map enc_api_Unit ((ix [y5,y12,raw] v).Units))),.p (.sl 1 (List.map encI ((ix [y5,y12,raw] v).Bounds))),.p (pi ((ix [y5,y12,raw] v).Max))]),(1066,.var [.p (.sl 1 (List.map encI y17.L)),.p (pi y17.At)])]⟩) ?_
                          refine lok_seq ?_
                          refine lok_c (decide (v2 < (2:Int))) ?_ ?_
                          · intro b_19
                            replace H3:=cpos H3 b_19
                            refine lok_skip ?_
                            try simp only [thenL,blockL,↓reduceIte,reduceCtorEq]
                            refine lok_seq ?_
                            refine lok_block ?_
                            replace H3:=req_some H3
                            obtain ⟨q_18,H3⟩:=H3
                            refine lok_rt E0 (⟨263,mkS [(2,.x (.one (.p (.sl 3 (List.map enc_api_UnitMark marks))))),(3,.x (.one (.p (pi special)))),(4,.x (.one (.p (pi unit)))),(11,.x (.one (.ptr 1066 0))),(13,.x (.one (.p (.sl 3 (List.map enc_api_UnitMark y7))))),(14,.x (.one (.p (.sl 3 (List.map enc_api_UnitMark w))))),(17,.x (.one (.ptr 117 0))),(19,.x (.one (.p (.sl 3 (List.map enc_api_UnitMark (ix [y7,w,marks] v1)))))),(39,.x (.one (.p (pi (ix [unit,(IntKind.i64.wrap (y16 - (1:Int)))] v2))))),(120,.x (.agg [.p (.sl 3 (List.map enc_api_Unit y5.Units)),.p (.sl 1 (List.map encI y5.Bounds)),.p (pi y5.Max),.p (.sl 3 (List.map enc_api_Unit y12.Units)),.p (.sl 1 (List.map encI y12.Bounds)),.p (pi y12.Max),.p (.sl 3 (List.map enc_api_Unit raw.Units)),.p (.sl 1 (List.map encI raw.Bounds)),.p (pi raw.Max)])),(121,.x (.one (.p (pi v)))),(132,.x (.agg [.p (.sl 3 (List.map enc_api_UnitMark y7)),.p (.sl 3 (List.map enc_api_UnitMark w)),.p (.sl 3 (List.map enc_api_UnitMark marks))])),(133,.x (.one (.p (pi v1)))),(233,.x (.agg [.p (pi unit),.p (pi (IntKind.i64.wrap (y16 - (1:Int))))])),(234,.x (.one (.p (pi v2))))],mkH [(117,.var [.p (.sl 3 (List.map enc_api_Unit ((ix [y5,y12,raw] v).Units))),.p (.sl 1 (List.map encI ((ix [y5,y12,raw] v).Bounds))),.p (pi ((ix [y5,y12,raw] v).Max))]),(1066,.var [.p (.sl 1 (List.map encI y17.L)),.p (pi y17.At)])]⟩) ?_
                            replace H3:=bind_some H3
                            obtain ⟨⟨y18,y19⟩,h_15,H3⟩:=H3
                            try dsimp only at H3
                            refine lok_rt (Env.of E0 [⟨some 241,27,[.agg [.p (.sl 3 (List.map enc_api_Unit ((ix [y5,y12,raw] v).Units))),.p (.sl 1 (List.map encI ((ix [y5,y12,raw] v).Bounds))),.p (pi ((ix [y5,y12,raw] v).Max))],.one (.p (.sl 3 (List.map enc_api_UnitMark (ix [y7,w,marks] v1)))),.one (.p (pi (ix [unit,(IntKind.i64.wrap (y16 - (1:Int)))] v2)))],[],[.agg [.p (pi y18.Num),.p (pi y18.Den)],.one (.p (pi y19))],[],True,fun _ => ok_aggregate_Estimate (ix [y5,y12,raw] v) (ix [y7,w,marks] v1) (ix [unit,(IntKind.i64.wrap (y16 - (1:Int)))] v2) (y18,y19) h_15,[]⟩]) (⟨263,mkS [(2,.x (.one (.p (.sl 3 (List.map enc_api_UnitMark marks))))),(3,.x (.one (.p (pi special)))),(4,.x (.one (.p (pi unit)))),(11,.x (.one (.ptr 1066 0))),(13,.x (.one (.p (.sl 3 (List.map enc_api_UnitMark y7))))),(14,.x (.one (.p (.sl 3 (List.map enc_api_UnitMark w))))),(17,.x (.one (.ptr 117 0))),(19,.x (.one (.p (.sl 3 (List.map enc_api_UnitMark (ix [y7,w,marks] v1)))))),(39,.x (.one (.p (pi (ix [unit,(IntKind.i64.wrap (y16 - (1:Int)))] v2))))),(40,.x (.one (.ptr 140 0))),(41,.x (.one (.p (pi y19)))),(120,.x (.agg [.p (.sl 3 (List.map enc_api_Unit y5.Units)),.p (.sl 1 (List.map encI y5.Bounds)),.p (pi y5.Max),.p (.sl 3 (List.map enc_api_Unit y12.Units)),.p (.sl 1 (List.map encI y12.Bounds)),.p (pi y12.Max),.p (.sl 3 (List.map enc_api_Unit raw.Units)),.p (.sl 1 (List.map encI raw.Bounds)),.p (pi raw.Max)])),(121,.x (.one (.p (pi v)))),(132,.x (.agg [.p (.sl 3 (List.map enc_api_UnitMark y7)),.p (.sl 3 (List.map enc_api_UnitMark w)),.p (.sl 3 (List.map enc_api_UnitMark marks))])),(133,.x (.one (.p (pi v1)))),(233,.x (.agg [.p (pi unit),.p (pi (IntKind.i64.wrap (y16 - (1:Int))))])),(234,.x (.one (.p (pi v2))))],mkH [(117,.var [.p (.sl 3 (List.map enc_api_Unit ((ix [y5,y12,raw] v).Units))),.p (.sl 1 (List.map encI ((ix [y5,y12,raw] v).Bounds))),.p (pi ((ix [y5,y12,raw] v).Max))]),(140,.var [.p (pi y18.Num),.p (pi y18.Den)]),(1066,.var [.p (.sl 1 (List.map encI y17.L)),.p (pi y17.At)])]⟩) ?_
                            replace H3:=bind_some H3
                            obtain ⟨⟨y20,y21⟩,h_16,H3⟩:=H3
                            try dsimp only at H3
                            refine lok_rt (Env.of E0 [⟨some 248,28,[.agg [.p (.sl 3 (List.map enc_api_Unit ((ix [y5,y12,raw] v).Units))),.p (.sl 1 (List.map encI ((ix [y5,y12,raw] v).Bounds))),.p (pi ((ix [y5,y12,raw] v).Max))],.one (.p (.sl 3 (List.map enc_api_UnitMark (ix [y7,w,marks] v1)))),.one (.p (pi (ix [unit,(IntKind.i64.wrap (y16 - (1:Int)))] v2)))],[],[.agg [.p (pi y20.Num),.p (pi y20.Den)],.one (.p (pi y21))],[],True,fun _ => ok_ref36_Estimate (ix [y5,y12,raw] v) (ix [y7,w,marks] v1) (ix [unit,(IntKind.i64.wrap (y16 - (1:Int)))] v2) (y20,y21) h_16,[]⟩]) (⟨263,mkS [(2,.x (.one (.p (.sl 3 (List.map enc_api_UnitMark marks))))),(3,.x (.one (.p (pi special)))),(4,.x (.one (.p (pi unit)))),(11,.x (.one (.ptr 1066 0))),(13,.x (.one (.p (.sl 3 (List.map enc_api_UnitMark y7))))),(14,.x (.one (.p (.sl 3 (List.map enc_api_UnitMark w))))),(17,.x (.one (.ptr 117 0))),(19,.x (.one (.p (.sl 3 (List.map enc_api_UnitMark (ix [y7,w,marks] v1)))))),(40,.x (.one (.ptr 140 0))),(41,.x (.one (.p (pi y19)))),(42,.x (.one (.ptr 142 0))),(43,.x (.one (.p (pi y21)))),(120,.x (.agg [.p (.sl 3 (List.map enc_api_Unit y5.Units)),.p (.sl 1 (List.map encI y5.Bounds)),.p (pi y5.Max),.p (.sl 3 (List.map enc_api_Unit y12.Units)),.p (.sl 1 (List.map encI y12.Bounds)),.p (pi y12.Max),.p (.sl 3 (List.map enc_api_Unit raw.Units)),.p (.sl 1 (List.map encI raw.Bounds)),.p (pi raw.Max)])),(121,.x (.one (.p (pi v)))),(132,.x (.agg [.p (.sl 3 (List.map enc_api_UnitMark y7)),.p (.sl 3 (List.map enc_api_UnitMark w)),.p (.sl 3 (List.map enc_api_UnitMark marks))])),(133,.x (.one (.p (pi v1)))),(233,.x (.agg [.p (pi unit),.p (pi (IntKind.i64.wrap (y16 - (1:Int))))])),(234,.x (.one (.p (pi v2))))],mkH [(117,.var [.p (.sl 3 (List.map enc_api_Unit ((ix [y5,y12,raw] v).Units))),.p (.sl 1 (List.map encI ((ix [y5,y12,raw] v).Bounds))),.p (pi ((ix [y5,y12,raw] v).Max))]),(140,.var [.p (pi y18.Num),.p (pi y18.Den)]),(142,.var [.p (pi y20.Num),.p (pi y20.Den)]),(1066,.var [.p (.sl 1 (List.map encI y17.L)),.p (pi y17.At)])]⟩) ?_
                            refine lok_rt E0 (⟨263,mkS [(2,.x (.one (.p (.sl 3 (List.map enc_api_UnitMark marks))))),(3,.x (.one (.p (pi special)))),(4,.x (.one (.p (pi unit)))),(11,.x (.one (.ptr 1066 0))),(13,.x (.one (.p (.sl 3 (List.map enc_api_UnitMark y7))))),(14,.x (.one (.p (.sl 3 (List.map enc_api_UnitMark w))))),(17,.x (.one (.ptr 117 0))),(19,.x (.one (.p (.sl 3 (List.map enc_api_UnitMark (ix [y7,w,marks] v1)))))),(120,.x (.agg [.p (.sl 3 (List.map enc_api_Unit y5.Units)),.p (.sl 1 (List.map encI y5.Bounds)),.p (pi y5.Max),.p (.sl 3 (List.map enc_api_Unit y12.Units)),.p (.sl 1 (List.map encI y12.Bounds)),.p (pi y12.Max),.p (.sl 3 (List.map enc_api_Unit raw.Units)),.p (.sl 1 (List.map encI raw.Bounds)),.p (pi raw.Max)])),(121,.x (.one (.p (pi v)))),(132,.x (.agg [.p (.sl 3 (List.map enc_api_UnitMark y7)),.p (.sl 3 (List.map enc_api_UnitMark w)),.p (.sl 3 (List.map enc_api_UnitMark marks))])),(133,.x (.one (.p (pi v1)))),(233,.x (.agg [.p (pi unit),.p (pi (IntKind.i64.wrap (y16 - (1:Int))))])),(234,.x (.one (.p (pi v2)))),(258,.x (.one (.p (.val (.bool ((!((y18.Num == y20.Num) && (y18.Den == y20.Den))) || (y19 != y21)))))))],mkH [(117,.var [.p (.sl 3 (List.map enc_api_Unit ((ix [y5,y12,raw] v).Units))),.p (.sl 1 (List.map encI ((ix [y5,y12,raw] v).Bounds))),.p (pi ((ix [y5,y12,raw] v).Max))]),(1066,.var [.p (.sl 1 (List.map encI y17.L)),.p (pi y17.At)])]⟩) ?_
                            refine lok_c ((!((y18.Num == y20.Num) && (y18.Den == y20.Den))) || (y19 != y21)) ?_ ?_
                            · intro b_17
                              replace H3:=cpos H3 b_17
                              refine lok_rt E0 (⟨263,mkS [(10,.x (.one (.p (.val (.bool false)))))],mkH []⟩) ?_
                              refine lok_ret ?_
                              try simp only [thenL,blockL,↓reduceIte,reduceCtorEq]
                              have e_3:=k_3 _ (Option.some.inj H3).symm
                              subst e_3
                              try dsimp only at H2
                              try simp only [thenL,blockL,↓reduceIte,reduceCtorEq]
                              have e_2:=k_2 _ (Option.some.inj H2).symm
                              subst e_2
                              try dsimp only at H1
                              try simp only [thenL,blockL,↓reduceIte,reduceCtorEq]
                              have e_1:=k_1 _ (Option.some.inj H1).symm
                              subst e_1
                              try dsimp only at H0
                              obtain rfl:=Option.some.inj H0
                              try simp only [thenL,blockL]
                              exact fin_au _ (.inr rfl) [] (⟨263,mkS [(10,.x (.one (.p (.val (.bool false)))))],mkH []⟩) rfl rfl imp_au
                            · intro b_17
                              replace H3:=cneg H3 b_17
                              refine lok_skip ?_
                              try simp only [thenL,blockL,↓reduceIte,reduceCtorEq]
                              refine lok_rl E0 (⟨263,mkS [(2,.x (.one (.p (.sl 3 (List.map enc_api_UnitMark marks))))),(3,.x (.one (.p (pi special)))),(4,.x (.one (.p (pi unit)))),(11,.x (.one (.ptr 1066 0))),(13,.x (.one (.p (.sl 3 (List.map enc_api_UnitMark y7))))),(14,.x (.one (.p (.sl 3 (List.map enc_api_UnitMark w))))),(17,.x (.one (.ptr 117 0))),(19,.x (.one (.p (.sl 3 (List.map enc_api_UnitMark (ix [y7,w,marks] v1)))))),(120,.x (.agg [.p (.sl 3 (List.map enc_api_Unit y5.Units)),.p (.sl 1 (List.map encI y5.Bounds)),.p (pi y5.Max),.p (.sl 3 (List.map enc_api_Unit y12.Units)),.p (.sl 1 (List.map encI y12.Bounds)),.p (pi y12.Max),.p (.sl 3 (List.map enc_api_Unit raw.Units)),.p (.sl 1 (List.map encI raw.Bounds)),.p (pi raw.Max)])),(121,.x (.one (.p (pi v)))),(132,.x (.agg [.p (.sl 3 (List.map enc_api_UnitMark y7)),.p (.sl 3 (List.map enc_api_UnitMark w)),.p (.sl 3 (List.map enc_api_UnitMark marks))])),(133,.x (.one (.p (pi v1)))),(233,.x (.agg [.p (pi unit),.p (pi (IntKind.i64.wrap (y16 - (1:Int))))])),(234,.x (.one (.p (pi (IntKind.i64.wrap (v2 + (1:Int)))))))],mkH [(117,.var [.p (.sl 3 (List.map enc_api_Unit ((ix [y5,y12,raw] v).Units))),.p (.sl 1 (List.map encI ((ix [y5,y12,raw] v).Bounds))),.p (pi ((ix [y5,y12,raw] v).Max))]),(1066,.var [.p (.sl 1 (List.map encI y17.L)),.p (pi y17.At)])]⟩) ?_
                              try simp only [thenL,blockL,↓reduceIte,reduceCtorEq]
                              exact ⟨(IntKind.i64.wrap (v2 + (1:Int))),(Option.some.inj H3).symm,imp_au⟩
                          · intro b_19
                            replace H3:=cneg H3 b_19
                            refine lok_exit ?_
                            try simp only [thenL,blockL,↓reduceIte,reduceCtorEq]
                            have e_3:=k_3 _ (Option.some.inj H3).symm
                            subst e_3
                            try dsimp only at H2
                            try simp only [thenL,blockL,↓reduceIte,reduceCtorEq]
                            exact ⟨(y17.L,y17.At),H2,imp_au⟩
                      case hxlaw36_AggregateExact_j5 =>
                        replace H2:=bind_some H2
                        obtain ⟨⟨y22,y23⟩,h_20,H2⟩:=H2
                        try dsimp only at H2
                        refine lok_rt (Env.of E0 [⟨some 139,16,[.one (.ptr 0 0),.one (.p (.sl 1 (List.map encI ([(0:Int),(20:Int),(50:Int),(51:Int)]))))],[.var [.p (.sl 1 (List.map encI w7)),.p (pi w8)]],[.one (.p (pi y22))],[some (.var [.p (.sl 1 (List.map encI y23.L)),.p (pi y23.At)])],True,fun _ => ok_mark_Dice_Pick (mark_Dice.mk w7 w8) ([(0:Int),(20:Int),(50:Int),(51:Int)]) (y22,y23) h_20,[]⟩]) (⟨263,mkS [(2,.x (.one (.p (.sl 3 (List.map enc_api_UnitMark marks))))),(3,.x (.one (.p (pi special)))),(4,.x (.one (.p (pi unit)))),(11,.x (.one (.ptr 1066 0))),(13,.x (.one (.p (.sl 3 (List.map enc_api_UnitMark y7))))),(14,.x (.one (.p (.sl 3 (List.map enc_api_UnitMark w))))),(17,.x (.one (.ptr 117 0))),(19,.x (.one (.p (.sl 3 (List.map enc_api_UnitMark (ix [y7,w,marks] v1)))))),(120,.x (.agg [.p (.sl 3 (List.map enc_api_Unit y5.Units)),.p (.sl 1 (List.map encI y5.Bounds)),.p (pi y5.Max),.p (.sl 3 (List.map enc_api_Unit y12.Units)),.p (.sl 1 (List.map encI y12.Bounds)),.p (pi y12.Max),.p (.sl 3 (List.map enc_api_Unit raw.Units)),.p (.sl 1 (List.map encI raw.Bounds)),.p (pi raw.Max)])),(121,.x (.one (.p (pi v)))),(132,.x (.agg [.p (.sl 3 (List.map enc_api_UnitMark y7)),.p (.sl 3 (List.map enc_api_UnitMark w)),.p (.sl 3 (List.map enc_api_UnitMark marks))])),(133,.x (.one (.p (pi v1)))),(140,.x (.agg [.p (pi special),.p (pi y22),.p (pi (0:Int))])),(141,.x (.one (.p (pi (0:Int)))))],mkH [(117,.var [.p (.sl 3 (List.map enc_api_Unit ((ix [y5,y12,raw] v).Units))),.p (.sl 1 (List.map encI ((ix [y5,y12,raw] v).Bounds))),.p (pi ((ix [y5,y12,raw] v).Max))]),(1066,.var [.p (.sl 1 (List.map encI y23.L)),.p (pi y23.At)])]⟩) ?_
                        refine lok_block ?_
                        replace H2:=bind_some H2
                        obtain ⟨v_21,hv_21,H2⟩:=H2
                        refine lok_iter (fun x_ => ⟨263,mkS [(2,.x (.one (.p (.sl 3 (List.map enc_api_UnitMark marks))))),(3,.x (.one (.p (pi special)))),(4,.x (.one (.p (pi unit)))),(11,.x (.one (.ptr 1066 0))),(13,.x (.one (.p (.sl 3 (List.map enc_api_UnitMark y7))))),(14,.x (.one (.p (.sl 3 (List.map enc_api_UnitMark w))))),(17,.x (.one (.ptr 117 0))),(19,.x (.one (.p (.sl 3 (List.map enc_api_UnitMark (ix [y7,w,marks] v1)))))),(120,.x (.agg [.p (.sl 3 (List.map enc_api_Unit y5.Units)),.p (.sl 1 (List.map encI y5.Bounds)),.p (pi y5.Max),.p (.sl 3 (List.map enc_api_Unit y12.Units)),.p (.sl 1 (List.map encI y12.Bounds)),.p (pi y12.Max),.p (.sl 3 (List.map enc_api_Unit raw.Units)),.p (.sl 1 (List.map encI raw.Bounds)),.p (pi raw.Max)])),(121,.x (.one (.p (pi v)))),(132,.x (.agg [.p (.sl 3 (List.map enc_api_UnitMark y7)),.p (.sl 3 (List.map enc_api_UnitMark w)),.p (.sl 3 (List.map enc_api_UnitMark marks))])),(133,.x (.one (.p (pi v1)))),(140,.x (.agg [.p (pi special),.p (pi y22),.p (pi (0:Int))])),(141,.x (.one (.p (pi x_))))],mkH [(117,.var [.p (.sl 3 (List.map enc_api_Unit ((ix [y5,y12,raw] v).Units))),.p (.sl 1 (List.map encI ((ix [y5,y12,raw] v).Bounds))),.p (pi ((ix [y5,y12,raw] v).Max))]),(1066,.var [.p (.sl 1 (List.map encI y23.L)),.p (pi y23.At)])]⟩) hv_21 imp_au ?_
                        · rintro v3 o_3 H3 k_3
                          unfold law36_AggregateExact_l6 at H3
                          try dsimp only at H3 ⊢
                          refine lok_rt E0 (⟨263,mkS [(2,.x (.one (.p (.sl 3 (List.map enc_api_UnitMark marks))))),(3,.x (.one (.p (pi special)))),(4,.x (.one (.p (pi unit)))),(11,.x (.one (.ptr 1066 0))),(13,.x (.one (.p (.sl 3 (List.map enc_api_UnitMark y7))))),(14,.x (.one (.p (.sl 3 (List.map enc_api_UnitMark w))))),(17,.x (.one (.ptr 117 0))),(19,.x (.one (.p (.sl 3 (List.map enc_api_UnitMark (ix [y7,w,marks] v1)))))),(120,.x (.agg [.p (.sl 3 (List.map enc_api_Unit y5.Units)),.p (.sl 1 (List.map encI y5.Bounds)),.p (pi y5.Max),.p (.sl 3 (List.map enc_api_Unit y12.Units)),.p (.sl 1 (List.map encI y12.Bounds)),.p (pi y12.Max),.p (.sl 3 (List.map enc_api_Unit raw.Units)),.p (.sl 1 (List.map encI raw.Bounds)),.p (pi raw.Max)])),(121,.x (.one (.p (pi v)))),(132,.x (.agg [.p (.sl 3 (List.map enc_api_UnitMark y7)),.p (.sl 3 (List.map enc_api_UnitMark w)),.p (.sl 3 (List.map enc_api_UnitMark marks))])),(133,.x (.one (.p (pi v1)))),(140,.x (.agg [.p (pi special),.p (pi y22),.p (pi (0:Int))])),(141,.x (.one (.p (pi v3)))),(142,.x (.one (.p (.val (.bool (decide (v3 < (3:Int))))))))],mkH [(117,.var [.p (.sl 3 (List.map enc_api_Unit ((ix [y5,y12,raw] v).Units))),.p (.sl 1 (List.map encI ((ix [y5,y12,raw] v).Bounds))),.p (pi ((ix [y5,y12,raw] v).Max))]),(1066,.var [.p (.sl 1 (List.map encI y23.L)),.p (pi y23.At)])]⟩) ?_
                          refine lok_seq ?_
                          refine lok_c (decide (v3 < (3:Int))) ?_ ?_
                          · intro b_30
                            replace H3:=cpos H3 b_30
                            refine lok_skip ?_
                            try simp only [thenL,blockL,↓reduceIte,reduceCtorEq]
                            refine lok_seq ?_
                            refine lok_block ?_
                            replace H3:=req_some H3
                            obtain ⟨q_29,H3⟩:=H3
                            refine lok_rt E0 (⟨263,mkS [(2,.x (.one (.p (.sl 3 (List.map enc_api_UnitMark marks))))),(3,.x (.one (.p (pi special)))),(4,.x (.one (.p (pi unit)))),(11,.x (.one (.ptr 1066 0))),(13,.x (.one (.p (.sl 3 (List.map enc_api_UnitMark y7))))),(14,.x (.one (.p (.sl 3 (List.map enc_api_UnitMark w))))),(17,.x (.one (.ptr 117 0))),(19,.x (.one (.p (.sl 3 (List.map enc_api_UnitMark (ix [y7,w,marks] v1)))))),(21,.x (.one (.p (pi (ix [special,y22,(0:Int)] v3))))),(120,.x (.agg [.p (.sl 3 (List.map enc_api_Unit y5.Units)),.p (.sl 1 (List.map encI y5.Bounds)),.p (pi y5.Max),.p (.sl 3 (List.map enc_api_Unit y12.Units)),.p (.sl 1 (List.map encI y12.Bounds)),.p (pi y12.Max),.p (.sl 3 (List.map enc_api_Unit raw.Units)),.p (.sl 1 (List.map encI raw.Bounds)),.p (pi raw.Max)])),(121,.x (.one (.p (pi v)))),(132,.x (.agg [.p (.sl 3 (List.map enc_api_UnitMark y7)),.p (.sl 3 (List.map enc_api_UnitMark w)),.p (.sl 3 (List.map enc_api_UnitMark marks))])),(133,.x (.one (.p (pi v1)))),(140,.x (.agg [.p (pi special),.p (pi y22),.p (pi (0:Int))])),(141,.x (.one (.p (pi v3))))],mkH [(117,.var [.p (.sl 3 (List.map enc_api_Unit ((ix [y5,y12,raw] v).Units))),.p (.sl 1 (List.map encI ((ix [y5,y12,raw] v).Bounds))),.p (pi ((ix [y5,y12,raw] v).Max))]),(1066,.var [.p (.sl 1 (List.map encI y23.L)),.p (pi y23.At)])]⟩) ?_
                            replace H3:=bind_some H3
                            obtain ⟨⟨y24,y25⟩,h_22,H3⟩:=H3
                            try dsimp only at H3
                            refine lok_rt (Env.of E0 [⟨some 148,21,[.agg [.p (.sl 3 (List.map enc_api_Unit ((ix [y5,y12,raw] v).Units))),.p (.sl 1 (List.map encI ((ix [y5,y12,raw] v).Bounds))),.p (pi ((ix [y5,y12,raw] v).Max))],.one (.p (.sl 3 (List.map enc_api_UnitMark (ix [y7,w,marks] v1)))),.one (.p (pi (ix [special,y22,(0:Int)] v3)))],[],[.agg [.p (pi y24.Num),.p (pi y24.Den)],.one (.p (pi y25))],[],True,fun _ => ok_aggregate_Exact (ix [y5,y12,raw] v) (ix [y7,w,marks] v1) (ix [special,y22,(0:Int)] v3) (y24,y25) h_22,[]⟩]) (⟨263,mkS [(2,.x (.one (.p (.sl 3 (List.map enc_api_UnitMark marks))))),(3,.x (.one (.p (pi special)))),(4,.x (.one (.p (pi unit)))),(11,.x (.one (.ptr 1066 0))),(13,.x (.one (.p (.sl 3 (List.map enc_api_UnitMark y7))))),(14,.x (.one (.p (.sl 3 (List.map enc_api_UnitMark w))))),(17,.x (.one (.ptr 117 0))),(19,.x (.one (.p (.sl 3 (List.map enc_api_UnitMark (ix [y7,w,marks] v1)))))),(21,.x (.one (.p (pi (ix [special,y22,(0:Int)] v3))))),(22,.x (.one (.ptr 122 0))),(23,.x (.one (.p (pi y25)))),(120,.x (.agg [.p (.sl 3 (List.map enc_api_Unit y5.Units)),.p (.sl 1 (List.map encI y5.Bounds)),.p (pi y5.Max),.p (.sl 3 (List.map enc_api_Unit y12.Units)),.p (.sl 1 (List.map encI y12.Bounds)),.p (pi y12.Max),.p (.sl 3 (List.map enc_api_Unit raw.Units)),.p (.sl 1 (List.map encI raw.Bounds)),.p (pi raw.Max)])),(121,.x (.one (.p (pi v)))),(132,.x (.agg [.p (.sl 3 (List.map enc_api_UnitMark y7)),.p (.sl 3 (List.map enc_api_UnitMark w)),.p (.sl 3 (List.map enc_api_UnitMark marks))])),(133,.x (.one (.p (pi v1)))),(140,.x (.agg [.p (pi special),.p (pi y22),.p (pi (0:Int))])),(141,.x (.one (.p (pi v3))))],mkH [(117,.var [.p (.sl 3 (List.map enc_api_Unit ((ix [y5,y12,raw] v).Units))),.p (.sl 1 (List.map encI ((ix [y5,y12,raw] v).Bounds))),.p (pi ((ix [y5,y12,raw] v).Max))]),(122,.var [.p (pi y24.Num),.p (pi y24.Den)]),(1066,.var [.p (.sl 1 (List.map encI y23.L)),.p (pi y23.At)])]⟩) ?_
                            replace H3:=bind_some H3
                            obtain ⟨⟨y26,y27⟩,h_23,H3⟩:=H3
                            try dsimp only at H3
                            refine lok_rt (Env.of E0 [⟨some 155,22,[.agg [.p (.sl 3 (List.map enc_api_Unit ((ix [y5,y12,raw] v).Units))),.p (.sl 1 (List.map encI ((ix [y5,y12,raw] v).Bounds))),.p (pi ((ix [y5,y12,raw] v).Max))],.one (.p (.sl 3 (List.map enc_api_UnitMark (ix [y7,w,marks] v1)))),.one (.p (pi (ix [special,y22,(0:Int)] v3)))],[],[.agg [.p (pi y26.Num),.p (pi y26.Den)],.one (.p (pi y27))],[],True,fun _ => ok_ref36_Exact (ix [y5,y12,raw] v) (ix [y7,w,marks] v1) (ix [special,y22,(0:Int)] v3) (y26,y27) h_23,[]⟩]) (⟨263,mkS [(2,.x (.one (.p (.sl 3 (List.map enc_api_UnitMark marks))))),(3,.x (.one (.p (pi special)))),(4,.x (.one (.p (pi unit)))),(11,.x (.one (.ptr 1066 0))),(13,.x (.one (.p (.sl 3 (List.map enc_api_UnitMark y7))))),(14,.x (.one (.p (.sl 3 (List.map enc_api_UnitMark w))))),(17,.x (.one (.ptr 117 0))),(19,.x (.one (.p (.sl 3 (List.map enc_api_UnitMark (ix [y7,w,marks] v1)))))),(21,.x (.one (.p (pi (ix [special,y22,(0:Int)] v3))))),(22,.x (.one (.ptr 122 0))),(23,.x (.one (.p (pi y25)))),(24,.x (.one (.ptr 124 0))),(25,.x (.one (.p (pi y27)))),(120,.x (.agg [.p (.sl 3 (List.map enc_api_Unit y5.Units)),.p (.sl 1 (List.map encI y5.Bounds)),.p (pi y5.Max),.p (.sl 3 (List.map enc_api_Unit y12.Units)),.p (.sl 1 (List.map encI y12.Bounds)),.p (pi y12.Max),.p (.sl 3 (List.map enc_api_Unit raw.Units)),.p (.sl 1 (List.map encI raw.Bounds)),.p (pi raw.Max)])),(121,.x (.one (.p (pi v)))),(132,.x (.agg [.p (.sl 3 (List.map enc_api_UnitMark y7)),.p (.sl 3 (List.map enc_api_UnitMark w)),.p (.sl 3 (List.map enc_api_UnitMark marks))])),(133,.x (.one (.p (pi v1)))),(140,.x (.agg [.p (pi special),.p (pi y22),.p (pi (0:Int))])),(141,.x (.one (.p (pi v3))))],mkH [(117,.var [.p (.sl 3 (List.map enc_api_Unit ((ix [y5,y12,raw] v).Units))),.p (.sl 1 (List.map encI ((ix [y5,y12,raw] v).Bounds))),.p (pi ((ix [y5,y12,raw] v).Max))]),(122,.var [.p (pi y24.Num),.p (pi y24.Den)]),(124,.var [.p (pi y26.Num),.p (pi y26.Den)]),(1066,.var [.p (.sl 1 (List.map encI y23.L)),.p (pi y23.At)])]⟩) ?_
                            replace H3:=bind_some H3
                            obtain ⟨⟨y28,y29⟩,h_24,H3⟩:=H3
                            try dsimp only at H3
                            refine lok_rt (Env.of E0 [⟨some 162,23,[.agg [.p (.sl 3 (List.map enc_api_Unit ((ix [y5,y12,raw] v).Units))),.p (.sl 1 (List.map encI ((ix [y5,y12,raw] v).Bounds))),.p (pi ((ix [y5,y12,raw] v).Max))],.one (.p (.sl 3 (List.map enc_api_UnitMark (ix [y7,w,marks] v1)))),.one (.p (pi (ix [special,y22,(0:Int)] v3)))],[],[.one (.p (pi y28)),.one (.p (pi y29))],[],True,fun _ => ok_aggregate_Total (ix [y5,y12,raw] v) (ix [y7,w,marks] v1) (ix [special,y22,(0:Int)] v3) (y28,y29) h_24,[]⟩]) (⟨263,mkS [(2,.x (.one (.p (.sl 3 (List.map enc_api_UnitMark marks))))),(3,.x (.one (.p (pi special)))),(4,.x (.one (.p (pi unit)))),(11,.x (.one (.ptr 1066 0))),(13,.x (.one (.p (.sl 3 (List.map enc_api_UnitMark y7))))),(14,.x (.one (.p (.sl 3 (List.map enc_api_UnitMark w))))),(17,.x (.one (.ptr 117 0))),(19,.x (.one (.p (.sl 3 (List.map enc_api_UnitMark (ix [y7,w,marks] v1)))))),(21,.x (.one (.p (pi (ix [special,y22,(0:Int)] v3))))),(22,.x (.one (.ptr 122 0))),(23,.x (.one (.p (pi y25)))),(24,.x (.one (.ptr 124 0))),(25,.x (.one (.p (pi y27)))),(26,.x (.one (.p (pi y28)))),(27,.x (.one (.p (pi y29)))),(120,.x (.agg [.p (.sl 3 (List.map enc_api_Unit y5.Units)),.p (.sl 1 (List.map encI y5.Bounds)),.p (pi y5.Max),.p (.sl 3 (List.map enc_api_Unit y12.Units)),.p (.sl 1 (List.map encI y12.Bounds)),.p (pi y12.Max),.p (.sl 3 (List.map enc_api_Unit raw.Units)),.p (.sl 1 (List.map encI raw.Bounds)),.p (pi raw.Max)])),(121,.x (.one (.p (pi v)))),(132,.x (.agg [.p (.sl 3 (List.map enc_api_UnitMark y7)),.p (.sl 3 (List.map enc_api_UnitMark w)),.p (.sl 3 (List.map enc_api_UnitMark marks))])),(133,.x (.one (.p (pi v1)))),(140,.x (.agg [.p (pi special),.p (pi y22),.p (pi (0:Int))])),(141,.x (.one (.p (pi v3))))],mkH [(117,.var [.p (.sl 3 (List.map enc_api_Unit ((ix [y5,y12,raw] v).Units))),.p (.sl 1 (List.map encI ((ix [y5,y12,raw] v).Bounds))),.p (pi ((ix [y5,y12,raw] v).Max))]),(122,.var [.p (pi y24.Num),.p (pi y24.Den)]),(124,.var [.p (pi y26.Num),.p (pi y26.Den)]),(1066,.var [.p (.sl 1 (List.map encI y23.L)),.p (pi y23.At)])]⟩) ?_
                            replace H3:=bind_some H3
                            obtain ⟨⟨y30,y31⟩,h_25,H3⟩:=H3
                            try dsimp only at H3
                            refine lok_rt (Env.of E0 [⟨some 169,24,[.agg [.p (.sl 3 (List.map enc_api_Unit ((ix [y5,y12,raw] v).Units))),.p (.sl 1 (List.map encI ((ix [y5,y12,raw] v).Bounds))),.p (pi ((ix [y5,y12,raw] v).Max))],.one (.p (.sl 3 (List.map enc_api_UnitMark (ix [y7,w,marks] v1)))),.one (.p (pi (ix [special,y22,(0:Int)] v3)))],[],[.one (.p (pi y30)),.one (.p (pi y31))],[],True,fun _ => ok_ref36_Total (ix [y5,y12,raw] v) (ix [y7,w,marks] v1) (ix [special,y22,(0:Int)] v3) (y30,y31) h_25,[]⟩]) (⟨263,mkS [(2,.x (.one (.p (.sl 3 (List.map enc_api_UnitMark marks))))),(3,.x (.one (.p (pi special)))),(4,.x (.one (.p (pi unit)))),(11,.x (.one (.ptr 1066 0))),(13,.x (.one (.p (.sl 3 (List.map enc_api_UnitMark y7))))),(14,.x (.one (.p (.sl 3 (List.map enc_api_UnitMark w))))),(17,.x (.one (.ptr 117 0))),(19,.x (.one (.p (.sl 3 (List.map enc_api_UnitMark (ix [y7,w,marks] v1)))))),(21,.x (.one (.p (pi (ix [special,y22,(0:Int)] v3))))),(22,.x (.one (.ptr 122 0))),(23,.x (.one (.p (pi y25)))),(24,.x (.one (.ptr 124 0))),(25,.x (.one (.p (pi y27)))),(26,.x (.one (.p (pi y28)))),(27,.x (.one (.p (pi y29)))),(28,.x (.one (.p (pi y30)))),(29,.x (.one (.p (pi y31)))),(120,.x (.agg [.p (.sl 3 (List.map enc_api_Unit y5.Units)),.p (.sl 1 (List.map encI y5.Bounds)),.p (pi y5.Max),.p (.sl 3 (List.map enc_api_Unit y12.Units)),.p (.sl 1 (List.map encI y12.Bounds)),.p (pi y12.Max),.p (.sl 3 (List.map enc_api_Unit raw.Units)),.p (.sl 1 (List.map encI raw.Bounds)),.p (pi raw.Max)])),(121,.x (.one (.p (pi v)))),(132,.x (.agg [.p (.sl 3 (List.map enc_api_UnitMark y7)),.p (.sl 3 (List.map enc_api_UnitMark w)),.p (.sl 3 (List.map enc_api_UnitMark marks))])),(133,.x (.one (.p (pi v1)))),(140,.x (.agg [.p (pi special),.p (pi y22),.p (pi (0:Int))])),(141,.x (.one (.p (pi v3))))],mkH [(117,.var [.p (.sl 3 (List.map enc_api_Unit ((ix [y5,y12,raw] v).Units))),.p (.sl 1 (List.map encI ((ix [y5,y12,raw] v).Bounds))),.p (pi ((ix [y5,y12,raw] v).Max))]),(122,.var [.p (pi y24.Num),.p (pi y24.Den)]),(124,.var [.p (pi y26.Num),.p (pi y26.Den)]),(1066,.var [.p (.sl 1 (List.map encI y23.L)),.p (pi y23.At)])]⟩) ?_
                            replace H3:=bind_some H3
                            obtain ⟨⟨y32,y33,y34,y35⟩,h_26,H3⟩:=H3
                            try dsimp only at H3
                            refine lok_rt (Env.of E0 [⟨some 176,25,[.agg [.p (.sl 3 (List.map enc_api_Unit ((ix [y5,y12,raw] v).Units))),.p (.sl 1 (List.map encI ((ix [y5,y12,raw] v).Bounds))),.p (pi ((ix [y5,y12,raw] v).Max))],.one (.p (.sl 3 (List.map enc_api_UnitMark (ix [y7,w,marks] v1)))),.one (.p (pi (ix [special,y22,(0:Int)] v3)))],[],[.one (.p (pi y32)),.one (.p (pi y33)),.one (.p (pi y34)),.one (.p (pi y35))],[],True,fun _ => ok_aggregate_Decide (ix [y5,y12,raw] v) (ix [y7,w,marks] v1) (ix [special,y22,(0:Int)] v3) (y32,y33,y34,y35) h_26,[]⟩]) (⟨263,mkS [(2,.x (.one (.p (.sl 3 (List.map enc_api_UnitMark marks))))),(3,.x (.one (.p (pi special)))),(4,.x (.one (.p (pi unit)))),(11,.x (.one (.ptr 1066 0))),(13,.x (.one (.p (.sl 3 (List.map enc_api_UnitMark y7))))),(14,.x (.one (.p (.sl 3 (List.map enc_api_UnitMark w))))),(17,.x (.one (.ptr 117 0))),(19,.x (.one (.p (.sl 3 (List.map enc_api_UnitMark (ix [y7,w,marks] v1)))))),(21,.x (.one (.p (pi (ix [special,y22,(0:Int)] v3))))),(22,.x (.one (.ptr 122 0))),(23,.x (.one (.p (pi y25)))),(24,.x (.one (.ptr 124 0))),(25,.x (.one (.p (pi y27)))),(26,.x (.one (.p (pi y28)))),(27,.x (.one (.p (pi y29)))),(28,.x (.one (.p (pi y30)))),(29,.x (.one (.p (pi y31)))),(30,.x (.one (.p (pi y32)))),(31,.x (.one (.p (pi y33)))),(32,.x (.one (.p (pi y34)))),(33,.x (.one (.p (pi y35)))),(120,.x (.agg [.p (.sl 3 (List.map enc_api_Unit y5.Units)),.p (.sl 1 (List.map encI y5.Bounds)),.p (pi y5.Max),.p (.sl 3 (List.map enc_api_Unit y12.Units)),.p (.sl 1 (List.map encI y12.Bounds)),.p (pi y12.Max),.p (.sl 3 (List.map enc_api_Unit raw.Units)),.p (.sl 1 (List.map encI raw.Bounds)),.p (pi raw.Max)])),(121,.x (.one (.p (pi v)))),(132,.x (.agg [.p (.sl 3 (List.map enc_api_UnitMark y7)),.p (.sl 3 (List.map enc_api_UnitMark w)),.p (.sl 3 (List.map enc_api_UnitMark marks))])),(133,.x (.one (.p (pi v1)))),(140,.x (.agg [.p (pi special),.p (pi y22),.p (pi (0:Int))])),(141,.x (.one (.p (pi v3))))],mkH [(117,.var [.p (.sl 3 (List.map enc_api_Unit ((ix [y5,y12,raw] v).Units))),.p (.sl 1 (List.map encI ((ix [y5,y12,raw] v).Bounds))),.p (pi ((ix [y5,y12,raw] v).Max))]),(122,.var [.p (pi y24.Num),.p (pi y24.Den)]),(124,.var [.p (pi y26.Num),.p (pi y26.Den)]),(1066,.var [.p (.sl 1 (List.map encI y23.L)),.p (pi y23.At)])]⟩) ?_
                            replace H3:=bind_some H3
                            obtain ⟨⟨y36,y37,y38,y39⟩,h_27,H3⟩:=H3
                            try dsimp only at H3
                            refine lok_rt (Env.of E0 [⟨some 185,26,[.agg [.p (.sl 3 (List.map enc_api_Unit ((ix [y5,y12,raw] v).Units))),.p (.sl 1 (List.map encI ((ix [y5,y12,raw] v).Bounds))),.p (pi ((ix [y5,y12,raw] v).Max))],.one (.p (.sl 3 (List.map enc_api_UnitMark (ix [y7,w,marks] v1)))),.one (.p (pi (ix [special,y22,(0:Int)] v3)))],[],[.one (.p (pi y36)),.one (.p (pi y37)),.one (.p (pi y38)),.one (.p (pi y39))],[],True,fun _ => ok_ref36_Decide (ix [y5,y12,raw] v) (ix [y7,w,marks] v1) (ix [special,y22,(0:Int)] v3) (y36,y37,y38,y39) h_27,[]⟩]) (⟨263,mkS [(2,.x (.one (.p (.sl 3 (List.map enc_api_UnitMark marks))))),(3,.x (.one (.p (pi special)))),(4,.x (.one (.p (pi unit)))),(11,.x (.one (.ptr 1066 0))),(13,.x (.one (.p (.sl 3 (List.map enc_api_UnitMark y7))))),(14,.x (.one (.p (.sl 3 (List.map enc_api_UnitMark w))))),(17,.x (.one (.ptr 117 0))),(19,.x (.one (.p (.sl 3 (List.map enc_api_UnitMark (ix [y7,w,marks] v1)))))),(22,.x (.one (.ptr 122 0))),(23,.x (.one (.p (pi y25)))),(24,.x (.one (.ptr 124 0))),(25,.x (.one (.p (pi y27)))),(26,.x (.one (.p (pi y28)))),(27,.x (.one (.p (pi y29)))),(28,.x (.one (.p (pi y30)))),(29,.x (.one (.p (pi y31)))),(30,.x (.one (.p (pi y32)))),(31,.x (.one (.p (pi y33)))),(32,.x (.one (.p (pi y34)))),(33,.x (.one (.p (pi y35)))),(34,.x (.one (.p (pi y36)))),(35,.x (.one (.p (pi y37)))),(36,.x (.one (.p (pi y38)))),(37,.x (.one (.p (pi y39)))),(120,.x (.agg [.p (.sl 3 (List.map enc_api_Unit y5.Units)),.p (.sl 1 (List.map encI y5.Bounds)),.p (pi y5.Max),.p (.sl 3 (List.map enc_api_Unit y12.Units)),.p (.sl 1 (List.map encI y12.Bounds)),.p (pi y12.Max),.p (.sl 3 (List.map enc_api_Unit raw.Units)),.p (.sl 1 (List.map encI raw.Bounds)),.p (pi raw.Max)])),(121,.x (.one (.p (pi v)))),(132,.x (.agg [.p (.sl 3 (List.map enc_api_UnitMark y7)),.p (.sl 3 (List.map enc_api_UnitMark w)),.p (.sl 3 (List.map enc_api_UnitMark marks))])),(133,.x (.one (.p (pi v1)))),(140,.x (.agg [.p (pi special),.p (pi y22),.p (pi (0:Int))])),(141,.x (.one (.p (pi v3))))],mkH [(117,.var [.p (.sl 3 (List.map enc_api_Unit ((ix [y5,y12,raw] v).Units))),.p (.sl 1 (List.map encI ((ix [y5,y12,raw] v).Bounds))),.p (pi ((ix [y5,y12,raw] v).Max))]),(122,.var [.p (pi y24.Num),.p (pi y24.Den)]),(124,.var [.p (pi y26.Num),.p (pi y26.Den)]),(1066,.var [.p (.sl 1 (List.map encI y23.L)),.p (pi y23.At)])]⟩) ?_
                            refine lok_rt E0 (⟨263,mkS [(2,.x (.one (.p (.sl 3 (List.map enc_api_UnitMark marks))))),(3,.x (.one (.p (pi special)))),(4,.x (.one (.p (pi unit)))),(11,.x (.one (.ptr 1066 0))),(13,.x (.one (.p (.sl 3 (List.map enc_api_UnitMark y7))))),(14,.x (.one (.p (.sl 3 (List.map enc_api_UnitMark w))))),(17,.x (.one (.ptr 117 0))),(19,.x (.one (.p (.sl 3 (List.map enc_api_UnitMark (ix [y7,w,marks] v1)))))),(120,.x (.agg [.p (.sl 3 (List.map enc_api_Unit y5.Units)),.p (.sl 1 (List.map encI y5.Bounds)),.p (pi y5.Max),.p (.sl 3 (List.map enc_api_Unit y12.Units)),.p (.sl 1 (List.map encI y12.Bounds)),.p (pi y12.Max),.p (.sl 3 (List.map enc_api_Unit raw.Units)),.p (.sl 1 (List.map encI raw.Bounds)),.p (pi raw.Max)])),(121,.x (.one (.p (pi v)))),(132,.x (.agg [.p (.sl 3 (List.map enc_api_UnitMark y7)),.p (.sl 3 (List.map enc_api_UnitMark w)),.p (.sl 3 (List.map enc_api_UnitMark marks))])),(133,.x (.one (.p (pi v1)))),(140,.x (.agg [.p (pi special),.p (pi y22),.p (pi (0:Int))])),(141,.x (.one (.p (pi v3)))),(227,.x (.one (.p (.val (.bool ((((((((!((y24.Num == y26.Num) && (y24.Den == y26.Den))) || (y25 != y27)) || (y28 != y30)) || (y29 != y31)) || (y32 != y36)) || (y33 != y37)) || (y34 != y38)) || (y35 != y39)))))))],mkH [(117,.var [.p (.sl 3 (List.map enc_api_Unit ((ix [y5,y12,raw] v).Units))),.p (.sl 1 (List.map encI ((ix [y5,y12,raw] v).Bounds))),.p (pi ((ix [y5,y12,raw] v).Max))]),(1066,.var [.p (.sl 1 (List.map encI y23.L)),.p (pi y23.At)])]⟩) ?_
                            refine lok_c ((((((((!((y24.Num == y26.Num) && (y24.Den == y26.Den))) || (y25 != y27)) || (y28 != y30)) || (y29 != y31)) || (y32 != y36)) || (y33 != y37)) || (y34 != y38)) || (y35 != y39)) ?_ ?_
                            · intro b_28
                              replace H3:=cpos H3 b_28
                              refine lok_rt E0 (⟨263,mkS [(10,.x (.one (.p (.val (.bool false)))))],mkH []⟩) ?_
                              refine lok_ret ?_
                              try simp only [thenL,blockL,↓reduceIte,reduceCtorEq]
                              have e_3:=k_3 _ (Option.some.inj H3).symm
                              subst e_3
                              try dsimp only at H2
                              try simp only [thenL,blockL,↓reduceIte,reduceCtorEq]
                              have e_2:=k_2 _ (Option.some.inj H2).symm
                              subst e_2
                              try dsimp only at H1
                              try simp only [thenL,blockL,↓reduceIte,reduceCtorEq]
                              have e_1:=k_1 _ (Option.some.inj H1).symm
                              subst e_1
                              try dsimp only at H0
                              obtain rfl:=Option.some.inj H0
                              try simp only [thenL,blockL]
                              exact fin_au _ (.inr rfl) [] (⟨263,mkS [(10,.x (.one (.p (.val (.bool false)))))],mkH []⟩) rfl rfl imp_au
                            · intro b_28
                              replace H3:=cneg H3 b_28
                              refine lok_skip ?_
                              try simp only [thenL,blockL,↓reduceIte,reduceCtorEq]
                              refine lok_rl E0 (⟨263,mkS [(2,.x (.one (.p (.sl 3 (List.map enc_api_UnitMark marks))))),(3,.x (.one (.p (pi special)))),(4,.x (.one (.p (pi unit)))),(11,.x (.one (.ptr 1066 0))),(13,.x (.one (.p (.sl 3 (List.map enc_api_UnitMark y7))))),(14,.x (.one (.p (.sl 3 (List.map enc_api_UnitMark w))))),(17,.x (.one (.ptr 117 0))),(19,.x (.one (.p (.sl 3 (List.map enc_api_UnitMark (ix [y7,w,marks] v1)))))),(120,.x (.agg [.p (.sl 3 (List.map enc_api_Unit y5.Units)),.p (.sl 1 (List.map encI y5.Bounds)),.p (pi y5.Max),.p (.sl 3 (List.map enc_api_Unit y12.Units)),.p (.sl 1 (List.map encI y12.Bounds)),.p (pi y12.Max),.p (.sl 3 (List.map enc_api_Unit raw.Units)),.p (.sl 1 (List.map encI raw.Bounds)),.p (pi raw.Max)])),(121,.x (.one (.p (pi v)))),(132,.x (.agg [.p (.sl 3 (List.map enc_api_UnitMark y7)),.p (.sl 3 (List.map enc_api_UnitMark w)),.p (.sl 3 (List.map enc_api_UnitMark marks))])),(133,.x (.one (.p (pi v1)))),(140,.x (.agg [.p (pi special),.p (pi y22),.p (pi (0:Int))])),(141,.x (.one (.p (pi (IntKind.i64.wrap (v3 + (1:Int)))))))],mkH [(117,.var [.p (.sl 3 (List.map enc_api_Unit ((ix [y5,y12,raw] v).Units))),.p (.sl 1 (List.map encI ((ix [y5,y12,raw] v).Bounds))),.p (pi ((ix [y5,y12,raw] v).Max))]),(1066,.var [.p (.sl 1 (List.map encI y23.L)),.p (pi y23.At)])]⟩) ?_
                              try simp only [thenL,blockL,↓reduceIte,reduceCtorEq]
                              exact ⟨(IntKind.i64.wrap (v3 + (1:Int))),(Option.some.inj H3).symm,imp_au⟩
                          · intro b_30
                            replace H3:=cneg H3 b_30
                            refine lok_exit ?_
                            try simp only [thenL,blockL,↓reduceIte,reduceCtorEq]
                            have e_3:=k_3 _ (Option.some.inj H3).symm
                            subst e_3
                            try dsimp only at H2
                            try simp only [thenL,blockL,↓reduceIte,reduceCtorEq]
                            exact ⟨(y23.L,y23.At),H2,imp_au⟩
                  · intro b_32
                    replace H2:=cneg H2 b_32
                    refine lok_exit ?_
                    try simp only [thenL,blockL,↓reduceIte,reduceCtorEq]
                    have e_2:=k_2 _ (Option.some.inj H2).symm
                    subst e_2
                    try dsimp only at H1
                    try simp only [thenL,blockL,↓reduceIte,reduceCtorEq]
                    exact ⟨(w7,w8),H1,imp_au⟩
          · intro b_35
            replace H1:=cneg H1 b_35
            refine lok_exit ?_
            try simp only [thenL,blockL,↓reduceIte,reduceCtorEq]
            have e_1:=k_1 _ (Option.some.inj H1).symm
            subst e_1
            try dsimp only at H0
            try simp only [thenL,blockL,↓reduceIte,reduceCtorEq]
            exact ⟨(),H0,imp_au⟩
    case hxlaw36_AggregateExact_j9 =>
      replace H0:=bind_some H0
      obtain ⟨⟨y40,y41⟩,h_36,H0⟩:=H0
      try dsimp only at H0
      refine lok_rt (Env.of E0 [⟨some 84,14,[.one (.ptr 0 0),.one (.p (pi (4:Int)))],[.var [.p (.sl 1 (List.map encI y10.L)),.p (pi y10.At)]],[.one (.p (pi y40))],[some (.var [.p (.sl 1 (List.map encI y41.L)),.p (pi y41.At)])],True,fun _ => ok_mark_Dice_Next y10 (4:Int) (y40,y41) h_36,[]⟩]) (⟨263,mkS [(2,.x (.one (.p (.sl 3 (List.map enc_api_UnitMark marks))))),(3,.x (.one (.p (pi special)))),(4,.x (.one (.p (pi unit)))),(6,.x (.one (.ptr 106 0))),(11,.x (.one (.ptr 1066 0))),(12,.x (.one (.ptr 112 0))),(13,.x (.one (.p (.sl 3 (List.map enc_api_UnitMark y7))))),(14,.x (.one (.vw 176))),(15,.x (.one (.ap 176 (y9.toNat) 0))),(84,.x (.one (.p (pi y40))))],mkH [(106,.var [.p (.sl 3 (List.map enc_api_Unit raw.Units)),.p (.sl 1 (List.map encI raw.Bounds)),.p (pi raw.Max)]),(112,.var [.p (.sl 3 (List.map enc_api_Unit y5.Units)),.p (.sl 1 (List.map encI y5.Bounds)),.p (pi y5.Max)]),(176,.arr 3 (List.map enc_api_UnitMark y7)),(1066,.var [.p (.sl 1 (List.map encI y41.L)),.p (pi y41.At)])]⟩) ?_
      refine lok_block ?_
      refine lok_rt E0 (⟨263,mkS [(2,.x (.one (.p (.sl 3 (List.map enc_api_UnitMark marks))))),(3,.x (.one (.p (pi special)))),(4,.x (.one (.p (pi unit)))),(6,.x (.one (.ptr 106 0))),(11,.x (.one (.ptr 1066 0))),(12,.x (.one (.ptr 112 0))),(13,.x (.one (.p (.sl 3 (List.map enc_api_UnitMark y7))))),(14,.x (.one (.vw 176))),(15,.x (.one (.ap 176 (y9.toNat) 0))),(84,.x (.one (.p (pi y40)))),(89,.x (.one (.p (.val (.bool (y40 == (0:Int)))))))],mkH [(106,.var [.p (.sl 3 (List.map enc_api_Unit raw.Units)),.p (.sl 1 (List.map encI raw.Bounds)),.p (pi raw.Max)]),(112,.var [.p (.sl 3 (List.map enc_api_Unit y5.Units)),.p (.sl 1 (List.map encI y5.Bounds)),.p (pi y5.Max)]),(176,.arr 3 (List.map enc_api_UnitMark y7)),(1066,.var [.p (.sl 1 (List.map encI y41.L)),.p (pi y41.At)])]⟩) ?_
      refine lok_c (y40 == (0:Int)) ?_ ?_
      · intro b_45
        replace H0:=cpos H0 b_45
        replace H0:=bind_some H0
        obtain ⟨⟨y42,y43⟩,h_37,H0⟩:=H0
        try dsimp only at H0
        refine lok_rl (Env.of E0 [⟨some 94,16,[.one (.ptr 0 0),.one (.p (.sl 1 (List.map encI ([(-1:Int),(0:Int),(3:Int),(4:Int)]))))],[.var [.p (.sl 1 (List.map encI y41.L)),.p (pi y41.At)]],[.one (.p (pi y42))],[some (.var [.p (.sl 1 (List.map encI y43.L)),.p (pi y43.At)])],True,fun _ => ok_mark_Dice_Pick y41 ([(-1:Int),(0:Int),(3:Int),(4:Int)]) (y42,y43) h_37,[]⟩]) (⟨263,mkS [(2,.x (.one (.p (.sl 3 (List.map enc_api_UnitMark marks))))),(3,.x (.one (.p (pi special)))),(4,.x (.one (.p (pi unit)))),(6,.x (.one (.ptr 106 0))),(11,.x (.one (.ptr 1066 0))),(12,.x (.one (.ptr 112 0))),(13,.x (.one (.p (.sl 3 (List.map enc_api_UnitMark y7))))),(14,.x (.one (.vw 176)))],mkH [(106,.var [.p (.sl 3 (List.map enc_api_Unit raw.Units)),.p (.sl 1 (List.map encI raw.Bounds)),.p (pi raw.Max)]),(112,.var [.p (.sl 3 (List.map enc_api_Unit y5.Units)),.p (.sl 1 (List.map encI y5.Bounds)),.p (pi y5.Max)]),(176,.arr 3 (List.map enc_api_UnitMark (setI y7 y9 (api_UnitMark.mk y42 ((ix y7 y9).Value))))),(1066,.var [.p (.sl 1 (List.map encI y43.L)),.p (pi y43.At)])]⟩) ?_
        try simp only [thenL,blockL,↓reduceIte,reduceCtorEq]
        exact ⟨((setI y7 y9 (api_UnitMark.mk y42 ((ix y7 y9).Value))),y43.L,y43.At),H0,imp_au⟩
      · intro b_45
        replace H0:=cneg H0 b_45
        refine lok_rt E0 (⟨263,mkS [(2,.x (.one (.p (.sl 3 (List.map enc_api_UnitMark marks))))),(3,.x (.one (.p (pi special)))),(4,.x (.one (.p (pi unit)))),(6,.x (.one (.ptr 106 0))),(11,.x (.one (.ptr 1066 0))),(12,.x (.one (.ptr 112 0))),(13,.x (.one (.p (.sl 3 (List.map enc_api_UnitMark y7))))),(14,.x (.one (.vw 176))),(15,.x (.one (.ap 176 (y9.toNat) 0))),(84,.x (.one (.p (pi y40)))),(97,.x (.one (.p (.val (.bool (y40 == (1:Int)))))))],mkH [(106,.var [.p (.sl 3 (List.map enc_api_Unit raw.Units)),.p (.sl 1 (List.map encI raw.Bounds)),.p (pi raw.Max)]),(112,.var [.p (.sl 3 (List.map enc_api_Unit y5.Units)),.p (.sl 1 (List.map encI y5.Bounds)),.p (pi y5.Max)]),(176,.arr 3 (List.map enc_api_UnitMark y7)),(1066,.var [.p (.sl 1 (List.map encI y41.L)),.p (pi y41.At)])]⟩) ?_
        refine lok_c (y40 == (1:Int)) ?_ ?_
        · intro b_44
          replace H0:=cpos H0 b_44
          replace H0:=bind_some H0
          obtain ⟨⟨y44,y45⟩,h_38,H0⟩:=H0
          try dsimp only at H0
          replace H0:=bind_some H0
          obtain ⟨y46,h_39,H0⟩:=H0
          refine lok_rl (Env.of E0 [⟨some 102,16,[.one (.ptr 0 0),.one (.p (.sl 1 (List.map encI ([(-1:Int),(0:Int),(50:Int),(51:Int)]))))],[.var [.p (.sl 1 (List.map encI y41.L)),.p (pi y41.At)]],[.one (.p (pi y44))],[some (.var [.p (.sl 1 (List.map encI y45.L)),.p (pi y45.At)])],True,fun _ => ok_mark_Dice_Pick y41 ([(-1:Int),(0:Int),(50:Int),(51:Int)]) (y44,y45) h_38,[]⟩,
      ⟨some 103,17,[.one (.p (pi y44))],[],[.agg [.p (pi y46.Num),.p (pi y46.Den)]],[],True,fun _ => ok_law36_whole y44 y46 h_39,[]⟩]) (⟨263,mkS [(2,.x (.one (.p (.sl 3 (List.map enc_api_UnitMark marks))))),(3,.x (.one (.p (pi special)))),(4,.x (.one (.p (pi unit)))),(6,.x (.one (.ptr 106 0))),(11,.x (.one (.ptr 1066 0))),(12,.x (.one (.ptr 112 0))),(13,.x (.one (.p (.sl 3 (List.map enc_api_UnitMark y7))))),(14,.x (.one (.vw 176)))],mkH [(106,.var [.p (.sl 3 (List.map enc_api_Unit raw.Units)),.p (.sl 1 (List.map encI raw.Bounds)),.p (pi raw.Max)]),(112,.var [.p (.sl 3 (List.map enc_api_Unit y5.Units)),.p (.sl 1 (List.map encI y5.Bounds)),.p (pi y5.Max)]),(176,.arr 3 (List.map enc_api_UnitMark (setI y7 y9 (api_UnitMark.mk ((ix y7 y9).Kind) y46)))),(1066,.var [.p (.sl 1 (List.map encI y45.L)),.p (pi y45.At)])]⟩) ?_
          try simp only [thenL,blockL,↓reduceIte,reduceCtorEq]
          exact ⟨((setI y7 y9 (api_UnitMark.mk ((ix y7 y9).Kind) y46)),y45.L,y45.At),H0,imp_au⟩
        · intro b_44
          replace H0:=cneg H0 b_44
          refine lok_rt E0 (⟨263,mkS [(2,.x (.one (.p (.sl 3 (List.map enc_api_UnitMark marks))))),(3,.x (.one (.p (pi special)))),(4,.x (.one (.p (pi unit)))),(6,.x (.one (.ptr 106 0))),(11,.x (.one (.ptr 1066 0))),(12,.x (.one (.ptr 112 0))),(13,.x (.one (.p (.sl 3 (List.map enc_api_UnitMark y7))))),(14,.x (.one (.vw 176))),(15,.x (.one (.ap 176 (y9.toNat) 0))),(106,.x (.one (.p (.val (.bool (y40 == (2:Int)))))))],mkH [(106,.var [.p (.sl 3 (List.map enc_api_Unit raw.Units)),.p (.sl 1 (List.map encI raw.Bounds)),.p (pi raw.Max)]),(112,.var [.p (.sl 3 (List.map enc_api_Unit y5.Units)),.p (.sl 1 (List.map encI y5.Bounds)),.p (pi y5.Max)]),(176,.arr 3 (List.map enc_api_UnitMark y7)),(1066,.var [.p (.sl 1 (List.map encI y41.L)),.p (pi y41.At)])]⟩) ?_
          refine lok_c (y40 == (2:Int)) ?_ ?_
          · intro b_43
            replace H0:=cpos H0 b_43
            replace H0:=bind_some H0
            obtain ⟨⟨y47,y48⟩,h_40,H0⟩:=H0
            try dsimp only at H0
            replace H0:=bindV_some H0
            obtain ⟨w15,a_41,H0⟩:=H0
            refine lok_rlg (Env.of E0 [⟨some 111,16,[.one (.ptr 0 0),.one (.p (.sl 1 (List.map encI ([(0:Int),(2:Int),(3:Int)]))))],[.var [.p (.sl 1 (List.map encI y41.L)),.p (pi y41.At)]],[.one (.p (pi y47))],[some (.var [.p (.sl 1 (List.map encI y48.L)),.p (pi y48.At)])],True,fun _ => ok_mark_Dice_Pick y41 ([(0:Int),(2:Int),(3:Int)]) (y47,y48) h_40,[]⟩]) a_41 (⟨263,mkS [(2,.x (.one (.p (.sl 3 (List.map enc_api_UnitMark marks))))),(3,.x (.one (.p (pi special)))),(4,.x (.one (.p (pi unit)))),(6,.x (.one (.ptr 106 0))),(11,.x (.one (.ptr 1066 0))),(12,.x (.one (.ptr 112 0))),(13,.x (.one (.p (.sl 3 (List.map enc_api_UnitMark y7))))),(14,.x (.one (.vw 176)))],mkH [(106,.var [.p (.sl 3 (List.map enc_api_Unit raw.Units)),.p (.sl 1 (List.map encI raw.Bounds)),.p (pi raw.Max)]),(112,.var [.p (.sl 3 (List.map enc_api_Unit y5.Units)),.p (.sl 1 (List.map encI y5.Bounds)),.p (pi y5.Max)]),(176,.arr 3 (List.map enc_api_UnitMark w15)),(1066,.var [.p (.sl 1 (List.map encI y48.L)),.p (pi y48.At)])]⟩) ?_
            try simp only [thenL,blockL,↓reduceIte,reduceCtorEq]
            exact ⟨(w15,y48.L,y48.At),H0,imp_au⟩
          · intro b_43
            replace H0:=cneg H0 b_43
            replace H0:=bindV_some H0
            obtain ⟨w16,a_42,H0⟩:=H0
            refine lok_rlg E0 a_42 (⟨263,mkS [(2,.x (.one (.p (.sl 3 (List.map enc_api_UnitMark marks))))),(3,.x (.one (.p (pi special)))),(4,.x (.one (.p (pi unit)))),(6,.x (.one (.ptr 106 0))),(11,.x (.one (.ptr 1066 0))),(12,.x (.one (.ptr 112 0))),(13,.x (.one (.p (.sl 3 (List.map enc_api_UnitMark y7))))),(14,.x (.one (.vw 176)))],mkH [(106,.var [.p (.sl 3 (List.map enc_api_Unit raw.Units)),.p (.sl 1 (List.map encI raw.Bounds)),.p (pi raw.Max)]),(112,.var [.p (.sl 3 (List.map enc_api_Unit y5.Units)),.p (.sl 1 (List.map encI y5.Bounds)),.p (pi y5.Max)]),(176,.arr 3 (List.map enc_api_UnitMark w16)),(1066,.var [.p (.sl 1 (List.map encI y41.L)),.p (pi y41.At)])]⟩) ?_
            try simp only [thenL,blockL,↓reduceIte,reduceCtorEq]
            exact ⟨(w16,y41.L,y41.At),H0,imp_au⟩
end Go.LS
