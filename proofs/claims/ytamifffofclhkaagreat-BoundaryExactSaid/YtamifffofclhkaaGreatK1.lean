/-
  The walks: the functions compute what the plain ones say. Condition: the plain function has a value.
-/
import Derived.Test.YtamifffofclhkaaGreatK0
import Derived.Test.YtamifffofclhkaaGreatD1
namespace Go.LS
open Go.Proofs
set_option linter.all false
set_option linter.unusedSimpArgs false
set_option linter.unusedVariables false
set_option maxRecDepth 20000

theorem ok_boundary_isScore (n:Int) (r_:Bool) (H0:boundary_isScore n=some r_):CallOK Tryz.prog 29 [.one (.p (pi n))] [] [.one (.p (.val (.bool r_)))] []:=by
  refine callOK (n:=9) (rs:=[.tmp 2]) (nb:=0) (V:=[]) Tryz.func29 rfl (by kernel_rfl) rfl rfl rfl rfl (Nat.le_of_ble_eq_true rfl) (by decide) ?_
  unfold boundary_isScore at H0
  refine lok_rt E0 (⟨9,mkS [(0,.x (.one (.p (pi n))))],mkH []⟩) ?_
  refine lok_rt E0 (⟨9,mkS [(2,.x (.one (.p (.val (.bool ((decide ((0:Int)≤n))&&(decide (n≤(200:Int)))))))))],mkH []⟩) ?_
  refine lok_ret ?_
  obtain rfl:=Option.some.inj H0
  try simp only [thenL,blockL]
  exact fin_au _ (.inr rfl) [] (⟨9,mkS [(2,.x (.one (.p (.val (.bool ((decide ((0:Int)≤n))&&(decide (n≤(200:Int)))))))))],mkH []⟩) rfl rfl imp_au
set_option maxHeartbeats 4000000 in
theorem ok_boundary_Check (b:List Int) (most:Int) (r_:Int) (H0:boundary_Check b most=some r_):CallOK Tryz.prog 10 [.one (.p (.sl 1 (List.map encI b))),.one (.p (pi most))] [] [.one (.p (pi r_))] []:=by
  refine callOK (n:=50) (rs:=[.tmp 4]) (nb:=0) (V:=[]) Tryz.func10 rfl (by kernel_rfl) rfl rfl rfl rfl (Nat.le_of_ble_eq_true rfl) (by decide) ?_
  unfold boundary_Check at H0
  refine lok_rt E0 (⟨50,mkS [(0,.x (.one (.p (.sl 1 (List.map encI b))))),(1,.x (.one (.p (pi most))))],mkH []⟩) ?_
  refine lok_seq ?_
  replace H0:=bind_some H0
  obtain ⟨y,h_0,H0⟩:=H0
  refine lok_rt (Env.of E0 [⟨some 9,29,[.one (.p (pi most))],[],[.one (.p (.val (.bool y)))],[],True,fun _ => ok_boundary_isScore most y h_0,[]⟩]) (⟨50,mkS [(0,.x (.one (.p (.sl 1 (List.map encI b))))),(1,.x (.one (.p (pi most)))),(10,.x (.one (.p (.val (.bool (!y))))))],mkH []⟩) ?_
  refine lok_c (!y) ?_ ?_
  · intro b_11
    replace H0:=cpos H0 b_11
    refine lok_rt E0 (⟨50,mkS [(4,.x (.one (.p (pi (2:Int)))))],mkH []⟩) ?_
    refine lok_ret ?_
    obtain rfl:=Option.some.inj H0
    try simp only [thenL,blockL]
    exact fin_au _ (.inr rfl) [] (⟨50,mkS [(4,.x (.one (.p (pi (2:Int)))))],mkH []⟩) rfl rfl imp_au
  · intro b_11
    replace H0:=cneg H0 b_11
    refine lok_skip ?_
    try simp only [thenL,blockL,↓reduceIte,reduceCtorEq]
    refine lok_seq ?_
    refine lok_rt E0 (⟨50,mkS [(0,.x (.one (.p (.sl 1 (List.map encI b))))),(1,.x (.one (.p (pi most)))),(18,.x (.one (.p (.val (.bool ((decide ((b.length:Int)<(1:Int)))||(decide ((9:Int)<(b.length:Int)))))))))],mkH []⟩) ?_
    refine lok_c ((decide ((b.length:Int)<(1:Int)))||(decide ((9:Int)<(b.length:Int)))) ?_ ?_
    · intro b_10
      replace H0:=cpos H0 b_10
      refine lok_rt E0 (⟨50,mkS [(4,.x (.one (.p (pi (3:Int)))))],mkH []⟩) ?_
      refine lok_ret ?_
      obtain rfl:=Option.some.inj H0
      try simp only [thenL,blockL]
      exact fin_au _ (.inr rfl) [] (⟨50,mkS [(4,.x (.one (.p (pi (3:Int)))))],mkH []⟩) rfl rfl imp_au
    · intro b_10
      replace H0:=cneg H0 b_10
      refine lok_skip ?_
      try simp only [thenL,blockL,↓reduceIte,reduceCtorEq]
      refine lok_join (fun x_:Unit => boundary_Check_j3 b=some r_) (fun x_ => ⟨50,mkS [(0,.x (.one (.p (.sl 1 (List.map encI b)))))],mkH []⟩) ?hyboundary_Check_j3 ?hxboundary_Check_j3
      case hyboundary_Check_j3 =>
        rintro _ H0
        try dsimp only at H0 ⊢
        unfold boundary_Check_j3 at H0
        refine lok_join (fun x_:Unit => boundary_Check_j1=some r_) (fun x_ => ⟨50,mkS [],mkH []⟩) ?hyboundary_Check_j1 ?hxboundary_Check_j1
        case hyboundary_Check_j1 =>
          rintro _ H0
          try dsimp only at H0 ⊢
          unfold boundary_Check_j1 at H0
          refine lok_rt E0 (⟨50,mkS [(4,.x (.one (.p (pi (0:Int)))))],mkH []⟩) ?_
          refine lok_ret ?_
          obtain rfl:=Option.some.inj H0
          try simp only [thenL,blockL]
          exact fin_au _ (.inr rfl) [] (⟨50,mkS [(4,.x (.one (.p (pi (0:Int)))))],mkH []⟩) rfl rfl imp_au
        case hxboundary_Check_j1 =>
          refine lok_rt E0 (⟨50,mkS [(0,.x (.one (.p (.sl 1 (List.map encI b))))),(7,.x (.one (.p (pi (1:Int)))))],mkH []⟩) ?_
          refine lok_block ?_
          replace H0:=bind_some H0
          obtain ⟨v_1,hv_1,H0⟩:=H0
          refine lok_iter (fun x_ => ⟨50,mkS [(0,.x (.one (.p (.sl 1 (List.map encI b))))),(7,.x (.one (.p (pi x_))))],mkH []⟩) hv_1 imp_au ?_
          · rintro i o_1 H1 k_1
            unfold boundary_Check_l2 at H1
            try dsimp only at H1 ⊢
            refine lok_seq ?_
            refine lok_rt E0 (⟨50,mkS [(0,.x (.one (.p (.sl 1 (List.map encI b))))),(7,.x (.one (.p (pi i)))),(37,.x (.one (.p (.val (.bool (decide (i<(b.length:Int))))))))],mkH []⟩) ?_
            refine lok_c (decide (i<(b.length:Int))) ?_ ?_
            · intro b_5
              replace H1:=cpos H1 b_5
              refine lok_skip ?_
              try simp only [thenL,blockL,↓reduceIte,reduceCtorEq]
              refine lok_seq ?_
              refine lok_block ?_
              replace H1:=req_some H1
              obtain ⟨⟨q_3,q_4⟩,H1⟩:=H1
              refine lok_dt E0 9 (⟨50,mkS [(0,.x (.one (.p (.sl 1 (List.map encI b))))),(7,.x (.one (.p (pi i)))),(49,.x (.one (.p (.val (.bool (decide ((ix b (IntKind.i64.wrap (i-(1:Int))))<(ix b i))))))))],mkH []⟩) (by kernel_rfl) (by kernel_rfl) ?_
              refine lok_c (decide ((ix b (IntKind.i64.wrap (i-(1:Int))))<(ix b i))) ?_ ?_
              · intro b_2
                replace H1:=cpos H1 b_2
                refine lok_rt E0 (⟨50,mkS [(4,.x (.one (.p (pi (43:Int)))))],mkH []⟩) ?_
                refine lok_ret ?_
                try simp only [thenL,blockL,↓reduceIte,reduceCtorEq]
                have e_1:=k_1 _ (Option.some.inj H1).symm
                subst e_1
                try dsimp only at H0
                obtain rfl:=Option.some.inj H0
                try simp only [thenL,blockL]
                exact fin_au _ (.inr rfl) [] (⟨50,mkS [(4,.x (.one (.p (pi (43:Int)))))],mkH []⟩) rfl rfl imp_au
              · intro b_2
                replace H1:=cneg H1 b_2
                refine lok_skip ?_
                try simp only [thenL,blockL,↓reduceIte,reduceCtorEq]
                refine lok_rl E0 (⟨50,mkS [(0,.x (.one (.p (.sl 1 (List.map encI b))))),(7,.x (.one (.p (pi (IntKind.i64.wrap (i+(1:Int)))))))],mkH []⟩) ?_
                try simp only [thenL,blockL,↓reduceIte,reduceCtorEq]
                exact ⟨(IntKind.i64.wrap (i+(1:Int))),(Option.some.inj H1).symm,imp_au⟩
            · intro b_5
              replace H1:=cneg H1 b_5
              refine lok_exit ?_
              try simp only [thenL,blockL,↓reduceIte,reduceCtorEq]
              have e_1:=k_1 _ (Option.some.inj H1).symm
              subst e_1
              try dsimp only at H0
              try simp only [thenL,blockL,↓reduceIte,reduceCtorEq]
              exact ⟨(),H0,imp_au⟩
      case hxboundary_Check_j3 =>
        refine lok_rt E0 (⟨50,mkS [(0,.x (.one (.p (.sl 1 (List.map encI b))))),(1,.x (.one (.p (pi most)))),(19,.x (.one (.p (.sl 1 (List.map encI b))))),(20,.x (.one (.p (pi (b.length:Int))))),(21,.x (.one (.p (pi (0:Int)))))],mkH []⟩) ?_
        refine lok_block ?_
        replace H0:=bind_some H0
        obtain ⟨v_6,hv_6,H0⟩:=H0
        refine lok_iter (fun x_ => ⟨50,mkS [(0,.x (.one (.p (.sl 1 (List.map encI b))))),(1,.x (.one (.p (pi most)))),(19,.x (.one (.p (.sl 1 (List.map encI b))))),(20,.x (.one (.p (pi (b.length:Int))))),(21,.x (.one (.p (pi x_))))],mkH []⟩) hv_6 imp_au ?_
        · rintro v o_1 H1 k_1
          unfold boundary_Check_l4 at H1
          try dsimp only at H1 ⊢
          refine lok_rt E0 (⟨50,mkS [(0,.x (.one (.p (.sl 1 (List.map encI b))))),(1,.x (.one (.p (pi most)))),(19,.x (.one (.p (.sl 1 (List.map encI b))))),(20,.x (.one (.p (pi (b.length:Int))))),(21,.x (.one (.p (pi v)))),(22,.x (.one (.p (.val (.bool (decide (v<(b.length:Int))))))))],mkH []⟩) ?_
          refine lok_seq ?_
          refine lok_c (decide (v<(b.length:Int))) ?_ ?_
          · intro b_9
            replace H1:=cpos H1 b_9
            refine lok_skip ?_
            try simp only [thenL,blockL,↓reduceIte,reduceCtorEq]
            refine lok_seq ?_
            refine lok_block ?_
            replace H1:=req_some H1
            obtain ⟨q_8,H1⟩:=H1
            refine lok_rt E0 (⟨50,mkS [(0,.x (.one (.p (.sl 1 (List.map encI b))))),(1,.x (.one (.p (pi most)))),(6,.x (.one (.p (pi (ix b v))))),(19,.x (.one (.p (.sl 1 (List.map encI b))))),(20,.x (.one (.p (pi (b.length:Int))))),(21,.x (.one (.p (pi v))))],mkH []⟩) ?_
            refine lok_rt E0 (⟨50,mkS [(0,.x (.one (.p (.sl 1 (List.map encI b))))),(1,.x (.one (.p (pi most)))),(19,.x (.one (.p (.sl 1 (List.map encI b))))),(20,.x (.one (.p (pi (b.length:Int))))),(21,.x (.one (.p (pi v)))),(32,.x (.one (.p (.val (.bool ((decide ((ix b v)<(0:Int)))||(decide ((IntKind.i64.wrap (most+(1:Int)))<(ix b v)))))))))],mkH []⟩) ?_
            refine lok_c ((decide ((ix b v)<(0:Int)))||(decide ((IntKind.i64.wrap (most+(1:Int)))<(ix b v)))) ?_ ?_
            · intro b_7
              replace H1:=cpos H1 b_7
              refine lok_rt E0 (⟨50,mkS [(4,.x (.one (.p (pi (2:Int)))))],mkH []⟩) ?_
              refine lok_ret ?_
              try simp only [thenL,blockL,↓reduceIte,reduceCtorEq]
              have e_1:=k_1 _ (Option.some.inj H1).symm
              subst e_1
              try dsimp only at H0
              obtain rfl:=Option.some.inj H0
              try simp only [thenL,blockL]
              exact fin_au _ (.inr rfl) [] (⟨50,mkS [(4,.x (.one (.p (pi (2:Int)))))],mkH []⟩) rfl rfl imp_au
            · intro b_7
              replace H1:=cneg H1 b_7
              refine lok_skip ?_
              try simp only [thenL,blockL,↓reduceIte,reduceCtorEq]
              refine lok_rl E0 (⟨50,mkS [(0,.x (.one (.p (.sl 1 (List.map encI b))))),(1,.x (.one (.p (pi most)))),(19,.x (.one (.p (.sl 1 (List.map encI b))))),(20,.x (.one (.p (pi (b.length:Int))))),(21,.x (.one (.p (pi (IntKind.i64.wrap (v+(1:Int)))))))],mkH []⟩) ?_
              try simp only [thenL,blockL,↓reduceIte,reduceCtorEq]
              exact ⟨(IntKind.i64.wrap (v+(1:Int))),(Option.some.inj H1).symm,imp_au⟩
          · intro b_9
            replace H1:=cneg H1 b_9
            refine lok_exit ?_
            try simp only [thenL,blockL,↓reduceIte,reduceCtorEq]
            have e_1:=k_1 _ (Option.some.inj H1).symm
            subst e_1
            try dsimp only at H0
            try simp only [thenL,blockL,↓reduceIte,reduceCtorEq]
            exact ⟨(),H0,imp_au⟩
set_option maxHeartbeats 4000000 in
theorem ok_ref35_Check (b:List Int) (most:Int) (r_:Int) (H0:ref35_Check b most=some r_):CallOK Tryz.prog 11 [.one (.p (.sl 1 (List.map encI b))),.one (.p (pi most))] [] [.one (.p (pi r_))] []:=by
  refine callOK (n:=57) (rs:=[.tmp 4]) (nb:=0) (V:=[]) Tryz.func11 rfl (by kernel_rfl) rfl rfl rfl rfl (Nat.le_of_ble_eq_true rfl) (by decide) ?_
  unfold ref35_Check at H0
  refine lok_rt E0 (⟨57,mkS [(0,.x (.one (.p (.sl 1 (List.map encI b))))),(1,.x (.one (.p (pi most))))],mkH []⟩) ?_
  refine lok_seq ?_
  refine lok_rt E0 (⟨57,mkS [(0,.x (.one (.p (.sl 1 (List.map encI b))))),(1,.x (.one (.p (pi most)))),(12,.x (.one (.p (.val (.bool ((decide (most<(0:Int)))||(decide ((200:Int)<most))))))))],mkH []⟩) ?_
  refine lok_c ((decide (most<(0:Int)))||(decide ((200:Int)<most))) ?_ ?_
  · intro b_11
    replace H0:=cpos H0 b_11
    refine lok_rt E0 (⟨57,mkS [(4,.x (.one (.p (pi (2:Int)))))],mkH []⟩) ?_
    refine lok_ret ?_
    obtain rfl:=Option.some.inj H0
    try simp only [thenL,blockL]
    exact fin_au _ (.inr rfl) [] (⟨57,mkS [(4,.x (.one (.p (pi (2:Int)))))],mkH []⟩) rfl rfl imp_au
  · intro b_11
    replace H0:=cneg H0 b_11
    refine lok_skip ?_
    try simp only [thenL,blockL,↓reduceIte,reduceCtorEq]
    refine lok_seq ?_
    refine lok_rt E0 (⟨57,mkS [(0,.x (.one (.p (.sl 1 (List.map encI b))))),(1,.x (.one (.p (pi most)))),(20,.x (.one (.p (.val (.bool (((b.length:Int)==(0:Int))||(decide ((9:Int)<(b.length:Int)))))))))],mkH []⟩) ?_
    refine lok_c (((b.length:Int)==(0:Int))||(decide ((9:Int)<(b.length:Int)))) ?_ ?_
    · intro b_10
      replace H0:=cpos H0 b_10
      refine lok_rt E0 (⟨57,mkS [(4,.x (.one (.p (pi (3:Int)))))],mkH []⟩) ?_
      refine lok_ret ?_
      obtain rfl:=Option.some.inj H0
      try simp only [thenL,blockL]
      exact fin_au _ (.inr rfl) [] (⟨57,mkS [(4,.x (.one (.p (pi (3:Int)))))],mkH []⟩) rfl rfl imp_au
    · intro b_10
      replace H0:=cneg H0 b_10
      refine lok_skip ?_
      try simp only [thenL,blockL,↓reduceIte,reduceCtorEq]
      refine lok_join (fun x_:Unit => ref35_Check_j3 b=some r_) (fun x_ => ⟨57,mkS [(0,.x (.one (.p (.sl 1 (List.map encI b)))))],mkH []⟩) ?hyref35_Check_j3 ?hxref35_Check_j3
      case hyref35_Check_j3 =>
        rintro _ H0
        try dsimp only at H0 ⊢
        unfold ref35_Check_j3 at H0
        refine lok_join (fun x_:Unit => ref35_Check_j1=some r_) (fun x_ => ⟨57,mkS [],mkH []⟩) ?hyref35_Check_j1 ?hxref35_Check_j1
        case hyref35_Check_j1 =>
          rintro _ H0
          try dsimp only at H0 ⊢
          unfold ref35_Check_j1 at H0
          refine lok_rt E0 (⟨57,mkS [(4,.x (.one (.p (pi (0:Int)))))],mkH []⟩) ?_
          refine lok_ret ?_
          obtain rfl:=Option.some.inj H0
          try simp only [thenL,blockL]
          exact fin_au _ (.inr rfl) [] (⟨57,mkS [(4,.x (.one (.p (pi (0:Int)))))],mkH []⟩) rfl rfl imp_au
        case hxref35_Check_j1 =>
          refine lok_rt E0 (⟨57,mkS [(0,.x (.one (.p (.sl 1 (List.map encI b))))),(6,.x (.one (.p (pi (1:Int)))))],mkH []⟩) ?_
          refine lok_block ?_
          replace H0:=bind_some H0
          obtain ⟨v_0,hv_0,H0⟩:=H0
          refine lok_iter (fun x_ => ⟨57,mkS [(0,.x (.one (.p (.sl 1 (List.map encI b))))),(6,.x (.one (.p (pi x_))))],mkH []⟩) hv_0 imp_au ?_
          · rintro i o_1 H1 k_1
            unfold ref35_Check_l2 at H1
            try dsimp only at H1 ⊢
            refine lok_seq ?_
            refine lok_rt E0 (⟨57,mkS [(0,.x (.one (.p (.sl 1 (List.map encI b))))),(6,.x (.one (.p (pi i)))),(44,.x (.one (.p (.val (.bool (decide (i<(b.length:Int))))))))],mkH []⟩) ?_
            refine lok_c (decide (i<(b.length:Int))) ?_ ?_
            · intro b_4
              replace H1:=cpos H1 b_4
              refine lok_skip ?_
              try simp only [thenL,blockL,↓reduceIte,reduceCtorEq]
              refine lok_seq ?_
              refine lok_block ?_
              replace H1:=req_some H1
              obtain ⟨⟨q_2,q_3⟩,H1⟩:=H1
              refine lok_dt E0 9 (⟨57,mkS [(0,.x (.one (.p (.sl 1 (List.map encI b))))),(6,.x (.one (.p (pi i)))),(56,.x (.one (.p (.val (.bool (decide ((ix b (IntKind.i64.wrap (i-(1:Int))))<(ix b i))))))))],mkH []⟩) (by kernel_rfl) (by kernel_rfl) ?_
              refine lok_c (decide ((ix b (IntKind.i64.wrap (i-(1:Int))))<(ix b i))) ?_ ?_
              · intro b_1
                replace H1:=cpos H1 b_1
                refine lok_rt E0 (⟨57,mkS [(4,.x (.one (.p (pi (43:Int)))))],mkH []⟩) ?_
                refine lok_ret ?_
                try simp only [thenL,blockL,↓reduceIte,reduceCtorEq]
                have e_1:=k_1 _ (Option.some.inj H1).symm
                subst e_1
                try dsimp only at H0
                obtain rfl:=Option.some.inj H0
                try simp only [thenL,blockL]
                exact fin_au _ (.inr rfl) [] (⟨57,mkS [(4,.x (.one (.p (pi (43:Int)))))],mkH []⟩) rfl rfl imp_au
              · intro b_1
                replace H1:=cneg H1 b_1
                refine lok_skip ?_
                try simp only [thenL,blockL,↓reduceIte,reduceCtorEq]
                refine lok_rl E0 (⟨57,mkS [(0,.x (.one (.p (.sl 1 (List.map encI b))))),(6,.x (.one (.p (pi (IntKind.i64.wrap (i+(1:Int)))))))],mkH []⟩) ?_
                try simp only [thenL,blockL,↓reduceIte,reduceCtorEq]
                exact ⟨(IntKind.i64.wrap (i+(1:Int))),(Option.some.inj H1).symm,imp_au⟩
            · intro b_4
              replace H1:=cneg H1 b_4
              refine lok_exit ?_
              try simp only [thenL,blockL,↓reduceIte,reduceCtorEq]
              have e_1:=k_1 _ (Option.some.inj H1).symm
              subst e_1
              try dsimp only at H0
              try simp only [thenL,blockL,↓reduceIte,reduceCtorEq]
              exact ⟨(),H0,imp_au⟩
      case hxref35_Check_j3 =>
        refine lok_rt E0 (⟨57,mkS [(0,.x (.one (.p (.sl 1 (List.map encI b))))),(1,.x (.one (.p (pi most)))),(5,.x (.one (.p (pi (0:Int)))))],mkH []⟩) ?_
        refine lok_block ?_
        replace H0:=bind_some H0
        obtain ⟨v_5,hv_5,H0⟩:=H0
        refine lok_iter (fun x_ => ⟨57,mkS [(0,.x (.one (.p (.sl 1 (List.map encI b))))),(1,.x (.one (.p (pi most)))),(5,.x (.one (.p (pi x_))))],mkH []⟩) hv_5 imp_au ?_
        · rintro i1 o_1 H1 k_1
          unfold ref35_Check_l4 at H1
          try dsimp only at H1 ⊢
          refine lok_seq ?_
          refine lok_rt E0 (⟨57,mkS [(0,.x (.one (.p (.sl 1 (List.map encI b))))),(1,.x (.one (.p (pi most)))),(5,.x (.one (.p (pi i1)))),(24,.x (.one (.p (.val (.bool (decide (i1<(b.length:Int))))))))],mkH []⟩) ?_
          refine lok_c (decide (i1<(b.length:Int))) ?_ ?_
          · intro b_9
            replace H1:=cpos H1 b_9
            refine lok_skip ?_
            try simp only [thenL,blockL,↓reduceIte,reduceCtorEq]
            refine lok_seq ?_
            refine lok_block ?_
            replace H1:=req_some H1
            obtain ⟨⟨q_7,q_8⟩,H1⟩:=H1
            refine lok_rt E0 (⟨57,mkS [(0,.x (.one (.p (.sl 1 (List.map encI b))))),(1,.x (.one (.p (pi most)))),(5,.x (.one (.p (pi i1)))),(40,.x (.one (.p (.val (.bool ((decide ((ix b i1)<(0:Int)))||(decide ((IntKind.i64.wrap (most+(1:Int)))<(ix b i1)))))))))],mkH []⟩) ?_
            refine lok_c ((decide ((ix b i1)<(0:Int)))||(decide ((IntKind.i64.wrap (most+(1:Int)))<(ix b i1)))) ?_ ?_
            · intro b_6
              replace H1:=cpos H1 b_6
              refine lok_rt E0 (⟨57,mkS [(4,.x (.one (.p (pi (2:Int)))))],mkH []⟩) ?_
              refine lok_ret ?_
              try simp only [thenL,blockL,↓reduceIte,reduceCtorEq]
              have e_1:=k_1 _ (Option.some.inj H1).symm
              subst e_1
              try dsimp only at H0
              obtain rfl:=Option.some.inj H0
              try simp only [thenL,blockL]
              exact fin_au _ (.inr rfl) [] (⟨57,mkS [(4,.x (.one (.p (pi (2:Int)))))],mkH []⟩) rfl rfl imp_au
            · intro b_6
              replace H1:=cneg H1 b_6
              refine lok_skip ?_
              try simp only [thenL,blockL,↓reduceIte,reduceCtorEq]
              refine lok_rl E0 (⟨57,mkS [(0,.x (.one (.p (.sl 1 (List.map encI b))))),(1,.x (.one (.p (pi most)))),(5,.x (.one (.p (pi (IntKind.i64.wrap (i1+(1:Int)))))))],mkH []⟩) ?_
              try simp only [thenL,blockL,↓reduceIte,reduceCtorEq]
              exact ⟨(IntKind.i64.wrap (i1+(1:Int))),(Option.some.inj H1).symm,imp_au⟩
          · intro b_9
            replace H1:=cneg H1 b_9
            refine lok_exit ?_
            try simp only [thenL,blockL,↓reduceIte,reduceCtorEq]
            have e_1:=k_1 _ (Option.some.inj H1).symm
            subst e_1
            try dsimp only at H0
            try simp only [thenL,blockL,↓reduceIte,reduceCtorEq]
            exact ⟨(),H0,imp_au⟩
theorem ok_boundary_Grade (b:List Int) (mark:Int) (r_:Int) (H0:boundary_Grade b mark=some r_):CallOK Tryz.prog 12 [.one (.p (.sl 1 (List.map encI b))),.one (.p (pi mark))] [] [.one (.p (pi r_))] []:=by
  refine callOK (n:=21) (rs:=[.tmp 4]) (nb:=0) (V:=[]) Tryz.func12 rfl (by kernel_rfl) rfl rfl rfl rfl (Nat.le_of_ble_eq_true rfl) (by decide) ?_
  unfold boundary_Grade at H0
  refine lok_rt E0 (⟨21,mkS [(0,.x (.one (.p (.sl 1 (List.map encI b))))),(1,.x (.one (.p (pi mark))))],mkH []⟩) ?_
  refine lok_join (fun x_:Unit => boundary_Grade_j1 b=some r_) (fun x_ => ⟨21,mkS [(0,.x (.one (.p (.sl 1 (List.map encI b)))))],mkH []⟩) ?hyboundary_Grade_j1 ?hxboundary_Grade_j1
  case hyboundary_Grade_j1 =>
    rintro _ H0
    try dsimp only at H0 ⊢
    unfold boundary_Grade_j1 at H0
    refine lok_rt E0 (⟨21,mkS [(4,.x (.one (.p (pi (b.length:Int)))))],mkH []⟩) ?_
    refine lok_ret ?_
    obtain rfl:=Option.some.inj H0
    try simp only [thenL,blockL]
    exact fin_au _ (.inr rfl) [] (⟨21,mkS [(4,.x (.one (.p (pi (b.length:Int)))))],mkH []⟩) rfl rfl imp_au
  case hxboundary_Grade_j1 =>
    refine lok_rt E0 (⟨21,mkS [(0,.x (.one (.p (.sl 1 (List.map encI b))))),(1,.x (.one (.p (pi mark)))),(7,.x (.one (.p (.sl 1 (List.map encI b))))),(8,.x (.one (.p (pi (b.length:Int))))),(9,.x (.one (.p (pi (0:Int)))))],mkH []⟩) ?_
    refine lok_block ?_
    replace H0:=bind_some H0
    obtain ⟨v_0,hv_0,H0⟩:=H0
    refine lok_iter (fun x_ => ⟨21,mkS [(0,.x (.one (.p (.sl 1 (List.map encI b))))),(1,.x (.one (.p (pi mark)))),(7,.x (.one (.p (.sl 1 (List.map encI b))))),(8,.x (.one (.p (pi (b.length:Int))))),(9,.x (.one (.p (pi x_))))],mkH []⟩) hv_0 imp_au ?_
    · rintro v o_1 H1 k_1
      unfold boundary_Grade_l2 at H1
      try dsimp only at H1 ⊢
      refine lok_rt E0 (⟨21,mkS [(0,.x (.one (.p (.sl 1 (List.map encI b))))),(1,.x (.one (.p (pi mark)))),(7,.x (.one (.p (.sl 1 (List.map encI b))))),(8,.x (.one (.p (pi (b.length:Int))))),(9,.x (.one (.p (pi v)))),(10,.x (.one (.p (.val (.bool (decide (v<(b.length:Int))))))))],mkH []⟩) ?_
      refine lok_seq ?_
      refine lok_c (decide (v<(b.length:Int))) ?_ ?_
      · intro b_3
        replace H1:=cpos H1 b_3
        refine lok_skip ?_
        try simp only [thenL,blockL,↓reduceIte,reduceCtorEq]
        refine lok_seq ?_
        refine lok_block ?_
        replace H1:=req_some H1
        obtain ⟨q_2,H1⟩:=H1
        refine lok_rt E0 (⟨21,mkS [(0,.x (.one (.p (.sl 1 (List.map encI b))))),(1,.x (.one (.p (pi mark)))),(5,.x (.one (.p (pi v)))),(6,.x (.one (.p (pi (ix b v))))),(7,.x (.one (.p (.sl 1 (List.map encI b))))),(8,.x (.one (.p (pi (b.length:Int))))),(9,.x (.one (.p (pi v))))],mkH []⟩) ?_
        refine lok_rt E0 (⟨21,mkS [(0,.x (.one (.p (.sl 1 (List.map encI b))))),(1,.x (.one (.p (pi mark)))),(5,.x (.one (.p (pi v)))),(7,.x (.one (.p (.sl 1 (List.map encI b))))),(8,.x (.one (.p (pi (b.length:Int))))),(9,.x (.one (.p (pi v)))),(16,.x (.one (.p (.val (.bool (decide ((ix b v)≤mark)))))))],mkH []⟩) ?_
        refine lok_c (decide ((ix b v)≤mark)) ?_ ?_
        · intro b_1
          replace H1:=cpos H1 b_1
          refine lok_rt E0 (⟨21,mkS [(4,.x (.one (.p (pi v))))],mkH []⟩) ?_
          refine lok_ret ?_
          try simp only [thenL,blockL,↓reduceIte,reduceCtorEq]
          have e_1:=k_1 _ (Option.some.inj H1).symm
          subst e_1
          try dsimp only at H0
          obtain rfl:=Option.some.inj H0
          try simp only [thenL,blockL]
          exact fin_au _ (.inr rfl) [] (⟨21,mkS [(4,.x (.one (.p (pi v))))],mkH []⟩) rfl rfl imp_au
        · intro b_1
          replace H1:=cneg H1 b_1
          refine lok_skip ?_
          try simp only [thenL,blockL,↓reduceIte,reduceCtorEq]
          refine lok_rl E0 (⟨21,mkS [(0,.x (.one (.p (.sl 1 (List.map encI b))))),(1,.x (.one (.p (pi mark)))),(7,.x (.one (.p (.sl 1 (List.map encI b))))),(8,.x (.one (.p (pi (b.length:Int))))),(9,.x (.one (.p (pi (IntKind.i64.wrap (v+(1:Int)))))))],mkH []⟩) ?_
          try simp only [thenL,blockL,↓reduceIte,reduceCtorEq]
          exact ⟨(IntKind.i64.wrap (v+(1:Int))),(Option.some.inj H1).symm,imp_au⟩
      · intro b_3
        replace H1:=cneg H1 b_3
        refine lok_exit ?_
        try simp only [thenL,blockL,↓reduceIte,reduceCtorEq]
        have e_1:=k_1 _ (Option.some.inj H1).symm
        subst e_1
        try dsimp only at H0
        try simp only [thenL,blockL,↓reduceIte,reduceCtorEq]
        exact ⟨(),H0,imp_au⟩
theorem ok_ref35_Grade (b:List Int) (mark:Int) (r_:Int) (H0:ref35_Grade b mark=some r_):CallOK Tryz.prog 13 [.one (.p (.sl 1 (List.map encI b))),.one (.p (pi mark))] [] [.one (.p (pi r_))] []:=by
  refine callOK (n:=21) (rs:=[.tmp 4]) (nb:=0) (V:=[]) Tryz.func13 rfl (by kernel_rfl) rfl rfl rfl rfl (Nat.le_of_ble_eq_true rfl) (by decide) ?_
  unfold ref35_Grade at H0
  refine lok_rt E0 (⟨21,mkS [(0,.x (.one (.p (.sl 1 (List.map encI b))))),(1,.x (.one (.p (pi mark))))],mkH []⟩) ?_
  refine lok_join (fun x_:Unit => ref35_Grade_j1 b=some r_) (fun x_ => ⟨21,mkS [(0,.x (.one (.p (.sl 1 (List.map encI b)))))],mkH []⟩) ?hyref35_Grade_j1 ?hxref35_Grade_j1
  case hyref35_Grade_j1 =>
    rintro _ H0
    try dsimp only at H0 ⊢
    unfold ref35_Grade_j1 at H0
    refine lok_rt E0 (⟨21,mkS [(4,.x (.one (.p (pi (b.length:Int)))))],mkH []⟩) ?_
    refine lok_ret ?_
    obtain rfl:=Option.some.inj H0
    try simp only [thenL,blockL]
    exact fin_au _ (.inr rfl) [] (⟨21,mkS [(4,.x (.one (.p (pi (b.length:Int)))))],mkH []⟩) rfl rfl imp_au
  case hxref35_Grade_j1 =>
    refine lok_rt E0 (⟨21,mkS [(0,.x (.one (.p (.sl 1 (List.map encI b))))),(1,.x (.one (.p (pi mark)))),(5,.x (.one (.p (pi (0:Int)))))],mkH []⟩) ?_
    refine lok_block ?_
    replace H0:=bind_some H0
    obtain ⟨v_0,hv_0,H0⟩:=H0
    refine lok_iter (fun x_ => ⟨21,mkS [(0,.x (.one (.p (.sl 1 (List.map encI b))))),(1,.x (.one (.p (pi mark)))),(5,.x (.one (.p (pi x_))))],mkH []⟩) hv_0 imp_au ?_
    · rintro i o_1 H1 k_1
      unfold ref35_Grade_l2 at H1
      try dsimp only at H1 ⊢
      refine lok_seq ?_
      refine lok_rt E0 (⟨21,mkS [(0,.x (.one (.p (.sl 1 (List.map encI b))))),(1,.x (.one (.p (pi mark)))),(5,.x (.one (.p (pi i)))),(9,.x (.one (.p (.val (.bool (decide (i<(b.length:Int))))))))],mkH []⟩) ?_
      refine lok_c (decide (i<(b.length:Int))) ?_ ?_
      · intro b_3
        replace H1:=cpos H1 b_3
        refine lok_skip ?_
        try simp only [thenL,blockL,↓reduceIte,reduceCtorEq]
        refine lok_seq ?_
        refine lok_block ?_
        replace H1:=req_some H1
        obtain ⟨q_2,H1⟩:=H1
        refine lok_rt E0 (⟨21,mkS [(0,.x (.one (.p (.sl 1 (List.map encI b))))),(1,.x (.one (.p (pi mark)))),(5,.x (.one (.p (pi i)))),(17,.x (.one (.p (.val (.bool (decide ((ix b i)≤mark)))))))],mkH []⟩) ?_
        refine lok_c (decide ((ix b i)≤mark)) ?_ ?_
        · intro b_1
          replace H1:=cpos H1 b_1
          refine lok_rt E0 (⟨21,mkS [(4,.x (.one (.p (pi i))))],mkH []⟩) ?_
          refine lok_ret ?_
          try simp only [thenL,blockL,↓reduceIte,reduceCtorEq]
          have e_1:=k_1 _ (Option.some.inj H1).symm
          subst e_1
          try dsimp only at H0
          obtain rfl:=Option.some.inj H0
          try simp only [thenL,blockL]
          exact fin_au _ (.inr rfl) [] (⟨21,mkS [(4,.x (.one (.p (pi i))))],mkH []⟩) rfl rfl imp_au
        · intro b_1
          replace H1:=cneg H1 b_1
          refine lok_skip ?_
          try simp only [thenL,blockL,↓reduceIte,reduceCtorEq]
          refine lok_rl E0 (⟨21,mkS [(0,.x (.one (.p (.sl 1 (List.map encI b))))),(1,.x (.one (.p (pi mark)))),(5,.x (.one (.p (pi (IntKind.i64.wrap (i+(1:Int)))))))],mkH []⟩) ?_
          try simp only [thenL,blockL,↓reduceIte,reduceCtorEq]
          exact ⟨(IntKind.i64.wrap (i+(1:Int))),(Option.some.inj H1).symm,imp_au⟩
      · intro b_3
        replace H1:=cneg H1 b_3
        refine lok_exit ?_
        try simp only [thenL,blockL,↓reduceIte,reduceCtorEq]
        have e_1:=k_1 _ (Option.some.inj H1).symm
        subst e_1
        try dsimp only at H0
        try simp only [thenL,blockL,↓reduceIte,reduceCtorEq]
        exact ⟨(),H0,imp_au⟩
theorem ok_distribution_Valid (d:api_Distribution) (r_:Bool) (H0:distribution_Valid d=some r_):CallOK Tryz.prog 30 [.agg [.p (.sl 1 (List.map encI d.Counts))]] [] [.one (.p (.val (.bool r_)))] []:=by
  refine callOK (n:=35) (rs:=[.tmp 2]) (nb:=0) (V:=[]) Tryz.func30 rfl (by kernel_rfl) rfl rfl rfl rfl (Nat.le_of_ble_eq_true rfl) (by decide) ?_
  unfold distribution_Valid at H0
  refine lok_rt E0 (⟨35,mkS [(1,.x (.one (.ptr 101 0)))],mkH [(101,.var [.p (.sl 1 (List.map encI d.Counts))])]⟩) ?_
  refine lok_seq ?_
  refine lok_rt E0 (⟨35,mkS [(1,.x (.one (.ptr 101 0))),(15,.x (.one (.p (.val (.bool ((decide ((d.Counts.length:Int)<(1:Int)))||(decide ((201:Int)<(d.Counts.length:Int)))))))))],mkH [(101,.var [.p (.sl 1 (List.map encI d.Counts))])]⟩) ?_
  refine lok_c ((decide ((d.Counts.length:Int)<(1:Int)))||(decide ((201:Int)<(d.Counts.length:Int)))) ?_ ?_
  · intro b_4
    replace H0:=cpos H0 b_4
    refine lok_rt E0 (⟨35,mkS [(2,.x (.one (.p (.val (.bool false)))))],mkH []⟩) ?_
    refine lok_ret ?_
    obtain rfl:=Option.some.inj H0
    try simp only [thenL,blockL]
    exact fin_au _ (.inr rfl) [] (⟨35,mkS [(2,.x (.one (.p (.val (.bool false)))))],mkH []⟩) rfl rfl imp_au
  · intro b_4
    replace H0:=cneg H0 b_4
    refine lok_skip ?_
    try simp only [thenL,blockL,↓reduceIte,reduceCtorEq]
    refine lok_rt E0 (⟨35,mkS [(1,.x (.one (.ptr 101 0))),(3,.x (.one (.p (pi (0:Int)))))],mkH [(101,.var [.p (.sl 1 (List.map encI d.Counts))])]⟩) ?_
    refine lok_join (fun x_:Int => distribution_Valid_j1 x_=some r_) (fun x_ => ⟨35,mkS [(3,.x (.one (.p (pi x_))))],mkH []⟩) ?hydistribution_Valid_j1 ?hxdistribution_Valid_j1
    case hydistribution_Valid_j1 =>
      rintro sum H0
      try dsimp only at H0 ⊢
      unfold distribution_Valid_j1 at H0
      refine lok_rt E0 (⟨35,mkS [(2,.x (.one (.p (.val (.bool (decide (sum≤(1048576:Int))))))))],mkH []⟩) ?_
      refine lok_ret ?_
      obtain rfl:=Option.some.inj H0
      try simp only [thenL,blockL]
      exact fin_au _ (.inr rfl) [] (⟨35,mkS [(2,.x (.one (.p (.val (.bool (decide (sum≤(1048576:Int))))))))],mkH []⟩) rfl rfl imp_au
    case hxdistribution_Valid_j1 =>
      refine lok_rt E0 (⟨35,mkS [(3,.x (.one (.p (pi (0:Int))))),(17,.x (.one (.p (.sl 1 (List.map encI d.Counts))))),(18,.x (.one (.p (pi (d.Counts.length:Int))))),(19,.x (.one (.p (pi (0:Int)))))],mkH []⟩) ?_
      refine lok_block ?_
      replace H0:=bind_some H0
      obtain ⟨v_0,hv_0,H0⟩:=H0
      refine lok_iter (fun x_ => ⟨35,mkS [(3,.x (.one (.p (pi x_.1)))),(17,.x (.one (.p (.sl 1 (List.map encI d.Counts))))),(18,.x (.one (.p (pi (d.Counts.length:Int))))),(19,.x (.one (.p (pi x_.2))))],mkH []⟩) hv_0 imp_au ?_
      · rintro ⟨sum1,v⟩ o_1 H1 k_1
        unfold distribution_Valid_l2 at H1
        try dsimp only at H1 ⊢
        refine lok_rt E0 (⟨35,mkS [(3,.x (.one (.p (pi sum1)))),(17,.x (.one (.p (.sl 1 (List.map encI d.Counts))))),(18,.x (.one (.p (pi (d.Counts.length:Int))))),(19,.x (.one (.p (pi v)))),(20,.x (.one (.p (.val (.bool (decide (v<(d.Counts.length:Int))))))))],mkH []⟩) ?_
        refine lok_seq ?_
        refine lok_c (decide (v<(d.Counts.length:Int))) ?_ ?_
        · intro b_3
          replace H1:=cpos H1 b_3
          refine lok_skip ?_
          try simp only [thenL,blockL,↓reduceIte,reduceCtorEq]
          refine lok_seq ?_
          refine lok_block ?_
          replace H1:=req_some H1
          obtain ⟨q_2,H1⟩:=H1
          refine lok_rt E0 (⟨35,mkS [(3,.x (.one (.p (pi sum1)))),(5,.x (.one (.p (pi (ix d.Counts v))))),(17,.x (.one (.p (.sl 1 (List.map encI d.Counts))))),(18,.x (.one (.p (pi (d.Counts.length:Int))))),(19,.x (.one (.p (pi v))))],mkH []⟩) ?_
          refine lok_seq ?_
          refine lok_rt E0 (⟨35,mkS [(3,.x (.one (.p (pi sum1)))),(5,.x (.one (.p (pi (ix d.Counts v))))),(17,.x (.one (.p (.sl 1 (List.map encI d.Counts))))),(18,.x (.one (.p (pi (d.Counts.length:Int))))),(19,.x (.one (.p (pi v)))),(28,.x (.one (.p (.val (.bool ((decide ((ix d.Counts v)<(0:Int)))||(decide ((1048576:Int)<(ix d.Counts v)))))))))],mkH []⟩) ?_
          refine lok_c ((decide ((ix d.Counts v)<(0:Int)))||(decide ((1048576:Int)<(ix d.Counts v)))) ?_ ?_
          · intro b_1
            replace H1:=cpos H1 b_1
            refine lok_rt E0 (⟨35,mkS [(2,.x (.one (.p (.val (.bool false)))))],mkH []⟩) ?_
            refine lok_ret ?_
            try simp only [thenL,blockL,↓reduceIte,reduceCtorEq]
            have e_1:=k_1 _ (Option.some.inj H1).symm
            subst e_1
            try dsimp only at H0
            obtain rfl:=Option.some.inj H0
            try simp only [thenL,blockL]
            exact fin_au _ (.inr rfl) [] (⟨35,mkS [(2,.x (.one (.p (.val (.bool false)))))],mkH []⟩) rfl rfl imp_au
          · intro b_1
            replace H1:=cneg H1 b_1
            refine lok_skip ?_
            try simp only [thenL,blockL,↓reduceIte,reduceCtorEq]
            refine lok_rl E0 (⟨35,mkS [(3,.x (.one (.p (pi (IntKind.i64.wrap (sum1+(ix d.Counts v))))))),(17,.x (.one (.p (.sl 1 (List.map encI d.Counts))))),(18,.x (.one (.p (pi (d.Counts.length:Int))))),(19,.x (.one (.p (pi v))))],mkH []⟩) ?_
            try simp only [thenL,blockL,↓reduceIte,reduceCtorEq]
            refine lok_rl E0 (⟨35,mkS [(3,.x (.one (.p (pi (IntKind.i64.wrap (sum1+(ix d.Counts v))))))),(17,.x (.one (.p (.sl 1 (List.map encI d.Counts))))),(18,.x (.one (.p (pi (d.Counts.length:Int))))),(19,.x (.one (.p (pi (IntKind.i64.wrap (v+(1:Int)))))))],mkH []⟩) ?_
            try simp only [thenL,blockL,↓reduceIte,reduceCtorEq]
            exact ⟨((IntKind.i64.wrap (sum1+(ix d.Counts v))),(IntKind.i64.wrap (v+(1:Int)))),(Option.some.inj H1).symm,imp_au⟩
        · intro b_3
          replace H1:=cneg H1 b_3
          refine lok_exit ?_
          try simp only [thenL,blockL,↓reduceIte,reduceCtorEq]
          have e_1:=k_1 _ (Option.some.inj H1).symm
          subst e_1
          try dsimp only at H0
          try simp only [thenL,blockL,↓reduceIte,reduceCtorEq]
          exact ⟨sum1,H0,imp_au⟩
theorem ok_boundary_greatest (d:api_Distribution) (r_:Int) (H0:boundary_greatest d=some r_):CallOK Tryz.prog 31 [.agg [.p (.sl 1 (List.map encI d.Counts))]] [] [.one (.p (pi r_))] []:=by
  refine callOK (n:=7) (rs:=[.tmp 2]) (nb:=0) (V:=[]) Tryz.func31 rfl (by kernel_rfl) rfl rfl rfl rfl (Nat.le_of_ble_eq_true rfl) (by decide) ?_
  unfold boundary_greatest at H0
  refine lok_rt E0 (⟨7,mkS [(1,.x (.one (.ptr 101 0)))],mkH [(101,.var [.p (.sl 1 (List.map encI d.Counts))])]⟩) ?_
  refine lok_rt E0 (⟨7,mkS [(2,.x (.one (.p (pi (IntKind.i64.wrap ((d.Counts.length:Int)-(1:Int)))))))],mkH []⟩) ?_
  refine lok_ret ?_
  obtain rfl:=Option.some.inj H0
  try simp only [thenL,blockL]
  exact fin_au _ (.inr rfl) [] (⟨7,mkS [(2,.x (.one (.p (pi (IntKind.i64.wrap ((d.Counts.length:Int)-(1:Int)))))))],mkH []⟩) rfl rfl imp_au
theorem ok_boundary_Tally (d:api_Distribution) (b:List Int) (r_:(List Int) × Int) (H0:boundary_Tally d b=some r_):CallOK Tryz.prog 14 [.agg [.p (.sl 1 (List.map encI d.Counts))],.one (.p (.sl 1 (List.map encI b)))] [] [.one (.p (.sl 1 (List.map encI r_.1))),.one (.p (pi r_.2))] []:=by
  refine callOK (n:=43) (rs:=[.tmp 4,.tmp 5]) (nb:=0) (V:=[]) Tryz.func14 rfl (by kernel_rfl) rfl rfl rfl rfl (Nat.le_of_ble_eq_true rfl) (by decide) ?_
  unfold boundary_Tally at H0
  refine lok_rt E0 (⟨43,mkS [(1,.x (.one (.p (.sl 1 (List.map encI b))))),(2,.x (.one (.ptr 102 0)))],mkH [(102,.var [.p (.sl 1 (List.map encI d.Counts))])]⟩) ?_
  refine lok_seq ?_
  replace H0:=bind_some H0
  obtain ⟨y,h_0,H0⟩:=H0
  refine lok_rt (Env.of E0 [⟨some 11,30,[.agg [.p (.sl 1 (List.map encI d.Counts))]],[],[.one (.p (.val (.bool y)))],[],True,fun _ => ok_distribution_Valid d y h_0,[]⟩]) (⟨43,mkS [(1,.x (.one (.p (.sl 1 (List.map encI b))))),(2,.x (.one (.ptr 102 0))),(12,.x (.one (.p (.val (.bool (!y))))))],mkH [(102,.var [.p (.sl 1 (List.map encI d.Counts))])]⟩) ?_
  refine lok_c (!y) ?_ ?_
  · intro b_10
    replace H0:=cpos H0 b_10
    refine lok_rt E0 (⟨43,mkS [(4,.x (.one (.vw 104))),(5,.x (.one (.p (pi (1:Int)))))],mkH [(104,.arr 1 (List.map encI ([]:List Int)))]⟩) ?_
    refine lok_ret ?_
    obtain rfl:=Option.some.inj H0
    try simp only [thenL,blockL]
    exact fin_au _ (.inr rfl) [] (⟨43,mkS [(4,.x (.one (.p (.sl 1 (List.map encI ([]:List Int)))))),(5,.x (.one (.p (pi (1:Int)))))],mkH []⟩) rfl rfl (Imp.trans (imp_frz 104 1 (List.map encI ([]:List Int))) imp_au)
  · intro b_10
    replace H0:=cneg H0 b_10
    refine lok_skip ?_
    try simp only [thenL,blockL,↓reduceIte,reduceCtorEq]
    refine lok_seq ?_
    replace H0:=bind_some H0
    obtain ⟨y1,h_1,H0⟩:=H0
    replace H0:=bind_some H0
    obtain ⟨y2,h_2,H0⟩:=H0
    refine lok_rt (Env.of E0 [⟨some 15,31,[.agg [.p (.sl 1 (List.map encI d.Counts))]],[],[.one (.p (pi y1))],[],True,fun _ => ok_boundary_greatest d y1 h_1,[]⟩,
      ⟨some 16,10,[.one (.p (.sl 1 (List.map encI b))),.one (.p (pi y1))],[],[.one (.p (pi y2))],[],True,fun _ => ok_boundary_Check b y1 y2 h_2,[]⟩]) (⟨43,mkS [(1,.x (.one (.p (.sl 1 (List.map encI b))))),(2,.x (.one (.ptr 102 0))),(6,.x (.one (.p (pi y2))))],mkH [(102,.var [.p (.sl 1 (List.map encI d.Counts))])]⟩) ?_
    refine lok_rt E0 (⟨43,mkS [(1,.x (.one (.p (.sl 1 (List.map encI b))))),(2,.x (.one (.ptr 102 0))),(6,.x (.one (.p (pi y2)))),(18,.x (.one (.p (.val (.bool (y2 != (0:Int)))))))],mkH [(102,.var [.p (.sl 1 (List.map encI d.Counts))])]⟩) ?_
    refine lok_c (y2 != (0:Int)) ?_ ?_
    · intro b_9
      replace H0:=cpos H0 b_9
      refine lok_rt E0 (⟨43,mkS [(4,.x (.one (.vw 104))),(5,.x (.one (.p (pi y2))))],mkH [(104,.arr 1 (List.map encI ([]:List Int)))]⟩) ?_
      refine lok_ret ?_
      obtain rfl:=Option.some.inj H0
      try simp only [thenL,blockL]
      exact fin_au _ (.inr rfl) [] (⟨43,mkS [(4,.x (.one (.p (.sl 1 (List.map encI ([]:List Int)))))),(5,.x (.one (.p (pi y2))))],mkH []⟩) rfl rfl (Imp.trans (imp_frz 104 1 (List.map encI ([]:List Int))) imp_au)
    · intro b_9
      replace H0:=cneg H0 b_9
      refine lok_skip ?_
      try simp only [thenL,blockL,↓reduceIte,reduceCtorEq]
      replace H0:=req_some H0
      obtain ⟨q_8,H0⟩:=H0
      refine lok_rt E0 (⟨43,mkS [(1,.x (.one (.p (.sl 1 (List.map encI b))))),(2,.x (.one (.ptr 102 0))),(7,.x (.one (.vw 123)))],mkH [(102,.var [.p (.sl 1 (List.map encI d.Counts))]),(123,.arr 1 (List.map encI (rep (IntKind.i64.wrap ((b.length:Int)+(1:Int))) (0:Int))))]⟩) ?_
      refine lok_join (fun x_:(List Int) => boundary_Tally_j1 x_=some r_) (fun x_ => ⟨43,mkS [(7,.x (.one (.vw 123)))],mkH [(123,.arr 1 (List.map encI x_))]⟩) ?hyboundary_Tally_j1 ?hxboundary_Tally_j1
      case hyboundary_Tally_j1 =>
        rintro w H0
        try dsimp only at H0 ⊢
        unfold boundary_Tally_j1 at H0
        refine lok_rt E0 (⟨43,mkS [(4,.x (.one (.vw 123))),(5,.x (.one (.p (pi (0:Int)))))],mkH [(123,.arr 1 (List.map encI w))]⟩) ?_
        refine lok_ret ?_
        obtain rfl:=Option.some.inj H0
        try simp only [thenL,blockL]
        exact fin_au _ (.inr rfl) [] (⟨43,mkS [(4,.x (.one (.p (.sl 1 (List.map encI w))))),(5,.x (.one (.p (pi (0:Int)))))],mkH []⟩) rfl rfl (Imp.trans (imp_frz 123 1 (List.map encI w)) imp_au)
      case hxboundary_Tally_j1 =>
        refine lok_rt E0 (⟨43,mkS [(1,.x (.one (.p (.sl 1 (List.map encI b))))),(7,.x (.one (.vw 123))),(25,.x (.one (.p (.sl 1 (List.map encI d.Counts))))),(26,.x (.one (.p (pi (d.Counts.length:Int))))),(27,.x (.one (.p (pi (0:Int)))))],mkH [(123,.arr 1 (List.map encI (rep (IntKind.i64.wrap ((b.length:Int)+(1:Int))) (0:Int))))]⟩) ?_
        refine lok_block ?_
        replace H0:=bind_some H0
        obtain ⟨v_3,hv_3,H0⟩:=H0
        refine lok_iter (fun x_ => ⟨43,mkS [(1,.x (.one (.p (.sl 1 (List.map encI b))))),(7,.x (.one (.vw 123))),(25,.x (.one (.p (.sl 1 (List.map encI d.Counts))))),(26,.x (.one (.p (pi (d.Counts.length:Int))))),(27,.x (.one (.p (pi x_.1))))],mkH [(123,.arr 1 (List.map encI x_.2))]⟩) hv_3 imp_au ?_
        · rintro ⟨v,w1⟩ o_1 H1 k_1
          unfold boundary_Tally_l2 at H1
          try dsimp only at H1 ⊢
          refine lok_rt E0 (⟨43,mkS [(1,.x (.one (.p (.sl 1 (List.map encI b))))),(7,.x (.one (.vw 123))),(25,.x (.one (.p (.sl 1 (List.map encI d.Counts))))),(26,.x (.one (.p (pi (d.Counts.length:Int))))),(27,.x (.one (.p (pi v)))),(28,.x (.one (.p (.val (.bool (decide (v<(d.Counts.length:Int))))))))],mkH [(123,.arr 1 (List.map encI w1))]⟩) ?_
          refine lok_seq ?_
          refine lok_c (decide (v<(d.Counts.length:Int))) ?_ ?_
          · intro b_7
            replace H1:=cpos H1 b_7
            refine lok_skip ?_
            try simp only [thenL,blockL,↓reduceIte,reduceCtorEq]
            refine lok_seq ?_
            refine lok_block ?_
            replace H1:=req_some H1
            obtain ⟨q_6,H1⟩:=H1
            refine lok_rt E0 (⟨43,mkS [(1,.x (.one (.p (.sl 1 (List.map encI b))))),(7,.x (.one (.vw 123))),(8,.x (.one (.p (pi v)))),(9,.x (.one (.p (pi (ix d.Counts v))))),(25,.x (.one (.p (.sl 1 (List.map encI d.Counts))))),(26,.x (.one (.p (pi (d.Counts.length:Int))))),(27,.x (.one (.p (pi v))))],mkH [(123,.arr 1 (List.map encI w1))]⟩) ?_
            replace H1:=bind_some H1
            obtain ⟨y3,h_4,H1⟩:=H1
            replace H1:=req_some H1
            obtain ⟨q_5,H1⟩:=H1
            refine lok_rl (Env.of E0 [⟨some 35,12,[.one (.p (.sl 1 (List.map encI b))),.one (.p (pi v))],[],[.one (.p (pi y3))],[],True,fun _ => ok_boundary_Grade b v y3 h_4,[]⟩]) (⟨43,mkS [(1,.x (.one (.p (.sl 1 (List.map encI b))))),(7,.x (.one (.vw 123))),(25,.x (.one (.p (.sl 1 (List.map encI d.Counts))))),(26,.x (.one (.p (pi (d.Counts.length:Int))))),(27,.x (.one (.p (pi v))))],mkH [(123,.arr 1 (List.map encI (setI w1 y3 (IntKind.i64.wrap ((ix w1 y3)+(ix d.Counts v))))))]⟩) ?_
            try simp only [thenL,blockL,↓reduceIte,reduceCtorEq]
            refine lok_rl E0 (⟨43,mkS [(1,.x (.one (.p (.sl 1 (List.map encI b))))),(7,.x (.one (.vw 123))),(25,.x (.one (.p (.sl 1 (List.map encI d.Counts))))),(26,.x (.one (.p (pi (d.Counts.length:Int))))),(27,.x (.one (.p (pi (IntKind.i64.wrap (v+(1:Int)))))))],mkH [(123,.arr 1 (List.map encI (setI w1 y3 (IntKind.i64.wrap ((ix w1 y3)+(ix d.Counts v))))))]⟩) ?_
            try simp only [thenL,blockL,↓reduceIte,reduceCtorEq]
            exact ⟨((IntKind.i64.wrap (v+(1:Int))),(setI w1 y3 (IntKind.i64.wrap ((ix w1 y3)+(ix d.Counts v))))),(Option.some.inj H1).symm,imp_au⟩
          · intro b_7
            replace H1:=cneg H1 b_7
            refine lok_exit ?_
            try simp only [thenL,blockL,↓reduceIte,reduceCtorEq]
            have e_1:=k_1 _ (Option.some.inj H1).symm
            subst e_1
            try dsimp only at H0
            try simp only [thenL,blockL,↓reduceIte,reduceCtorEq]
            exact ⟨w1,H0,imp_au⟩
theorem ok_ref32_Valid (d:api_Distribution) (r_:Bool) (H0:ref32_Valid d=some r_):CallOK Tryz.prog 32 [.agg [.p (.sl 1 (List.map encI d.Counts))]] [] [.one (.p (.val (.bool r_)))] []:=by
  refine callOK (n:=45) (rs:=[.tmp 2]) (nb:=0) (V:=[]) Tryz.func32 rfl (by kernel_rfl) rfl rfl rfl rfl (Nat.le_of_ble_eq_true rfl) (by decide) ?_
  unfold ref32_Valid at H0
  refine lok_rt E0 (⟨45,mkS [(1,.x (.one (.ptr 101 0)))],mkH [(101,.var [.p (.sl 1 (List.map encI d.Counts))])]⟩) ?_
  refine lok_seq ?_
  refine lok_rt E0 (⟨45,mkS [(1,.x (.one (.ptr 101 0))),(14,.x (.one (.p (.val (.bool ((decide ((d.Counts.length:Int)<(1:Int)))||(decide ((201:Int)<(d.Counts.length:Int)))))))))],mkH [(101,.var [.p (.sl 1 (List.map encI d.Counts))])]⟩) ?_
  refine lok_c ((decide ((d.Counts.length:Int)<(1:Int)))||(decide ((201:Int)<(d.Counts.length:Int)))) ?_ ?_
  · intro b_6
    replace H0:=cpos H0 b_6
    refine lok_rt E0 (⟨45,mkS [(2,.x (.one (.p (.val (.bool false)))))],mkH []⟩) ?_
    refine lok_ret ?_
    obtain rfl:=Option.some.inj H0
    try simp only [thenL,blockL]
    exact fin_au _ (.inr rfl) [] (⟨45,mkS [(2,.x (.one (.p (.val (.bool false)))))],mkH []⟩) rfl rfl imp_au
  · intro b_6
    replace H0:=cneg H0 b_6
    refine lok_skip ?_
    try simp only [thenL,blockL,↓reduceIte,reduceCtorEq]
    refine lok_rt E0 (⟨45,mkS [(1,.x (.one (.ptr 101 0))),(3,.x (.one (.p (pi (0:Int)))))],mkH [(101,.var [.p (.sl 1 (List.map encI d.Counts))])]⟩) ?_
    refine lok_join (fun x_:Unit => ref32_Valid_j1=some r_) (fun x_ => ⟨45,mkS [],mkH []⟩) ?hyref32_Valid_j1 ?hxref32_Valid_j1
    case hyref32_Valid_j1 =>
      rintro _ H0
      try dsimp only at H0 ⊢
      unfold ref32_Valid_j1 at H0
      refine lok_rt E0 (⟨45,mkS [(2,.x (.one (.p (.val (.bool true)))))],mkH []⟩) ?_
      refine lok_ret ?_
      obtain rfl:=Option.some.inj H0
      try simp only [thenL,blockL]
      exact fin_au _ (.inr rfl) [] (⟨45,mkS [(2,.x (.one (.p (.val (.bool true)))))],mkH []⟩) rfl rfl imp_au
    case hxref32_Valid_j1 =>
      refine lok_rt E0 (⟨45,mkS [(1,.x (.one (.ptr 101 0))),(3,.x (.one (.p (pi (0:Int))))),(4,.x (.one (.p (pi (0:Int)))))],mkH [(101,.var [.p (.sl 1 (List.map encI d.Counts))])]⟩) ?_
      refine lok_block ?_
      replace H0:=bind_some H0
      obtain ⟨v_0,hv_0,H0⟩:=H0
      refine lok_iter (fun x_ => ⟨45,mkS [(1,.x (.one (.ptr 101 0))),(3,.x (.one (.p (pi x_.1)))),(4,.x (.one (.p (pi x_.2))))],mkH [(101,.var [.p (.sl 1 (List.map encI d.Counts))])]⟩) hv_0 imp_au ?_
      · rintro ⟨n,i⟩ o_1 H1 k_1
        unfold ref32_Valid_l2 at H1
        try dsimp only at H1 ⊢
        refine lok_seq ?_
        refine lok_rt E0 (⟨45,mkS [(1,.x (.one (.ptr 101 0))),(3,.x (.one (.p (pi n)))),(4,.x (.one (.p (pi i)))),(19,.x (.one (.p (.val (.bool (decide (i<(d.Counts.length:Int))))))))],mkH [(101,.var [.p (.sl 1 (List.map encI d.Counts))])]⟩) ?_
        refine lok_c (decide (i<(d.Counts.length:Int))) ?_ ?_
        · intro b_5
          replace H1:=cpos H1 b_5
          refine lok_skip ?_
          try simp only [thenL,blockL,↓reduceIte,reduceCtorEq]
          refine lok_seq ?_
          refine lok_block ?_
          refine lok_seq ?_
          replace H1:=req_some H1
          obtain ⟨⟨q_3,q_4⟩,H1⟩:=H1
          refine lok_rt E0 (⟨45,mkS [(1,.x (.one (.ptr 101 0))),(3,.x (.one (.p (pi n)))),(4,.x (.one (.p (pi i)))),(37,.x (.one (.p (.val (.bool ((decide ((ix d.Counts i)<(0:Int)))||(decide ((IntKind.i64.wrap ((1048576:Int)-n))<(ix d.Counts i)))))))))],mkH [(101,.var [.p (.sl 1 (List.map encI d.Counts))])]⟩) ?_
          refine lok_c ((decide ((ix d.Counts i)<(0:Int)))||(decide ((IntKind.i64.wrap ((1048576:Int)-n))<(ix d.Counts i)))) ?_ ?_
          · intro b_2
            replace H1:=cpos H1 b_2
            refine lok_rt E0 (⟨45,mkS [(2,.x (.one (.p (.val (.bool false)))))],mkH []⟩) ?_
            refine lok_ret ?_
            try simp only [thenL,blockL,↓reduceIte,reduceCtorEq]
            have e_1:=k_1 _ (Option.some.inj H1).symm
            subst e_1
            try dsimp only at H0
            obtain rfl:=Option.some.inj H0
            try simp only [thenL,blockL]
            exact fin_au _ (.inr rfl) [] (⟨45,mkS [(2,.x (.one (.p (.val (.bool false)))))],mkH []⟩) rfl rfl imp_au
          · intro b_2
            replace H1:=cneg H1 b_2
            refine lok_skip ?_
            try simp only [thenL,blockL,↓reduceIte,reduceCtorEq]
            replace H1:=req_some H1
            obtain ⟨q_1,H1⟩:=H1
            refine lok_rl E0 (⟨45,mkS [(1,.x (.one (.ptr 101 0))),(3,.x (.one (.p (pi (IntKind.i64.wrap (n+(ix d.Counts i))))))),(4,.x (.one (.p (pi i))))],mkH [(101,.var [.p (.sl 1 (List.map encI d.Counts))])]⟩) ?_
            try simp only [thenL,blockL,↓reduceIte,reduceCtorEq]
            refine lok_rl E0 (⟨45,mkS [(1,.x (.one (.ptr 101 0))),(3,.x (.one (.p (pi (IntKind.i64.wrap (n+(ix d.Counts i))))))),(4,.x (.one (.p (pi (IntKind.i64.wrap (i+(1:Int)))))))],mkH [(101,.var [.p (.sl 1 (List.map encI d.Counts))])]⟩) ?_
            try simp only [thenL,blockL,↓reduceIte,reduceCtorEq]
            exact ⟨((IntKind.i64.wrap (n+(ix d.Counts i))),(IntKind.i64.wrap (i+(1:Int)))),(Option.some.inj H1).symm,imp_au⟩
        · intro b_5
          replace H1:=cneg H1 b_5
          refine lok_exit ?_
          try simp only [thenL,blockL,↓reduceIte,reduceCtorEq]
          have e_1:=k_1 _ (Option.some.inj H1).symm
          subst e_1
          try dsimp only at H0
          try simp only [thenL,blockL,↓reduceIte,reduceCtorEq]
          exact ⟨(),H0,imp_au⟩
theorem ok_ref35_Tally (d:api_Distribution) (b:List Int) (r_:(List Int) × Int) (H0:ref35_Tally d b=some r_):CallOK Tryz.prog 15 [.agg [.p (.sl 1 (List.map encI d.Counts))],.one (.p (.sl 1 (List.map encI b)))] [] [.one (.p (.sl 1 (List.map encI r_.1))),.one (.p (pi r_.2))] []:=by
  refine callOK (n:=46) (rs:=[.tmp 4,.tmp 5]) (nb:=0) (V:=[]) Tryz.func15 rfl (by kernel_rfl) rfl rfl rfl rfl (Nat.le_of_ble_eq_true rfl) (by decide) ?_
  unfold ref35_Tally at H0
  refine lok_rt E0 (⟨46,mkS [(1,.x (.one (.p (.sl 1 (List.map encI b))))),(2,.x (.one (.ptr 102 0)))],mkH [(102,.var [.p (.sl 1 (List.map encI d.Counts))])]⟩) ?_
  refine lok_seq ?_
  replace H0:=bind_some H0
  obtain ⟨y,h_0,H0⟩:=H0
  refine lok_rt (Env.of E0 [⟨some 10,32,[.agg [.p (.sl 1 (List.map encI d.Counts))]],[],[.one (.p (.val (.bool y)))],[],True,fun _ => ok_ref32_Valid d y h_0,[]⟩]) (⟨46,mkS [(1,.x (.one (.p (.sl 1 (List.map encI b))))),(2,.x (.one (.ptr 102 0))),(11,.x (.one (.p (.val (.bool (!y))))))],mkH [(102,.var [.p (.sl 1 (List.map encI d.Counts))])]⟩) ?_
  refine lok_c (!y) ?_ ?_
  · intro b_9
    replace H0:=cpos H0 b_9
    refine lok_rt E0 (⟨46,mkS [(4,.x (.one (.vw 104))),(5,.x (.one (.p (pi (1:Int)))))],mkH [(104,.arr 1 (List.map encI ([]:List Int)))]⟩) ?_
    refine lok_ret ?_
    obtain rfl:=Option.some.inj H0
    try simp only [thenL,blockL]
    exact fin_au _ (.inr rfl) [] (⟨46,mkS [(4,.x (.one (.p (.sl 1 (List.map encI ([]:List Int)))))),(5,.x (.one (.p (pi (1:Int)))))],mkH []⟩) rfl rfl (Imp.trans (imp_frz 104 1 (List.map encI ([]:List Int))) imp_au)
  · intro b_9
    replace H0:=cneg H0 b_9
    refine lok_skip ?_
    try simp only [thenL,blockL,↓reduceIte,reduceCtorEq]
    refine lok_seq ?_
    replace H0:=bind_some H0
    obtain ⟨y1,h_1,H0⟩:=H0
    refine lok_rt (Env.of E0 [⟨some 17,11,[.one (.p (.sl 1 (List.map encI b))),.one (.p (pi (IntKind.i64.wrap ((d.Counts.length:Int)-(1:Int)))))],[],[.one (.p (pi y1))],[],True,fun _ => ok_ref35_Check b (IntKind.i64.wrap ((d.Counts.length:Int)-(1:Int))) y1 h_1,[]⟩]) (⟨46,mkS [(1,.x (.one (.p (.sl 1 (List.map encI b))))),(2,.x (.one (.ptr 102 0))),(6,.x (.one (.p (pi y1))))],mkH [(102,.var [.p (.sl 1 (List.map encI d.Counts))])]⟩) ?_
    refine lok_rt E0 (⟨46,mkS [(1,.x (.one (.p (.sl 1 (List.map encI b))))),(2,.x (.one (.ptr 102 0))),(6,.x (.one (.p (pi y1)))),(19,.x (.one (.p (.val (.bool (y1 != (0:Int)))))))],mkH [(102,.var [.p (.sl 1 (List.map encI d.Counts))])]⟩) ?_
    refine lok_c (y1 != (0:Int)) ?_ ?_
    · intro b_8
      replace H0:=cpos H0 b_8
      refine lok_rt E0 (⟨46,mkS [(4,.x (.one (.vw 104))),(5,.x (.one (.p (pi y1))))],mkH [(104,.arr 1 (List.map encI ([]:List Int)))]⟩) ?_
      refine lok_ret ?_
      obtain rfl:=Option.some.inj H0
      try simp only [thenL,blockL]
      exact fin_au _ (.inr rfl) [] (⟨46,mkS [(4,.x (.one (.p (.sl 1 (List.map encI ([]:List Int)))))),(5,.x (.one (.p (pi y1))))],mkH []⟩) rfl rfl (Imp.trans (imp_frz 104 1 (List.map encI ([]:List Int))) imp_au)
    · intro b_8
      replace H0:=cneg H0 b_8
      refine lok_skip ?_
      try simp only [thenL,blockL,↓reduceIte,reduceCtorEq]
      replace H0:=req_some H0
      obtain ⟨q_7,H0⟩:=H0
      refine lok_rt E0 (⟨46,mkS [(1,.x (.one (.p (.sl 1 (List.map encI b))))),(2,.x (.one (.ptr 102 0))),(7,.x (.one (.vw 124)))],mkH [(102,.var [.p (.sl 1 (List.map encI d.Counts))]),(124,.arr 1 (List.map encI (rep (IntKind.i64.wrap ((b.length:Int)+(1:Int))) (0:Int))))]⟩) ?_
      refine lok_join (fun x_:(List Int) => ref35_Tally_j1 x_=some r_) (fun x_ => ⟨46,mkS [(7,.x (.one (.vw 124)))],mkH [(124,.arr 1 (List.map encI x_))]⟩) ?hyref35_Tally_j1 ?hxref35_Tally_j1
      case hyref35_Tally_j1 =>
        rintro w H0
        try dsimp only at H0 ⊢
        unfold ref35_Tally_j1 at H0
        refine lok_rt E0 (⟨46,mkS [(4,.x (.one (.vw 124))),(5,.x (.one (.p (pi (0:Int)))))],mkH [(124,.arr 1 (List.map encI w))]⟩) ?_
        refine lok_ret ?_
        obtain rfl:=Option.some.inj H0
        try simp only [thenL,blockL]
        exact fin_au _ (.inr rfl) [] (⟨46,mkS [(4,.x (.one (.p (.sl 1 (List.map encI w))))),(5,.x (.one (.p (pi (0:Int)))))],mkH []⟩) rfl rfl (Imp.trans (imp_frz 124 1 (List.map encI w)) imp_au)
      case hxref35_Tally_j1 =>
        refine lok_rt E0 (⟨46,mkS [(1,.x (.one (.p (.sl 1 (List.map encI b))))),(2,.x (.one (.ptr 102 0))),(7,.x (.one (.vw 124))),(8,.x (.one (.p (pi (0:Int)))))],mkH [(102,.var [.p (.sl 1 (List.map encI d.Counts))]),(124,.arr 1 (List.map encI (rep (IntKind.i64.wrap ((b.length:Int)+(1:Int))) (0:Int))))]⟩) ?_
        refine lok_block ?_
        replace H0:=bind_some H0
        obtain ⟨v_2,hv_2,H0⟩:=H0
        refine lok_iter (fun x_ => ⟨46,mkS [(1,.x (.one (.p (.sl 1 (List.map encI b))))),(2,.x (.one (.ptr 102 0))),(7,.x (.one (.vw 124))),(8,.x (.one (.p (pi x_.1))))],mkH [(102,.var [.p (.sl 1 (List.map encI d.Counts))]),(124,.arr 1 (List.map encI x_.2))]⟩) hv_2 imp_au ?_
        · rintro ⟨i,w1⟩ o_1 H1 k_1
          unfold ref35_Tally_l2 at H1
          try dsimp only at H1 ⊢
          refine lok_seq ?_
          refine lok_rt E0 (⟨46,mkS [(1,.x (.one (.p (.sl 1 (List.map encI b))))),(2,.x (.one (.ptr 102 0))),(7,.x (.one (.vw 124))),(8,.x (.one (.p (pi i)))),(29,.x (.one (.p (.val (.bool (decide (i<(d.Counts.length:Int))))))))],mkH [(102,.var [.p (.sl 1 (List.map encI d.Counts))]),(124,.arr 1 (List.map encI w1))]⟩) ?_
          refine lok_c (decide (i<(d.Counts.length:Int))) ?_ ?_
          · intro b_6
            replace H1:=cpos H1 b_6
            refine lok_skip ?_
            try simp only [thenL,blockL,↓reduceIte,reduceCtorEq]
            refine lok_seq ?_
            refine lok_block ?_
            replace H1:=bind_some H1
            obtain ⟨y2,h_3,H1⟩:=H1
            replace H1:=req_some H1
            obtain ⟨⟨q_4,q_5⟩,H1⟩:=H1
            refine lok_dl (Env.of E0 [⟨some 35,13,[.one (.p (.sl 1 (List.map encI b))),.one (.p (pi i))],[],[.one (.p (pi y2))],[],True,fun _ => ok_ref35_Grade b i y2 h_3,[]⟩]) 11 (⟨46,mkS [(1,.x (.one (.p (.sl 1 (List.map encI b))))),(2,.x (.one (.ptr 102 0))),(7,.x (.one (.vw 124))),(8,.x (.one (.p (pi i))))],mkH [(102,.var [.p (.sl 1 (List.map encI d.Counts))]),(124,.arr 1 (List.map encI (setI w1 y2 (IntKind.i64.wrap ((ix w1 y2)+(ix d.Counts i))))))]⟩) (by kernel_rfl) (by kernel_rfl) ?_
            try simp only [thenL,blockL,↓reduceIte,reduceCtorEq]
            refine lok_rl E0 (⟨46,mkS [(1,.x (.one (.p (.sl 1 (List.map encI b))))),(2,.x (.one (.ptr 102 0))),(7,.x (.one (.vw 124))),(8,.x (.one (.p (pi (IntKind.i64.wrap (i+(1:Int)))))))],mkH [(102,.var [.p (.sl 1 (List.map encI d.Counts))]),(124,.arr 1 (List.map encI (setI w1 y2 (IntKind.i64.wrap ((ix w1 y2)+(ix d.Counts i))))))]⟩) ?_
            try simp only [thenL,blockL,↓reduceIte,reduceCtorEq]
            exact ⟨((IntKind.i64.wrap (i+(1:Int))),(setI w1 y2 (IntKind.i64.wrap ((ix w1 y2)+(ix d.Counts i))))),(Option.some.inj H1).symm,imp_au⟩
          · intro b_6
            replace H1:=cneg H1 b_6
            refine lok_exit ?_
            try simp only [thenL,blockL,↓reduceIte,reduceCtorEq]
            have e_1:=k_1 _ (Option.some.inj H1).symm
            subst e_1
            try dsimp only at H0
            try simp only [thenL,blockL,↓reduceIte,reduceCtorEq]
            exact ⟨w1,H0,imp_au⟩
theorem ok_distribution_Below (d:api_Distribution) (score:Int) (r_:Int) (H0:distribution_Below d score=some r_):CallOK Tryz.prog 47 [.agg [.p (.sl 1 (List.map encI d.Counts))],.one (.p (pi score))] [] [.one (.p (pi r_))] []:=by
  refine callOK (n:=30) (rs:=[.tmp 4]) (nb:=0) (V:=[]) Tryz.func47 rfl (by kernel_rfl) rfl rfl rfl rfl (Nat.le_of_ble_eq_true rfl) (by decide) ?_
  unfold distribution_Below at H0
  refine lok_rt E0 (⟨30,mkS [(1,.x (.one (.p (pi score)))),(2,.x (.one (.ptr 102 0)))],mkH [(102,.var [.p (.sl 1 (List.map encI d.Counts))])]⟩) ?_
  refine lok_seq ?_
  replace H0:=bind_some H0
  obtain ⟨y,h_0,H0⟩:=H0
  refine lok_rt (Env.of E0 [⟨some 8,30,[.agg [.p (.sl 1 (List.map encI d.Counts))]],[],[.one (.p (.val (.bool y)))],[],True,fun _ => ok_distribution_Valid d y h_0,[]⟩]) (⟨30,mkS [(1,.x (.one (.p (pi score)))),(2,.x (.one (.ptr 102 0))),(9,.x (.one (.p (.val (.bool (!y))))))],mkH [(102,.var [.p (.sl 1 (List.map encI d.Counts))])]⟩) ?_
  refine lok_c (!y) ?_ ?_
  · intro b_4
    replace H0:=cpos H0 b_4
    refine lok_rt E0 (⟨30,mkS [(4,.x (.one (.p (pi (0:Int)))))],mkH []⟩) ?_
    refine lok_ret ?_
    obtain rfl:=Option.some.inj H0
    try simp only [thenL,blockL]
    exact fin_au _ (.inr rfl) [] (⟨30,mkS [(4,.x (.one (.p (pi (0:Int)))))],mkH []⟩) rfl rfl imp_au
  · intro b_4
    replace H0:=cneg H0 b_4
    refine lok_skip ?_
    try simp only [thenL,blockL,↓reduceIte,reduceCtorEq]
    refine lok_rt E0 (⟨30,mkS [(1,.x (.one (.p (pi score)))),(2,.x (.one (.ptr 102 0))),(5,.x (.one (.p (pi (0:Int)))))],mkH [(102,.var [.p (.sl 1 (List.map encI d.Counts))])]⟩) ?_
    refine lok_join (fun x_:Int => distribution_Below_j1 x_=some r_) (fun x_ => ⟨30,mkS [(5,.x (.one (.p (pi x_))))],mkH []⟩) ?hydistribution_Below_j1 ?hxdistribution_Below_j1
    case hydistribution_Below_j1 =>
      rintro sum H0
      try dsimp only at H0 ⊢
      unfold distribution_Below_j1 at H0
      refine lok_rt E0 (⟨30,mkS [(4,.x (.one (.p (pi sum))))],mkH []⟩) ?_
      refine lok_ret ?_
      obtain rfl:=Option.some.inj H0
      try simp only [thenL,blockL]
      exact fin_au _ (.inr rfl) [] (⟨30,mkS [(4,.x (.one (.p (pi sum))))],mkH []⟩) rfl rfl imp_au
    case hxdistribution_Below_j1 =>
      refine lok_rt E0 (⟨30,mkS [(1,.x (.one (.p (pi score)))),(2,.x (.one (.ptr 102 0))),(5,.x (.one (.p (pi (0:Int))))),(6,.x (.one (.p (pi (0:Int)))))],mkH [(102,.var [.p (.sl 1 (List.map encI d.Counts))])]⟩) ?_
      refine lok_block ?_
      replace H0:=bind_some H0
      obtain ⟨v_1,hv_1,H0⟩:=H0
      refine lok_iter (fun x_ => ⟨30,mkS [(1,.x (.one (.p (pi score)))),(2,.x (.one (.ptr 102 0))),(5,.x (.one (.p (pi x_.1)))),(6,.x (.one (.p (pi x_.2))))],mkH [(102,.var [.p (.sl 1 (List.map encI d.Counts))])]⟩) hv_1 imp_au ?_
      · rintro ⟨sum1,i⟩ o_1 H1 k_1
        unfold distribution_Below_l2 at H1
        try dsimp only at H1 ⊢
        refine lok_seq ?_
        refine lok_rt E0 (⟨30,mkS [(1,.x (.one (.p (pi score)))),(2,.x (.one (.ptr 102 0))),(5,.x (.one (.p (pi sum1)))),(6,.x (.one (.p (pi i)))),(19,.x (.one (.p (.val (.bool ((decide (i<(d.Counts.length:Int)))&&(decide (i<score))))))))],mkH [(102,.var [.p (.sl 1 (List.map encI d.Counts))])]⟩) ?_
        refine lok_c ((decide (i<(d.Counts.length:Int)))&&(decide (i<score))) ?_ ?_
        · intro b_3
          replace H1:=cpos H1 b_3
          refine lok_skip ?_
          try simp only [thenL,blockL,↓reduceIte,reduceCtorEq]
          refine lok_seq ?_
          refine lok_block ?_
          replace H1:=req_some H1
          obtain ⟨q_2,H1⟩:=H1
          refine lok_rl E0 (⟨30,mkS [(1,.x (.one (.p (pi score)))),(2,.x (.one (.ptr 102 0))),(5,.x (.one (.p (pi (IntKind.i64.wrap (sum1+(ix d.Counts i))))))),(6,.x (.one (.p (pi i))))],mkH [(102,.var [.p (.sl 1 (List.map encI d.Counts))])]⟩) ?_
          try simp only [thenL,blockL,↓reduceIte,reduceCtorEq]
          refine lok_rl E0 (⟨30,mkS [(1,.x (.one (.p (pi score)))),(2,.x (.one (.ptr 102 0))),(5,.x (.one (.p (pi (IntKind.i64.wrap (sum1+(ix d.Counts i))))))),(6,.x (.one (.p (pi (IntKind.i64.wrap (i+(1:Int)))))))],mkH [(102,.var [.p (.sl 1 (List.map encI d.Counts))])]⟩) ?_
          try simp only [thenL,blockL,↓reduceIte,reduceCtorEq]
          exact ⟨((IntKind.i64.wrap (sum1+(ix d.Counts i))),(IntKind.i64.wrap (i+(1:Int)))),(Option.some.inj H1).symm,imp_au⟩
        · intro b_3
          replace H1:=cneg H1 b_3
          refine lok_exit ?_
          try simp only [thenL,blockL,↓reduceIte,reduceCtorEq]
          have e_1:=k_1 _ (Option.some.inj H1).symm
          subst e_1
          try dsimp only at H0
          try simp only [thenL,blockL,↓reduceIte,reduceCtorEq]
          exact ⟨sum1,H0,imp_au⟩
theorem ok_distribution_Count (d:api_Distribution) (r_:Int) (H0:distribution_Count d=some r_):CallOK Tryz.prog 33 [.agg [.p (.sl 1 (List.map encI d.Counts))]] [] [.one (.p (pi r_))] []:=by
  refine callOK (n:=8) (rs:=[.tmp 2]) (nb:=0) (V:=[]) Tryz.func33 rfl (by kernel_rfl) rfl rfl rfl rfl (Nat.le_of_ble_eq_true rfl) (by decide) ?_
  unfold distribution_Count at H0
  refine lok_rt E0 (⟨8,mkS [(1,.x (.one (.ptr 101 0)))],mkH [(101,.var [.p (.sl 1 (List.map encI d.Counts))])]⟩) ?_
  replace H0:=bind_some H0
  obtain ⟨y,h_0,H0⟩:=H0
  refine lok_rt (Env.of E0 [⟨some 7,47,[.agg [.p (.sl 1 (List.map encI d.Counts))],.one (.p (pi (d.Counts.length:Int)))],[],[.one (.p (pi y))],[],True,fun _ => ok_distribution_Below d (d.Counts.length:Int) y h_0,[]⟩]) (⟨8,mkS [(2,.x (.one (.p (pi y))))],mkH []⟩) ?_
  refine lok_ret ?_
  obtain rfl:=Option.some.inj H0
  try simp only [thenL,blockL]
  exact fin_au _ (.inr rfl) [] (⟨8,mkS [(2,.x (.one (.p (pi y))))],mkH []⟩) rfl rfl imp_au
theorem ok_boundary_reaching (d:api_Distribution) (r_:(List Int)) (H0:boundary_reaching d=some r_):CallOK Tryz.prog 34 [.agg [.p (.sl 1 (List.map encI d.Counts))]] [] [.one (.p (.sl 1 (List.map encI r_)))] []:=by
  refine callOK (n:=31) (rs:=[.tmp 2]) (nb:=0) (V:=[]) Tryz.func34 rfl (by kernel_rfl) rfl rfl rfl rfl (Nat.le_of_ble_eq_true rfl) (by decide) ?_
  unfold boundary_reaching at H0
  refine lok_rt E0 (⟨31,mkS [(1,.x (.one (.ptr 101 0)))],mkH [(101,.var [.p (.sl 1 (List.map encI d.Counts))])]⟩) ?_
  replace H0:=req_some H0
  obtain ⟨q_7,H0⟩:=H0
  refine lok_rt E0 (⟨31,mkS [(1,.x (.one (.ptr 101 0))),(3,.x (.one (.vw 109)))],mkH [(101,.var [.p (.sl 1 (List.map encI d.Counts))]),(109,.arr 1 (List.map encI (rep (IntKind.i64.wrap ((d.Counts.length:Int)+(1:Int))) (0:Int))))]⟩) ?_
  refine lok_join (fun x_:(List Int) => boundary_reaching_j1 x_=some r_) (fun x_ => ⟨31,mkS [(3,.x (.one (.vw 109)))],mkH [(109,.arr 1 (List.map encI x_))]⟩) ?hyboundary_reaching_j1 ?hxboundary_reaching_j1
  case hyboundary_reaching_j1 =>
    rintro w H0
    try dsimp only at H0 ⊢
    unfold boundary_reaching_j1 at H0
    refine lok_rt E0 (⟨31,mkS [(2,.x (.one (.vw 109)))],mkH [(109,.arr 1 (List.map encI w))]⟩) ?_
    refine lok_ret ?_
    obtain rfl:=Option.some.inj H0
    try simp only [thenL,blockL]
    exact fin_au _ (.inr rfl) [] (⟨31,mkS [(2,.x (.one (.p (.sl 1 (List.map encI w)))))],mkH []⟩) rfl rfl (Imp.trans (imp_frz 109 1 (List.map encI w)) imp_au)
  case hxboundary_reaching_j1 =>
    replace H0:=bind_some H0
    obtain ⟨y,h_0,H0⟩:=H0
    refine lok_rt (Env.of E0 [⟨some 11,31,[.agg [.p (.sl 1 (List.map encI d.Counts))]],[],[.one (.p (pi y))],[],True,fun _ => ok_boundary_greatest d y h_0,[]⟩]) (⟨31,mkS [(1,.x (.one (.ptr 101 0))),(3,.x (.one (.vw 109))),(4,.x (.one (.p (pi y))))],mkH [(101,.var [.p (.sl 1 (List.map encI d.Counts))]),(109,.arr 1 (List.map encI (rep (IntKind.i64.wrap ((d.Counts.length:Int)+(1:Int))) (0:Int))))]⟩) ?_
    refine lok_block ?_
    replace H0:=bind_some H0
    obtain ⟨v_1,hv_1,H0⟩:=H0
    refine lok_iter (fun x_ => ⟨31,mkS [(1,.x (.one (.ptr 101 0))),(3,.x (.one (.vw 109))),(4,.x (.one (.p (pi x_.1))))],mkH [(101,.var [.p (.sl 1 (List.map encI d.Counts))]),(109,.arr 1 (List.map encI x_.2))]⟩) hv_1 imp_au ?_
    · rintro ⟨i,w1⟩ o_1 H1 k_1
      unfold boundary_reaching_l2 at H1
      try dsimp only at H1 ⊢
      refine lok_seq ?_
      refine lok_rt E0 (⟨31,mkS [(1,.x (.one (.ptr 101 0))),(3,.x (.one (.vw 109))),(4,.x (.one (.p (pi i)))),(13,.x (.one (.p (.val (.bool (decide ((0:Int)≤i)))))))],mkH [(101,.var [.p (.sl 1 (List.map encI d.Counts))]),(109,.arr 1 (List.map encI w1))]⟩) ?_
      refine lok_c (decide ((0:Int)≤i)) ?_ ?_
      · intro b_6
        replace H1:=cpos H1 b_6
        refine lok_skip ?_
        try simp only [thenL,blockL,↓reduceIte,reduceCtorEq]
        refine lok_seq ?_
        refine lok_block ?_
        replace H1:=req_some H1
        obtain ⟨⟨q_3,q_4,q_5⟩,H1⟩:=H1
        replace H1:=bindV_some H1
        obtain ⟨w3,a_2,H1⟩:=H1
        refine lok_dlg E0 13 a_2 (⟨31,mkS [(1,.x (.one (.ptr 101 0))),(3,.x (.one (.vw 109))),(4,.x (.one (.p (pi i))))],mkH [(101,.var [.p (.sl 1 (List.map encI d.Counts))]),(109,.arr 1 (List.map encI w3))]⟩) (by kernel_rfl) (by kernel_rfl) ?_
        try simp only [thenL,blockL,↓reduceIte,reduceCtorEq]
        refine lok_rl E0 (⟨31,mkS [(1,.x (.one (.ptr 101 0))),(3,.x (.one (.vw 109))),(4,.x (.one (.p (pi (IntKind.i64.wrap (i-(1:Int)))))))],mkH [(101,.var [.p (.sl 1 (List.map encI d.Counts))]),(109,.arr 1 (List.map encI w3))]⟩) ?_
        try simp only [thenL,blockL,↓reduceIte,reduceCtorEq]
        exact ⟨((IntKind.i64.wrap (i-(1:Int))),w3),(Option.some.inj H1).symm,imp_au⟩
      · intro b_6
        replace H1:=cneg H1 b_6
        refine lok_exit ?_
        try simp only [thenL,blockL,↓reduceIte,reduceCtorEq]
        have e_1:=k_1 _ (Option.some.inj H1).symm
        subst e_1
        try dsimp only at H0
        try simp only [thenL,blockL,↓reduceIte,reduceCtorEq]
        exact ⟨w1,H0,imp_au⟩
theorem ok_ratio_gcd (a:Int) (b:Int) (r_:Int) (H0:ratio_gcd a b=some r_):CallOK Tryz.prog 63 [.one (.p (.val (.int .u64 a))),.one (.p (.val (.int .u64 b)))] [] [.one (.p (.val (.int .u64 r_)))] []:=by
  refine callOK (n:=12) (rs:=[.tmp 4]) (nb:=0) (V:=[]) Tryz.func63 rfl (by kernel_rfl) rfl rfl rfl rfl (Nat.le_of_ble_eq_true rfl) (by decide) ?_
  unfold ratio_gcd at H0
  refine lok_rt E0 (⟨12,mkS [(0,.x (.one (.p (.val (.int .u64 a))))),(1,.x (.one (.p (.val (.int .u64 b)))))],mkH []⟩) ?_
  refine lok_join (fun x_:Int => ratio_gcd_j1 x_=some r_) (fun x_ => ⟨12,mkS [(0,.x (.one (.p (.val (.int .u64 x_)))))],mkH []⟩) ?hyratio_gcd_j1 ?hxratio_gcd_j1
  case hyratio_gcd_j1 =>
    rintro a1 H0
    try dsimp only at H0 ⊢
    unfold ratio_gcd_j1 at H0
    refine lok_rt E0 (⟨12,mkS [(4,.x (.one (.p (.val (.int .u64 a1)))))],mkH []⟩) ?_
    refine lok_ret ?_
    obtain rfl:=Option.some.inj H0
    try simp only [thenL,blockL]
    exact fin_au _ (.inr rfl) [] (⟨12,mkS [(4,.x (.one (.p (.val (.int .u64 a1)))))],mkH []⟩) rfl rfl imp_au
  case hxratio_gcd_j1 =>
    refine lok_block ?_
    replace H0:=bind_some H0
    obtain ⟨v_0,hv_0,H0⟩:=H0
    refine lok_iter (fun x_ => ⟨12,mkS [(0,.x (.one (.p (.val (.int .u64 x_.1))))),(1,.x (.one (.p (.val (.int .u64 x_.2)))))],mkH []⟩) hv_0 imp_au ?_
    · rintro ⟨a2,b1⟩ o_1 H1 k_1
      unfold ratio_gcd_l2 at H1
      try dsimp only at H1 ⊢
      refine lok_seq ?_
      refine lok_rt E0 (⟨12,mkS [(0,.x (.one (.p (.val (.int .u64 a2))))),(1,.x (.one (.p (.val (.int .u64 b1))))),(6,.x (.one (.p (.val (.bool (b1 != (0:Int)))))))],mkH []⟩) ?_
      refine lok_c (b1 != (0:Int)) ?_ ?_
      · intro b_2
        replace H1:=cpos H1 b_2
        refine lok_skip ?_
        try simp only [thenL,blockL,↓reduceIte,reduceCtorEq]
        refine lok_block ?_
        replace H1:=req_some H1
        obtain ⟨q_1,H1⟩:=H1
        refine lok_dl E0 5 (⟨12,mkS [(0,.x (.one (.p (.val (.int .u64 b1))))),(1,.x (.one (.p (.val (.int .u64 (Int.tmod a2 b1))))))],mkH []⟩) (by kernel_rfl) (by kernel_rfl) ?_
        try simp only [thenL,blockL,↓reduceIte,reduceCtorEq]
        exact ⟨(b1,(Int.tmod a2 b1)),(Option.some.inj H1).symm,imp_au⟩
      · intro b_2
        replace H1:=cneg H1 b_2
        refine lok_exit ?_
        try simp only [thenL,blockL,↓reduceIte,reduceCtorEq]
        have e_1:=k_1 _ (Option.some.inj H1).symm
        subst e_1
        try dsimp only at H0
        try simp only [thenL,blockL,↓reduceIte,reduceCtorEq]
        exact ⟨a2,H0,imp_au⟩
theorem ok_bits_Len64 (x:Int) (r_:Int) (H0:bits_Len64 x=some r_):CallOK Tryz.prog 110 [.one (.p (.val (.int .u64 x)))] [] [.one (.p (pi r_))] []:=by
  refine callOK (n:=25) (rs:=[.tmp 2]) (nb:=0) (V:=[]) Tryz.func110 rfl (by kernel_rfl) rfl rfl rfl rfl (Nat.le_of_ble_eq_true rfl) (by decide) ?_
  unfold bits_Len64 at H0
  refine lok_rt E0 (⟨25,mkS [(0,.x (.one (.p (.val (.int .u64 x))))),(2,.x (.one (.p (pi (0:Int)))))],mkH []⟩) ?_
  refine lok_join (fun x_:Int × Int => bits_Len64_j3 x_.1 x_.2=some r_) (fun x_ => ⟨25,mkS [(0,.x (.one (.p (.val (.int .u64 x_.1))))),(2,.x (.one (.p (pi x_.2))))],mkH []⟩) ?hybits_Len64_j3 ?hxbits_Len64_j3
  case hybits_Len64_j3 =>
    rintro ⟨x1,n⟩ H0
    try dsimp only at H0 ⊢
    unfold bits_Len64_j3 at H0
    refine lok_join (fun x_:Int × Int => bits_Len64_j2 x_.1 x_.2=some r_) (fun x_ => ⟨25,mkS [(0,.x (.one (.p (.val (.int .u64 x_.1))))),(2,.x (.one (.p (pi x_.2))))],mkH []⟩) ?hybits_Len64_j2 ?hxbits_Len64_j2
    case hybits_Len64_j2 =>
      rintro ⟨x2,n1⟩ H0
      try dsimp only at H0 ⊢
      unfold bits_Len64_j2 at H0
      refine lok_join (fun x_:Int × Int => bits_Len64_j1 x_.1 x_.2=some r_) (fun x_ => ⟨25,mkS [(0,.x (.one (.p (.val (.int .u64 x_.1))))),(2,.x (.one (.p (pi x_.2))))],mkH []⟩) ?hybits_Len64_j1 ?hxbits_Len64_j1
      case hybits_Len64_j1 =>
        rintro ⟨x3,n2⟩ H0
        try dsimp only at H0 ⊢
        unfold bits_Len64_j1 at H0
        replace H0:=req_some H0
        obtain ⟨q_1,H0⟩:=H0
        replace H0:=bindV_some H0
        obtain ⟨n3,a_0,H0⟩:=H0
        refine lok_rtg E0 a_0 (⟨25,mkS [(2,.x (.one (.p (pi n3))))],mkH []⟩) ?_
        refine lok_ret ?_
        obtain rfl:=Option.some.inj H0
        try simp only [thenL,blockL]
        exact fin_au _ (.inr rfl) [] (⟨25,mkS [(2,.x (.one (.p (pi n3))))],mkH []⟩) rfl rfl imp_au
      case hxbits_Len64_j1 =>
        refine lok_rt E0 (⟨25,mkS [(0,.x (.one (.p (.val (.int .u64 x2))))),(2,.x (.one (.p (pi n1)))),(14,.x (.one (.p (.val (.bool (decide ((256:Int)≤x2)))))))],mkH []⟩) ?_
        refine lok_c (decide ((256:Int)≤x2)) ?_ ?_
        · intro b_2
          replace H0:=cpos H0 b_2
          refine lok_rt E0 (⟨25,mkS [(0,.x (.one (.p (.val (.int .u64 (bShr .u64 x2 (8:Int))))))),(2,.x (.one (.p (pi n1))))],mkH []⟩) ?_
          refine lok_rl E0 (⟨25,mkS [(0,.x (.one (.p (.val (.int .u64 (bShr .u64 x2 (8:Int))))))),(2,.x (.one (.p (pi (IntKind.i64.wrap (n1+(8:Int)))))))],mkH []⟩) ?_
          try simp only [thenL,blockL,↓reduceIte,reduceCtorEq]
          exact ⟨((bShr .u64 x2 (8:Int)),(IntKind.i64.wrap (n1+(8:Int)))),H0,imp_au⟩
        · intro b_2
          replace H0:=cneg H0 b_2
          refine lok_skip ?_
          try simp only [thenL,blockL,↓reduceIte,reduceCtorEq]
          exact ⟨(x2,n1),H0,imp_au⟩
    case hxbits_Len64_j2 =>
      refine lok_rt E0 (⟨25,mkS [(0,.x (.one (.p (.val (.int .u64 x1))))),(2,.x (.one (.p (pi n)))),(8,.x (.one (.p (.val (.bool (decide ((65536:Int)≤x1)))))))],mkH []⟩) ?_
      refine lok_c (decide ((65536:Int)≤x1)) ?_ ?_
      · intro b_3
        replace H0:=cpos H0 b_3
        refine lok_rt E0 (⟨25,mkS [(0,.x (.one (.p (.val (.int .u64 (bShr .u64 x1 (16:Int))))))),(2,.x (.one (.p (pi n))))],mkH []⟩) ?_
        refine lok_rl E0 (⟨25,mkS [(0,.x (.one (.p (.val (.int .u64 (bShr .u64 x1 (16:Int))))))),(2,.x (.one (.p (pi (IntKind.i64.wrap (n+(16:Int)))))))],mkH []⟩) ?_
        try simp only [thenL,blockL,↓reduceIte,reduceCtorEq]
        exact ⟨((bShr .u64 x1 (16:Int)),(IntKind.i64.wrap (n+(16:Int)))),H0,imp_au⟩
      · intro b_3
        replace H0:=cneg H0 b_3
        refine lok_skip ?_
        try simp only [thenL,blockL,↓reduceIte,reduceCtorEq]
        exact ⟨(x1,n),H0,imp_au⟩
  case hxbits_Len64_j3 =>
    refine lok_rt E0 (⟨25,mkS [(0,.x (.one (.p (.val (.int .u64 x))))),(2,.x (.one (.p (pi (0:Int))))),(4,.x (.one (.p (.val (.bool (decide ((4294967296:Int)≤x)))))))],mkH []⟩) ?_
    refine lok_c (decide ((4294967296:Int)≤x)) ?_ ?_
    · intro b_4
      replace H0:=cpos H0 b_4
      refine lok_rt E0 (⟨25,mkS [(0,.x (.one (.p (.val (.int .u64 (bShr .u64 x (32:Int)))))))],mkH []⟩) ?_
      refine lok_rl E0 (⟨25,mkS [(0,.x (.one (.p (.val (.int .u64 (bShr .u64 x (32:Int))))))),(2,.x (.one (.p (pi (32:Int)))))],mkH []⟩) ?_
      try simp only [thenL,blockL,↓reduceIte,reduceCtorEq]
      exact ⟨((bShr .u64 x (32:Int)),(32:Int)),H0,imp_au⟩
    · intro b_4
      replace H0:=cneg H0 b_4
      refine lok_skip ?_
      try simp only [thenL,blockL,↓reduceIte,reduceCtorEq]
      exact ⟨(x,(0:Int)),H0,imp_au⟩
theorem ok_bits_LeadingZeros64 (x:Int) (r_:Int) (H0:bits_LeadingZeros64 x=some r_):CallOK Tryz.prog 102 [.one (.p (.val (.int .u64 x)))] [] [.one (.p (pi r_))] []:=by
  refine callOK (n:=6) (rs:=[.tmp 2]) (nb:=0) (V:=[]) Tryz.func102 rfl (by kernel_rfl) rfl rfl rfl rfl (Nat.le_of_ble_eq_true rfl) (by decide) ?_
  unfold bits_LeadingZeros64 at H0
  refine lok_rt E0 (⟨6,mkS [(0,.x (.one (.p (.val (.int .u64 x)))))],mkH []⟩) ?_
  replace H0:=bind_some H0
  obtain ⟨y,h_0,H0⟩:=H0
  refine lok_rt (Env.of E0 [⟨some 4,110,[.one (.p (.val (.int .u64 x)))],[],[.one (.p (pi y))],[],True,fun _ => ok_bits_Len64 x y h_0,[]⟩]) (⟨6,mkS [(2,.x (.one (.p (pi (IntKind.i64.wrap ((64:Int)-y))))))],mkH []⟩) ?_
  refine lok_ret ?_
  obtain rfl:=Option.some.inj H0
  try simp only [thenL,blockL]
  exact fin_au _ (.inr rfl) [] (⟨6,mkS [(2,.x (.one (.p (pi (IntKind.i64.wrap ((64:Int)-y))))))],mkH []⟩) rfl rfl imp_au
set_option maxHeartbeats 4000000 in
theorem ok_bits_Div64 (hi:Int) (lo:Int) (y:Int) (r_:Int × Int) (H0:bits_Div64 hi lo y=some r_):CallOK Tryz.prog 81 [.one (.p (.val (.int .u64 hi))),.one (.p (.val (.int .u64 lo))),.one (.p (.val (.int .u64 y)))] [] [.one (.p (.val (.int .u64 r_.1))),.one (.p (.val (.int .u64 r_.2)))] []:=by
  refine callOK (n:=135) (rs:=[.tmp 6,.tmp 7]) (nb:=0) (V:=[]) Tryz.func81 rfl (by kernel_rfl) rfl rfl rfl rfl (Nat.le_of_ble_eq_true rfl) (by decide) ?_
  unfold bits_Div64 at H0
  refine lok_rt E0 (⟨135,mkS [(0,.x (.one (.p (.val (.int .u64 hi))))),(1,.x (.one (.p (.val (.int .u64 lo))))),(2,.x (.one (.p (.val (.int .u64 y)))))],mkH []⟩) ?_
  refine lok_join (fun x_:Unit => bits_Div64_j6 hi lo y=some r_) (fun x_ => ⟨135,mkS [(0,.x (.one (.p (.val (.int .u64 hi))))),(1,.x (.one (.p (.val (.int .u64 lo))))),(2,.x (.one (.p (.val (.int .u64 y)))))],mkH []⟩) ?hybits_Div64_j6 ?hxbits_Div64_j6
  case hybits_Div64_j6 =>
    rintro _ H0
    try dsimp only at H0 ⊢
    unfold bits_Div64_j6 at H0
    refine lok_join (fun x_:Unit => bits_Div64_j5 hi lo y=some r_) (fun x_ => ⟨135,mkS [(0,.x (.one (.p (.val (.int .u64 hi))))),(1,.x (.one (.p (.val (.int .u64 lo))))),(2,.x (.one (.p (.val (.int .u64 y)))))],mkH []⟩) ?hybits_Div64_j5 ?hxbits_Div64_j5
    case hybits_Div64_j5 =>
      rintro _ H0
      try dsimp only at H0 ⊢
      unfold bits_Div64_j5 at H0
      refine lok_seq ?_
      refine lok_rt E0 (⟨135,mkS [(0,.x (.one (.p (.val (.int .u64 hi))))),(1,.x (.one (.p (.val (.int .u64 lo))))),(2,.x (.one (.p (.val (.int .u64 y))))),(27,.x (.one (.p (.val (.bool (hi==(0:Int)))))))],mkH []⟩) ?_
      refine lok_c (hi==(0:Int)) ?_ ?_
      · intro b_25
        replace H0:=cpos H0 b_25
        replace H0:=req_some H0
        obtain ⟨q_0,H0⟩:=H0
        refine lok_dt E0 7 (⟨135,mkS [(6,.x (.one (.p (.val (.int .u64 (IntKind.u64.wrap (Int.tdiv lo y))))))),(7,.x (.one (.p (.val (.int .u64 (Int.tmod lo y))))))],mkH []⟩) (by kernel_rfl) (by kernel_rfl) ?_
        refine lok_ret ?_
        obtain rfl:=Option.some.inj H0
        try simp only [thenL,blockL]
        exact fin_au _ (.inr rfl) [] (⟨135,mkS [(6,.x (.one (.p (.val (.int .u64 (IntKind.u64.wrap (Int.tdiv lo y))))))),(7,.x (.one (.p (.val (.int .u64 (Int.tmod lo y))))))],mkH []⟩) rfl rfl imp_au
      · intro b_25
        replace H0:=cneg H0 b_25
        refine lok_skip ?_
        try simp only [thenL,blockL,↓reduceIte,reduceCtorEq]
        replace H0:=bind_some H0
        obtain ⟨y1,h_1,H0⟩:=H0
        refine lok_rt (Env.of E0 [⟨some 35,102,[.one (.p (.val (.int .u64 y)))],[],[.one (.p (pi y1))],[],True,fun _ => ok_bits_LeadingZeros64 y y1 h_1,[]⟩]) (⟨135,mkS [(0,.x (.one (.p (.val (.int .u64 hi))))),(1,.x (.one (.p (.val (.int .u64 lo))))),(2,.x (.one (.p (.val (.int .u64 y))))),(8,.x (.one (.p (.val (.int .u64 (IntKind.u64.wrap y1))))))],mkH []⟩) ?_
        replace H0:=req_some H0
        obtain ⟨q_24,H0⟩:=H0
        refine lok_rt E0 (⟨135,mkS [(0,.x (.one (.p (.val (.int .u64 hi))))),(1,.x (.one (.p (.val (.int .u64 lo))))),(2,.x (.one (.p (.val (.int .u64 (bShl .u64 y (IntKind.u64.wrap y1))))))),(8,.x (.one (.p (.val (.int .u64 (IntKind.u64.wrap y1))))))],mkH []⟩) ?_
        refine lok_rt E0 (⟨135,mkS [(0,.x (.one (.p (.val (.int .u64 hi))))),(1,.x (.one (.p (.val (.int .u64 lo))))),(2,.x (.one (.p (.val (.int .u64 (bShl .u64 y (IntKind.u64.wrap y1))))))),(8,.x (.one (.p (.val (.int .u64 (IntKind.u64.wrap y1)))))),(9,.x (.one (.p (.val (.int .u64 (bShr .u64 (bShl .u64 y (IntKind.u64.wrap y1)) (32:Int)))))))],mkH []⟩) ?_
        refine lok_rt E0 (⟨135,mkS [(0,.x (.one (.p (.val (.int .u64 hi))))),(1,.x (.one (.p (.val (.int .u64 lo))))),(2,.x (.one (.p (.val (.int .u64 (bShl .u64 y (IntKind.u64.wrap y1))))))),(8,.x (.one (.p (.val (.int .u64 (IntKind.u64.wrap y1)))))),(9,.x (.one (.p (.val (.int .u64 (bShr .u64 (bShl .u64 y (IntKind.u64.wrap y1)) (32:Int))))))),(10,.x (.one (.p (.val (.int .u64 (bAnd .u64 (bShl .u64 y (IntKind.u64.wrap y1)) (4294967295:Int)))))))],mkH []⟩) ?_
        replace H0:=req_some H0
        obtain ⟨⟨q_22,q_23⟩,H0⟩:=H0
        replace H0:=bindV_some H0
        obtain ⟨un32,a_2,H0⟩:=H0
        refine lok_rtg E0 a_2 (⟨135,mkS [(1,.x (.one (.p (.val (.int .u64 lo))))),(2,.x (.one (.p (.val (.int .u64 (bShl .u64 y (IntKind.u64.wrap y1))))))),(8,.x (.one (.p (.val (.int .u64 (IntKind.u64.wrap y1)))))),(9,.x (.one (.p (.val (.int .u64 (bShr .u64 (bShl .u64 y (IntKind.u64.wrap y1)) (32:Int))))))),(10,.x (.one (.p (.val (.int .u64 (bAnd .u64 (bShl .u64 y (IntKind.u64.wrap y1)) (4294967295:Int))))))),(11,.x (.one (.p (.val (.int .u64 un32)))))],mkH []⟩) ?_
        replace H0:=req_some H0
        obtain ⟨q_21,H0⟩:=H0
        refine lok_rt E0 (⟨135,mkS [(2,.x (.one (.p (.val (.int .u64 (bShl .u64 y (IntKind.u64.wrap y1))))))),(8,.x (.one (.p (.val (.int .u64 (IntKind.u64.wrap y1)))))),(9,.x (.one (.p (.val (.int .u64 (bShr .u64 (bShl .u64 y (IntKind.u64.wrap y1)) (32:Int))))))),(10,.x (.one (.p (.val (.int .u64 (bAnd .u64 (bShl .u64 y (IntKind.u64.wrap y1)) (4294967295:Int))))))),(11,.x (.one (.p (.val (.int .u64 un32))))),(12,.x (.one (.p (.val (.int .u64 (bShl .u64 lo (IntKind.u64.wrap y1)))))))],mkH []⟩) ?_
        refine lok_rt E0 (⟨135,mkS [(2,.x (.one (.p (.val (.int .u64 (bShl .u64 y (IntKind.u64.wrap y1))))))),(8,.x (.one (.p (.val (.int .u64 (IntKind.u64.wrap y1)))))),(9,.x (.one (.p (.val (.int .u64 (bShr .u64 (bShl .u64 y (IntKind.u64.wrap y1)) (32:Int))))))),(10,.x (.one (.p (.val (.int .u64 (bAnd .u64 (bShl .u64 y (IntKind.u64.wrap y1)) (4294967295:Int))))))),(11,.x (.one (.p (.val (.int .u64 un32))))),(12,.x (.one (.p (.val (.int .u64 (bShl .u64 lo (IntKind.u64.wrap y1))))))),(13,.x (.one (.p (.val (.int .u64 (bShr .u64 (bShl .u64 lo (IntKind.u64.wrap y1)) (32:Int)))))))],mkH []⟩) ?_
        refine lok_rt E0 (⟨135,mkS [(2,.x (.one (.p (.val (.int .u64 (bShl .u64 y (IntKind.u64.wrap y1))))))),(8,.x (.one (.p (.val (.int .u64 (IntKind.u64.wrap y1)))))),(9,.x (.one (.p (.val (.int .u64 (bShr .u64 (bShl .u64 y (IntKind.u64.wrap y1)) (32:Int))))))),(10,.x (.one (.p (.val (.int .u64 (bAnd .u64 (bShl .u64 y (IntKind.u64.wrap y1)) (4294967295:Int))))))),(11,.x (.one (.p (.val (.int .u64 un32))))),(13,.x (.one (.p (.val (.int .u64 (bShr .u64 (bShl .u64 lo (IntKind.u64.wrap y1)) (32:Int))))))),(14,.x (.one (.p (.val (.int .u64 (bAnd .u64 (bShl .u64 lo (IntKind.u64.wrap y1)) (4294967295:Int)))))))],mkH []⟩) ?_
        replace H0:=req_some H0
        obtain ⟨q_20,H0⟩:=H0
        replace H0:=bindV_some H0
        obtain ⟨q1,a_3,H0⟩:=H0
        refine lok_rtg E0 a_3 (⟨135,mkS [(2,.x (.one (.p (.val (.int .u64 (bShl .u64 y (IntKind.u64.wrap y1))))))),(8,.x (.one (.p (.val (.int .u64 (IntKind.u64.wrap y1)))))),(9,.x (.one (.p (.val (.int .u64 (bShr .u64 (bShl .u64 y (IntKind.u64.wrap y1)) (32:Int))))))),(10,.x (.one (.p (.val (.int .u64 (bAnd .u64 (bShl .u64 y (IntKind.u64.wrap y1)) (4294967295:Int))))))),(11,.x (.one (.p (.val (.int .u64 un32))))),(13,.x (.one (.p (.val (.int .u64 (bShr .u64 (bShl .u64 lo (IntKind.u64.wrap y1)) (32:Int))))))),(14,.x (.one (.p (.val (.int .u64 (bAnd .u64 (bShl .u64 lo (IntKind.u64.wrap y1)) (4294967295:Int))))))),(15,.x (.one (.p (.val (.int .u64 q1)))))],mkH []⟩) ?_
        replace H0:=bindV_some H0
        obtain ⟨rhat,a_4,H0⟩:=H0
        refine lok_rtg E0 a_4 (⟨135,mkS [(2,.x (.one (.p (.val (.int .u64 (bShl .u64 y (IntKind.u64.wrap y1))))))),(8,.x (.one (.p (.val (.int .u64 (IntKind.u64.wrap y1)))))),(9,.x (.one (.p (.val (.int .u64 (bShr .u64 (bShl .u64 y (IntKind.u64.wrap y1)) (32:Int))))))),(10,.x (.one (.p (.val (.int .u64 (bAnd .u64 (bShl .u64 y (IntKind.u64.wrap y1)) (4294967295:Int))))))),(11,.x (.one (.p (.val (.int .u64 un32))))),(13,.x (.one (.p (.val (.int .u64 (bShr .u64 (bShl .u64 lo (IntKind.u64.wrap y1)) (32:Int))))))),(14,.x (.one (.p (.val (.int .u64 (bAnd .u64 (bShl .u64 lo (IntKind.u64.wrap y1)) (4294967295:Int))))))),(15,.x (.one (.p (.val (.int .u64 q1))))),(16,.x (.one (.p (.val (.int .u64 rhat)))))],mkH []⟩) ?_
        refine lok_join (fun x_:Int => bits_Div64_j3 lo y y1 un32 x_=some r_) (fun x_ => ⟨135,mkS [(2,.x (.one (.p (.val (.int .u64 (bShl .u64 y (IntKind.u64.wrap y1))))))),(8,.x (.one (.p (.val (.int .u64 (IntKind.u64.wrap y1)))))),(9,.x (.one (.p (.val (.int .u64 (bShr .u64 (bShl .u64 y (IntKind.u64.wrap y1)) (32:Int))))))),(10,.x (.one (.p (.val (.int .u64 (bAnd .u64 (bShl .u64 y (IntKind.u64.wrap y1)) (4294967295:Int))))))),(11,.x (.one (.p (.val (.int .u64 un32))))),(13,.x (.one (.p (.val (.int .u64 (bShr .u64 (bShl .u64 lo (IntKind.u64.wrap y1)) (32:Int))))))),(14,.x (.one (.p (.val (.int .u64 (bAnd .u64 (bShl .u64 lo (IntKind.u64.wrap y1)) (4294967295:Int))))))),(15,.x (.one (.p (.val (.int .u64 x_)))))],mkH []⟩) ?hybits_Div64_j3 ?hxbits_Div64_j3
        case hybits_Div64_j3 =>
          rintro q11 H0
          try dsimp only at H0 ⊢
          unfold bits_Div64_j3 at H0
          replace H0:=bindV_some H0
          obtain ⟨un21,a_5,H0⟩:=H0
          refine lok_rtg E0 a_5 (⟨135,mkS [(2,.x (.one (.p (.val (.int .u64 (bShl .u64 y (IntKind.u64.wrap y1))))))),(8,.x (.one (.p (.val (.int .u64 (IntKind.u64.wrap y1)))))),(9,.x (.one (.p (.val (.int .u64 (bShr .u64 (bShl .u64 y (IntKind.u64.wrap y1)) (32:Int))))))),(10,.x (.one (.p (.val (.int .u64 (bAnd .u64 (bShl .u64 y (IntKind.u64.wrap y1)) (4294967295:Int))))))),(14,.x (.one (.p (.val (.int .u64 (bAnd .u64 (bShl .u64 lo (IntKind.u64.wrap y1)) (4294967295:Int))))))),(15,.x (.one (.p (.val (.int .u64 q11))))),(17,.x (.one (.p (.val (.int .u64 un21)))))],mkH []⟩) ?_
          replace H0:=req_some H0
          obtain ⟨q_15,H0⟩:=H0
          replace H0:=bindV_some H0
          obtain ⟨q0,a_6,H0⟩:=H0
          refine lok_rtg E0 a_6 (⟨135,mkS [(2,.x (.one (.p (.val (.int .u64 (bShl .u64 y (IntKind.u64.wrap y1))))))),(8,.x (.one (.p (.val (.int .u64 (IntKind.u64.wrap y1)))))),(9,.x (.one (.p (.val (.int .u64 (bShr .u64 (bShl .u64 y (IntKind.u64.wrap y1)) (32:Int))))))),(10,.x (.one (.p (.val (.int .u64 (bAnd .u64 (bShl .u64 y (IntKind.u64.wrap y1)) (4294967295:Int))))))),(14,.x (.one (.p (.val (.int .u64 (bAnd .u64 (bShl .u64 lo (IntKind.u64.wrap y1)) (4294967295:Int))))))),(15,.x (.one (.p (.val (.int .u64 q11))))),(17,.x (.one (.p (.val (.int .u64 un21))))),(18,.x (.one (.p (.val (.int .u64 q0)))))],mkH []⟩) ?_
          replace H0:=bindV_some H0
          obtain ⟨rhat1,a_7,H0⟩:=H0
          refine lok_rtg E0 a_7 (⟨135,mkS [(2,.x (.one (.p (.val (.int .u64 (bShl .u64 y (IntKind.u64.wrap y1))))))),(8,.x (.one (.p (.val (.int .u64 (IntKind.u64.wrap y1)))))),(9,.x (.one (.p (.val (.int .u64 (bShr .u64 (bShl .u64 y (IntKind.u64.wrap y1)) (32:Int))))))),(10,.x (.one (.p (.val (.int .u64 (bAnd .u64 (bShl .u64 y (IntKind.u64.wrap y1)) (4294967295:Int))))))),(14,.x (.one (.p (.val (.int .u64 (bAnd .u64 (bShl .u64 lo (IntKind.u64.wrap y1)) (4294967295:Int))))))),(15,.x (.one (.p (.val (.int .u64 q11))))),(16,.x (.one (.p (.val (.int .u64 rhat1))))),(17,.x (.one (.p (.val (.int .u64 un21))))),(18,.x (.one (.p (.val (.int .u64 q0)))))],mkH []⟩) ?_
          refine lok_join (fun x_:Int => bits_Div64_j1 lo y y1 q11 un21 x_=some r_) (fun x_ => ⟨135,mkS [(2,.x (.one (.p (.val (.int .u64 (bShl .u64 y (IntKind.u64.wrap y1))))))),(8,.x (.one (.p (.val (.int .u64 (IntKind.u64.wrap y1)))))),(14,.x (.one (.p (.val (.int .u64 (bAnd .u64 (bShl .u64 lo (IntKind.u64.wrap y1)) (4294967295:Int))))))),(15,.x (.one (.p (.val (.int .u64 q11))))),(17,.x (.one (.p (.val (.int .u64 un21))))),(18,.x (.one (.p (.val (.int .u64 x_)))))],mkH []⟩) ?hybits_Div64_j1 ?hxbits_Div64_j1
          case hybits_Div64_j1 =>
            rintro q01 H0
            try dsimp only at H0 ⊢
            unfold bits_Div64_j1 at H0
            replace H0:=req_some H0
            obtain ⟨q_10,H0⟩:=H0
            replace H0:=bindV_some H0
            obtain ⟨quo,a_8,H0⟩:=H0
            replace H0:=bindV_some H0
            obtain ⟨rem,a_9,H0⟩:=H0
            refine lok_rtg E0 (And.intro a_8 a_9) (⟨135,mkS [(6,.x (.one (.p (.val (.int .u64 quo))))),(7,.x (.one (.p (.val (.int .u64 rem)))))],mkH []⟩) ?_
            refine lok_ret ?_
            obtain rfl:=Option.some.inj H0
            try simp only [thenL,blockL]
            exact fin_au _ (.inr rfl) [] (⟨135,mkS [(6,.x (.one (.p (.val (.int .u64 quo))))),(7,.x (.one (.p (.val (.int .u64 rem)))))],mkH []⟩) rfl rfl imp_au
          case hxbits_Div64_j1 =>
            refine lok_block ?_
            replace H0:=bind_some H0
            obtain ⟨v_11,hv_11,H0⟩:=H0
            refine lok_iter (fun x_ => ⟨135,mkS [(2,.x (.one (.p (.val (.int .u64 (bShl .u64 y (IntKind.u64.wrap y1))))))),(8,.x (.one (.p (.val (.int .u64 (IntKind.u64.wrap y1)))))),(9,.x (.one (.p (.val (.int .u64 (bShr .u64 (bShl .u64 y (IntKind.u64.wrap y1)) (32:Int))))))),(10,.x (.one (.p (.val (.int .u64 (bAnd .u64 (bShl .u64 y (IntKind.u64.wrap y1)) (4294967295:Int))))))),(14,.x (.one (.p (.val (.int .u64 (bAnd .u64 (bShl .u64 lo (IntKind.u64.wrap y1)) (4294967295:Int))))))),(15,.x (.one (.p (.val (.int .u64 q11))))),(16,.x (.one (.p (.val (.int .u64 x_.1))))),(17,.x (.one (.p (.val (.int .u64 un21))))),(18,.x (.one (.p (.val (.int .u64 x_.2)))))],mkH []⟩) hv_11 imp_au ?_
            · rintro ⟨rhat2,q02⟩ o_1 H1 k_1
              unfold bits_Div64_l2 at H1
              try dsimp only at H1 ⊢
              refine lok_seq ?_
              refine lok_rt E0 (⟨135,mkS [(2,.x (.one (.p (.val (.int .u64 (bShl .u64 y (IntKind.u64.wrap y1))))))),(8,.x (.one (.p (.val (.int .u64 (IntKind.u64.wrap y1)))))),(9,.x (.one (.p (.val (.int .u64 (bShr .u64 (bShl .u64 y (IntKind.u64.wrap y1)) (32:Int))))))),(10,.x (.one (.p (.val (.int .u64 (bAnd .u64 (bShl .u64 y (IntKind.u64.wrap y1)) (4294967295:Int))))))),(14,.x (.one (.p (.val (.int .u64 (bAnd .u64 (bShl .u64 lo (IntKind.u64.wrap y1)) (4294967295:Int))))))),(15,.x (.one (.p (.val (.int .u64 q11))))),(16,.x (.one (.p (.val (.int .u64 rhat2))))),(17,.x (.one (.p (.val (.int .u64 un21))))),(18,.x (.one (.p (.val (.int .u64 q02))))),(113,.x (.one (.p (.val (.bool ((decide ((4294967296:Int)≤q02))||(decide ((IntKind.u64.wrap ((IntKind.u64.wrap ((4294967296:Int)*rhat2))+(bAnd .u64 (bShl .u64 lo (IntKind.u64.wrap y1)) (4294967295:Int))))<(IntKind.u64.wrap (q02*(bAnd .u64 (bShl .u64 y (IntKind.u64.wrap y1)) (4294967295:Int))))))))))))],mkH []⟩) ?_
              refine lok_c ((decide ((4294967296:Int)≤q02))||(decide ((IntKind.u64.wrap ((IntKind.u64.wrap ((4294967296:Int)*rhat2))+(bAnd .u64 (bShl .u64 lo (IntKind.u64.wrap y1)) (4294967295:Int))))<(IntKind.u64.wrap (q02*(bAnd .u64 (bShl .u64 y (IntKind.u64.wrap y1)) (4294967295:Int))))))) ?_ ?_
              · intro b_14
                replace H1:=cpos H1 b_14
                refine lok_skip ?_
                try simp only [thenL,blockL,↓reduceIte,reduceCtorEq]
                refine lok_block ?_
                refine lok_rt E0 (⟨135,mkS [(2,.x (.one (.p (.val (.int .u64 (bShl .u64 y (IntKind.u64.wrap y1))))))),(8,.x (.one (.p (.val (.int .u64 (IntKind.u64.wrap y1)))))),(9,.x (.one (.p (.val (.int .u64 (bShr .u64 (bShl .u64 y (IntKind.u64.wrap y1)) (32:Int))))))),(10,.x (.one (.p (.val (.int .u64 (bAnd .u64 (bShl .u64 y (IntKind.u64.wrap y1)) (4294967295:Int))))))),(14,.x (.one (.p (.val (.int .u64 (bAnd .u64 (bShl .u64 lo (IntKind.u64.wrap y1)) (4294967295:Int))))))),(15,.x (.one (.p (.val (.int .u64 q11))))),(16,.x (.one (.p (.val (.int .u64 rhat2))))),(17,.x (.one (.p (.val (.int .u64 un21))))),(18,.x (.one (.p (.val (.int .u64 (IntKind.u64.wrap (q02-(1:Int))))))))],mkH []⟩) ?_
                replace H1:=bindV_some H1
                obtain ⟨rhat3,a_12,H1⟩:=H1
                refine lok_rtg E0 a_12 (⟨135,mkS [(2,.x (.one (.p (.val (.int .u64 (bShl .u64 y (IntKind.u64.wrap y1))))))),(8,.x (.one (.p (.val (.int .u64 (IntKind.u64.wrap y1)))))),(9,.x (.one (.p (.val (.int .u64 (bShr .u64 (bShl .u64 y (IntKind.u64.wrap y1)) (32:Int))))))),(10,.x (.one (.p (.val (.int .u64 (bAnd .u64 (bShl .u64 y (IntKind.u64.wrap y1)) (4294967295:Int))))))),(14,.x (.one (.p (.val (.int .u64 (bAnd .u64 (bShl .u64 lo (IntKind.u64.wrap y1)) (4294967295:Int))))))),(15,.x (.one (.p (.val (.int .u64 q11))))),(16,.x (.one (.p (.val (.int .u64 rhat3))))),(17,.x (.one (.p (.val (.int .u64 un21))))),(18,.x (.one (.p (.val (.int .u64 (IntKind.u64.wrap (q02-(1:Int))))))))],mkH []⟩) ?_
                refine lok_rt E0 (⟨135,mkS [(2,.x (.one (.p (.val (.int .u64 (bShl .u64 y (IntKind.u64.wrap y1))))))),(8,.x (.one (.p (.val (.int .u64 (IntKind.u64.wrap y1)))))),(9,.x (.one (.p (.val (.int .u64 (bShr .u64 (bShl .u64 y (IntKind.u64.wrap y1)) (32:Int))))))),(10,.x (.one (.p (.val (.int .u64 (bAnd .u64 (bShl .u64 y (IntKind.u64.wrap y1)) (4294967295:Int))))))),(14,.x (.one (.p (.val (.int .u64 (bAnd .u64 (bShl .u64 lo (IntKind.u64.wrap y1)) (4294967295:Int))))))),(15,.x (.one (.p (.val (.int .u64 q11))))),(16,.x (.one (.p (.val (.int .u64 rhat3))))),(17,.x (.one (.p (.val (.int .u64 un21))))),(18,.x (.one (.p (.val (.int .u64 (IntKind.u64.wrap (q02-(1:Int)))))))),(120,.x (.one (.p (.val (.bool (decide ((4294967296:Int)≤rhat3)))))))],mkH []⟩) ?_
                refine lok_c (decide ((4294967296:Int)≤rhat3)) ?_ ?_
                · intro b_13
                  replace H1:=cpos H1 b_13
                  refine lok_exit ?_
                  try simp only [thenL,blockL,↓reduceIte,reduceCtorEq]
                  have e_1:=k_1 _ (Option.some.inj H1).symm
                  subst e_1
                  try dsimp only at H0
                  try simp only [thenL,blockL,↓reduceIte,reduceCtorEq]
                  exact ⟨(IntKind.u64.wrap (q02-(1:Int))),H0,imp_au⟩
                · intro b_13
                  replace H1:=cneg H1 b_13
                  refine lok_skip ?_
                  try simp only [thenL,blockL,↓reduceIte,reduceCtorEq]
                  exact ⟨(rhat3,(IntKind.u64.wrap (q02-(1:Int)))),(Option.some.inj H1).symm,imp_au⟩
              · intro b_14
                replace H1:=cneg H1 b_14
                refine lok_exit ?_
                try simp only [thenL,blockL,↓reduceIte,reduceCtorEq]
                have e_1:=k_1 _ (Option.some.inj H1).symm
                subst e_1
                try dsimp only at H0
                try simp only [thenL,blockL,↓reduceIte,reduceCtorEq]
                exact ⟨q02,H0,imp_au⟩
        case hxbits_Div64_j3 =>
          refine lok_block ?_
          replace H0:=bind_some H0
          obtain ⟨v_16,hv_16,H0⟩:=H0
          refine lok_iter (fun x_ => ⟨135,mkS [(2,.x (.one (.p (.val (.int .u64 (bShl .u64 y (IntKind.u64.wrap y1))))))),(8,.x (.one (.p (.val (.int .u64 (IntKind.u64.wrap y1)))))),(9,.x (.one (.p (.val (.int .u64 (bShr .u64 (bShl .u64 y (IntKind.u64.wrap y1)) (32:Int))))))),(10,.x (.one (.p (.val (.int .u64 (bAnd .u64 (bShl .u64 y (IntKind.u64.wrap y1)) (4294967295:Int))))))),(11,.x (.one (.p (.val (.int .u64 un32))))),(13,.x (.one (.p (.val (.int .u64 (bShr .u64 (bShl .u64 lo (IntKind.u64.wrap y1)) (32:Int))))))),(14,.x (.one (.p (.val (.int .u64 (bAnd .u64 (bShl .u64 lo (IntKind.u64.wrap y1)) (4294967295:Int))))))),(15,.x (.one (.p (.val (.int .u64 x_.1))))),(16,.x (.one (.p (.val (.int .u64 x_.2)))))],mkH []⟩) hv_16 imp_au ?_
          · rintro ⟨q12,rhat4⟩ o_1 H1 k_1
            unfold bits_Div64_l4 at H1
            try dsimp only at H1 ⊢
            refine lok_seq ?_
            refine lok_rt E0 (⟨135,mkS [(2,.x (.one (.p (.val (.int .u64 (bShl .u64 y (IntKind.u64.wrap y1))))))),(8,.x (.one (.p (.val (.int .u64 (IntKind.u64.wrap y1)))))),(9,.x (.one (.p (.val (.int .u64 (bShr .u64 (bShl .u64 y (IntKind.u64.wrap y1)) (32:Int))))))),(10,.x (.one (.p (.val (.int .u64 (bAnd .u64 (bShl .u64 y (IntKind.u64.wrap y1)) (4294967295:Int))))))),(11,.x (.one (.p (.val (.int .u64 un32))))),(13,.x (.one (.p (.val (.int .u64 (bShr .u64 (bShl .u64 lo (IntKind.u64.wrap y1)) (32:Int))))))),(14,.x (.one (.p (.val (.int .u64 (bAnd .u64 (bShl .u64 lo (IntKind.u64.wrap y1)) (4294967295:Int))))))),(15,.x (.one (.p (.val (.int .u64 q12))))),(16,.x (.one (.p (.val (.int .u64 rhat4))))),(78,.x (.one (.p (.val (.bool ((decide ((4294967296:Int)≤q12))||(decide ((IntKind.u64.wrap ((IntKind.u64.wrap ((4294967296:Int)*rhat4))+(bShr .u64 (bShl .u64 lo (IntKind.u64.wrap y1)) (32:Int))))<(IntKind.u64.wrap (q12*(bAnd .u64 (bShl .u64 y (IntKind.u64.wrap y1)) (4294967295:Int))))))))))))],mkH []⟩) ?_
            refine lok_c ((decide ((4294967296:Int)≤q12))||(decide ((IntKind.u64.wrap ((IntKind.u64.wrap ((4294967296:Int)*rhat4))+(bShr .u64 (bShl .u64 lo (IntKind.u64.wrap y1)) (32:Int))))<(IntKind.u64.wrap (q12*(bAnd .u64 (bShl .u64 y (IntKind.u64.wrap y1)) (4294967295:Int))))))) ?_ ?_
            · intro b_19
              replace H1:=cpos H1 b_19
              refine lok_skip ?_
              try simp only [thenL,blockL,↓reduceIte,reduceCtorEq]
              refine lok_block ?_
              refine lok_rt E0 (⟨135,mkS [(2,.x (.one (.p (.val (.int .u64 (bShl .u64 y (IntKind.u64.wrap y1))))))),(8,.x (.one (.p (.val (.int .u64 (IntKind.u64.wrap y1)))))),(9,.x (.one (.p (.val (.int .u64 (bShr .u64 (bShl .u64 y (IntKind.u64.wrap y1)) (32:Int))))))),(10,.x (.one (.p (.val (.int .u64 (bAnd .u64 (bShl .u64 y (IntKind.u64.wrap y1)) (4294967295:Int))))))),(11,.x (.one (.p (.val (.int .u64 un32))))),(13,.x (.one (.p (.val (.int .u64 (bShr .u64 (bShl .u64 lo (IntKind.u64.wrap y1)) (32:Int))))))),(14,.x (.one (.p (.val (.int .u64 (bAnd .u64 (bShl .u64 lo (IntKind.u64.wrap y1)) (4294967295:Int))))))),(15,.x (.one (.p (.val (.int .u64 (IntKind.u64.wrap (q12-(1:Int)))))))),(16,.x (.one (.p (.val (.int .u64 rhat4)))))],mkH []⟩) ?_
              replace H1:=bindV_some H1
              obtain ⟨rhat5,a_17,H1⟩:=H1
              refine lok_rtg E0 a_17 (⟨135,mkS [(2,.x (.one (.p (.val (.int .u64 (bShl .u64 y (IntKind.u64.wrap y1))))))),(8,.x (.one (.p (.val (.int .u64 (IntKind.u64.wrap y1)))))),(9,.x (.one (.p (.val (.int .u64 (bShr .u64 (bShl .u64 y (IntKind.u64.wrap y1)) (32:Int))))))),(10,.x (.one (.p (.val (.int .u64 (bAnd .u64 (bShl .u64 y (IntKind.u64.wrap y1)) (4294967295:Int))))))),(11,.x (.one (.p (.val (.int .u64 un32))))),(13,.x (.one (.p (.val (.int .u64 (bShr .u64 (bShl .u64 lo (IntKind.u64.wrap y1)) (32:Int))))))),(14,.x (.one (.p (.val (.int .u64 (bAnd .u64 (bShl .u64 lo (IntKind.u64.wrap y1)) (4294967295:Int))))))),(15,.x (.one (.p (.val (.int .u64 (IntKind.u64.wrap (q12-(1:Int)))))))),(16,.x (.one (.p (.val (.int .u64 rhat5)))))],mkH []⟩) ?_
              refine lok_rt E0 (⟨135,mkS [(2,.x (.one (.p (.val (.int .u64 (bShl .u64 y (IntKind.u64.wrap y1))))))),(8,.x (.one (.p (.val (.int .u64 (IntKind.u64.wrap y1)))))),(9,.x (.one (.p (.val (.int .u64 (bShr .u64 (bShl .u64 y (IntKind.u64.wrap y1)) (32:Int))))))),(10,.x (.one (.p (.val (.int .u64 (bAnd .u64 (bShl .u64 y (IntKind.u64.wrap y1)) (4294967295:Int))))))),(11,.x (.one (.p (.val (.int .u64 un32))))),(13,.x (.one (.p (.val (.int .u64 (bShr .u64 (bShl .u64 lo (IntKind.u64.wrap y1)) (32:Int))))))),(14,.x (.one (.p (.val (.int .u64 (bAnd .u64 (bShl .u64 lo (IntKind.u64.wrap y1)) (4294967295:Int))))))),(15,.x (.one (.p (.val (.int .u64 (IntKind.u64.wrap (q12-(1:Int)))))))),(16,.x (.one (.p (.val (.int .u64 rhat5))))),(85,.x (.one (.p (.val (.bool (decide ((4294967296:Int)≤rhat5)))))))],mkH []⟩) ?_
              refine lok_c (decide ((4294967296:Int)≤rhat5)) ?_ ?_
              · intro b_18
                replace H1:=cpos H1 b_18
                refine lok_exit ?_
                try simp only [thenL,blockL,↓reduceIte,reduceCtorEq]
                have e_1:=k_1 _ (Option.some.inj H1).symm
                subst e_1
                try dsimp only at H0
                try simp only [thenL,blockL,↓reduceIte,reduceCtorEq]
                exact ⟨(IntKind.u64.wrap (q12-(1:Int))),H0,imp_au⟩
              · intro b_18
                replace H1:=cneg H1 b_18
                refine lok_skip ?_
                try simp only [thenL,blockL,↓reduceIte,reduceCtorEq]
                exact ⟨((IntKind.u64.wrap (q12-(1:Int))),rhat5),(Option.some.inj H1).symm,imp_au⟩
            · intro b_19
              replace H1:=cneg H1 b_19
              refine lok_exit ?_
              try simp only [thenL,blockL,↓reduceIte,reduceCtorEq]
              have e_1:=k_1 _ (Option.some.inj H1).symm
              subst e_1
              try dsimp only at H0
              try simp only [thenL,blockL,↓reduceIte,reduceCtorEq]
              exact ⟨q12,H0,imp_au⟩
    case hxbits_Div64_j5 =>
      refine lok_rt E0 (⟨135,mkS [(0,.x (.one (.p (.val (.int .u64 hi))))),(1,.x (.one (.p (.val (.int .u64 lo))))),(2,.x (.one (.p (.val (.int .u64 y))))),(24,.x (.one (.p (.val (.bool (decide (y≤hi)))))))],mkH []⟩) ?_
      refine lok_c (decide (y≤hi)) ?_ ?_
      · intro b_26
        replace H0:=cpos H0 b_26
        cases H0
      · intro b_26
        replace H0:=cneg H0 b_26
        refine lok_skip ?_
        try simp only [thenL,blockL,↓reduceIte,reduceCtorEq]
        exact ⟨(),H0,imp_au⟩
  case hxbits_Div64_j6 =>
    refine lok_rt E0 (⟨135,mkS [(0,.x (.one (.p (.val (.int .u64 hi))))),(1,.x (.one (.p (.val (.int .u64 lo))))),(2,.x (.one (.p (.val (.int .u64 y))))),(20,.x (.one (.p (.val (.bool (y==(0:Int)))))))],mkH []⟩) ?_
    refine lok_c (y==(0:Int)) ?_ ?_
    · intro b_27
      replace H0:=cpos H0 b_27
      cases H0
    · intro b_27
      replace H0:=cneg H0 b_27
      refine lok_skip ?_
      try simp only [thenL,blockL,↓reduceIte,reduceCtorEq]
      exact ⟨(),H0,imp_au⟩
theorem ok_bits_Rem64 (hi:Int) (lo:Int) (y:Int) (r_:Int) (H0:bits_Rem64 hi lo y=some r_):CallOK Tryz.prog 80 [.one (.p (.val (.int .u64 hi))),.one (.p (.val (.int .u64 lo))),.one (.p (.val (.int .u64 y)))] [] [.one (.p (.val (.int .u64 r_)))] []:=by
  refine callOK (n:=19) (rs:=[.tmp 6]) (nb:=0) (V:=[]) Tryz.func80 rfl (by kernel_rfl) rfl rfl rfl rfl (Nat.le_of_ble_eq_true rfl) (by decide) ?_
  unfold bits_Rem64 at H0
  refine lok_rt E0 (⟨19,mkS [(0,.x (.one (.p (.val (.int .u64 hi))))),(1,.x (.one (.p (.val (.int .u64 lo))))),(2,.x (.one (.p (.val (.int .u64 y)))))],mkH []⟩) ?_
  replace H0:=req_some H0
  obtain ⟨q_1,H0⟩:=H0
  replace H0:=bind_some H0
  obtain ⟨⟨y1,y2⟩,h_0,H0⟩:=H0
  try dsimp only at H0
  refine lok_rt (Env.of E0 [⟨some 15,81,[.one (.p (.val (.int .u64 (Int.tmod hi y)))),.one (.p (.val (.int .u64 lo))),.one (.p (.val (.int .u64 y)))],[],[.one (.p (.val (.int .u64 y1))),.one (.p (.val (.int .u64 y2)))],[],True,fun _ => ok_bits_Div64 (Int.tmod hi y) lo y (y1,y2) h_0,[]⟩]) (⟨19,mkS [(8,.x (.one (.p (.val (.int .u64 y2)))))],mkH []⟩) ?_
  refine lok_rt E0 (⟨19,mkS [(6,.x (.one (.p (.val (.int .u64 y2)))))],mkH []⟩) ?_
  refine lok_ret ?_
  obtain rfl:=Option.some.inj H0
  try simp only [thenL,blockL]
  exact fin_au _ (.inr rfl) [] (⟨19,mkS [(6,.x (.one (.p (.val (.int .u64 y2)))))],mkH []⟩) rfl rfl imp_au
theorem ok_ratio_wide_mod (a:ratio_wide) (d:Int) (r_:Int) (H0:ratio_wide_mod a d=some r_):CallOK Tryz.prog 64 [.agg [.p (.val (.int .u64 a.hi)),.p (.val (.int .u64 a.lo))],.one (.p (.val (.int .u64 d)))] [] [.one (.p (.val (.int .u64 r_)))] []:=by
  refine callOK (n:=11) (rs:=[.tmp 4]) (nb:=0) (V:=[]) Tryz.func64 rfl (by kernel_rfl) rfl rfl rfl rfl (Nat.le_of_ble_eq_true rfl) (by decide) ?_
  unfold ratio_wide_mod at H0
  refine lok_rt E0 (⟨11,mkS [(1,.x (.one (.p (.val (.int .u64 d))))),(2,.x (.one (.ptr 102 0)))],mkH [(102,.var [.p (.val (.int .u64 a.hi)),.p (.val (.int .u64 a.lo))])]⟩) ?_
  replace H0:=bind_some H0
  obtain ⟨y,h_0,H0⟩:=H0
  refine lok_rt (Env.of E0 [⟨some 10,80,[.one (.p (.val (.int .u64 a.hi))),.one (.p (.val (.int .u64 a.lo))),.one (.p (.val (.int .u64 d)))],[],[.one (.p (.val (.int .u64 y)))],[],True,fun _ => ok_bits_Rem64 a.hi a.lo d y h_0,[]⟩]) (⟨11,mkS [(4,.x (.one (.p (.val (.int .u64 y)))))],mkH []⟩) ?_
  refine lok_ret ?_
  obtain rfl:=Option.some.inj H0
  try simp only [thenL,blockL]
  exact fin_au _ (.inr rfl) [] (⟨11,mkS [(4,.x (.one (.p (.val (.int .u64 y)))))],mkH []⟩) rfl rfl imp_au
theorem ok_ratio_fitted (neg:Bool) (num:ratio_wide) (den:ratio_wide) (r_:api_Ratio × Int) (H0:ratio_fitted neg num den=some r_):CallOK Tryz.prog 65 [.one (.p (.val (.bool neg))),.agg [.p (.val (.int .u64 num.hi)),.p (.val (.int .u64 num.lo))],.agg [.p (.val (.int .u64 den.hi)),.p (.val (.int .u64 den.lo))]] [] [.agg [.p (pi r_.1.Num),.p (pi r_.1.Den)],.one (.p (pi r_.2))] []:=by
  refine callOK (n:=39) (rs:=[.cell 6 26,.tmp 7]) (nb:=0) (V:=[]) Tryz.func65 rfl (by kernel_rfl) rfl rfl rfl rfl (Nat.le_of_ble_eq_true rfl) (by decide) ?_
  unfold ratio_fitted at H0
  refine lok_rt E0 (⟨39,mkS [(0,.x (.one (.p (.val (.bool neg))))),(4,.x (.one (.ptr 104 0))),(5,.x (.one (.ptr 105 0))),(6,.x (.one (.ptr 106 0)))],mkH [(104,.var [.p (.val (.int .u64 num.hi)),.p (.val (.int .u64 num.lo))]),(105,.var [.p (.val (.int .u64 den.hi)),.p (.val (.int .u64 den.lo))]),(106,.var [.p (pi (0:Int)),.p (pi (0:Int))])]⟩) ?_
  refine lok_seq ?_
  refine lok_rt E0 (⟨39,mkS [(0,.x (.one (.p (.val (.bool neg))))),(4,.x (.one (.ptr 104 0))),(5,.x (.one (.ptr 105 0))),(6,.x (.one (.ptr 106 0))),(26,.x (.one (.p (.val (.bool ((((num.hi != (0:Int))||(den.hi != (0:Int)))||(decide ((1152921504606846976:Int)<num.lo)))||(decide ((1152921504606846976:Int)<den.lo))))))))],mkH [(104,.var [.p (.val (.int .u64 num.hi)),.p (.val (.int .u64 num.lo))]),(105,.var [.p (.val (.int .u64 den.hi)),.p (.val (.int .u64 den.lo))]),(106,.var [.p (pi (0:Int)),.p (pi (0:Int))])]⟩) ?_
  refine lok_c ((((num.hi != (0:Int))||(den.hi != (0:Int)))||(decide ((1152921504606846976:Int)<num.lo)))||(decide ((1152921504606846976:Int)<den.lo))) ?_ ?_
  · intro b_1
    replace H0:=cpos H0 b_1
    refine lok_rt E0 (⟨39,mkS [(6,.x (.one (.ptr 106 0))),(7,.x (.one (.p (pi (6:Int)))))],mkH [(106,.var [.p (pi (0:Int)),.p (pi (0:Int))])]⟩) ?_
    refine lok_ret ?_
    obtain rfl:=Option.some.inj H0
    try simp only [thenL,blockL]
    exact fin_au _ (.inr rfl) [] (⟨39,mkS [(6,.x (.one (.ptr 106 0))),(7,.x (.one (.p (pi (6:Int)))))],mkH [(106,.var [.p (pi (0:Int)),.p (pi (0:Int))])]⟩) rfl rfl imp_au
  · intro b_1
    replace H0:=cneg H0 b_1
    refine lok_skip ?_
    try simp only [thenL,blockL,↓reduceIte,reduceCtorEq]
    refine lok_rt E0 (⟨39,mkS [(0,.x (.one (.p (.val (.bool neg))))),(5,.x (.one (.ptr 105 0))),(6,.x (.one (.ptr 106 0))),(8,.x (.one (.p (pi (IntKind.i64.wrap num.lo)))))],mkH [(105,.var [.p (.val (.int .u64 den.hi)),.p (.val (.int .u64 den.lo))]),(106,.var [.p (pi (0:Int)),.p (pi (0:Int))])]⟩) ?_
    refine lok_join (fun x_:Int => ratio_fitted_j1 den x_=some r_) (fun x_ => ⟨39,mkS [(5,.x (.one (.ptr 105 0))),(6,.x (.one (.ptr 106 0))),(8,.x (.one (.p (pi x_))))],mkH [(105,.var [.p (.val (.int .u64 den.hi)),.p (.val (.int .u64 den.lo))]),(106,.var [.p (pi (0:Int)),.p (pi (0:Int))])]⟩) ?hyratio_fitted_j1 ?hxratio_fitted_j1
    case hyratio_fitted_j1 =>
      rintro n H0
      try dsimp only at H0 ⊢
      unfold ratio_fitted_j1 at H0
      refine lok_rt E0 (⟨39,mkS [(6,.x (.one (.ptr 106 0))),(7,.x (.one (.p (pi (0:Int)))))],mkH [(106,.var [.p (pi n),.p (pi (IntKind.i64.wrap den.lo))])]⟩) ?_
      refine lok_ret ?_
      obtain rfl:=Option.some.inj H0
      try simp only [thenL,blockL]
      exact fin_au _ (.inr rfl) [] (⟨39,mkS [(6,.x (.one (.ptr 106 0))),(7,.x (.one (.p (pi (0:Int)))))],mkH [(106,.var [.p (pi n),.p (pi (IntKind.i64.wrap den.lo))])]⟩) rfl rfl imp_au
    case hxratio_fitted_j1 =>
      refine lok_rt E0 (⟨39,mkS [(5,.x (.one (.ptr 105 0))),(6,.x (.one (.ptr 106 0))),(8,.x (.one (.p (pi (IntKind.i64.wrap num.lo))))),(31,.x (.one (.p (.val (.bool neg)))))],mkH [(105,.var [.p (.val (.int .u64 den.hi)),.p (.val (.int .u64 den.lo))]),(106,.var [.p (pi (0:Int)),.p (pi (0:Int))])]⟩) ?_
      refine lok_c neg ?_ ?_
      · intro b_0
        replace H0:=cpos H0 b_0
        refine lok_rl E0 (⟨39,mkS [(5,.x (.one (.ptr 105 0))),(6,.x (.one (.ptr 106 0))),(8,.x (.one (.p (pi (IntKind.i64.wrap (0-(IntKind.i64.wrap num.lo)))))))],mkH [(105,.var [.p (.val (.int .u64 den.hi)),.p (.val (.int .u64 den.lo))]),(106,.var [.p (pi (0:Int)),.p (pi (0:Int))])]⟩) ?_
        try simp only [thenL,blockL,↓reduceIte,reduceCtorEq]
        exact ⟨(IntKind.i64.wrap (0-(IntKind.i64.wrap num.lo))),H0,imp_au⟩
      · intro b_0
        replace H0:=cneg H0 b_0
        refine lok_skip ?_
        try simp only [thenL,blockL,↓reduceIte,reduceCtorEq]
        exact ⟨(IntKind.i64.wrap num.lo),H0,imp_au⟩
theorem ok_ratio_wide_over (a:ratio_wide) (d:Int) (r_:ratio_wide) (H0:ratio_wide_over a d=some r_):CallOK Tryz.prog 66 [.agg [.p (.val (.int .u64 a.hi)),.p (.val (.int .u64 a.lo))],.one (.p (.val (.int .u64 d)))] [] [.agg [.p (.val (.int .u64 r_.hi)),.p (.val (.int .u64 r_.lo))]] []:=by
  refine callOK (n:=28) (rs:=[.cell 4 78]) (nb:=0) (V:=[]) Tryz.func66 rfl (by kernel_rfl) rfl rfl rfl rfl (Nat.le_of_ble_eq_true rfl) (by decide) ?_
  unfold ratio_wide_over at H0
  refine lok_rt E0 (⟨28,mkS [(1,.x (.one (.p (.val (.int .u64 d))))),(2,.x (.one (.ptr 102 0))),(4,.x (.one (.ptr 104 0)))],mkH [(102,.var [.p (.val (.int .u64 a.hi)),.p (.val (.int .u64 a.lo))]),(104,.var [.p (.val (.int .u64 (0:Int))),.p (.val (.int .u64 (0:Int)))])]⟩) ?_
  replace H0:=req_some H0
  obtain ⟨q_1,H0⟩:=H0
  refine lok_dt E0 9 (⟨28,mkS [(1,.x (.one (.p (.val (.int .u64 d))))),(2,.x (.one (.ptr 102 0))),(4,.x (.one (.ptr 104 0))),(5,.x (.one (.p (.val (.int .u64 (IntKind.u64.wrap (Int.tdiv a.hi d))))))),(6,.x (.one (.p (.val (.int .u64 (Int.tmod a.hi d))))))],mkH [(102,.var [.p (.val (.int .u64 a.hi)),.p (.val (.int .u64 a.lo))]),(104,.var [.p (.val (.int .u64 (0:Int))),.p (.val (.int .u64 (0:Int)))])]⟩) (by kernel_rfl) (by kernel_rfl) ?_
  replace H0:=bind_some H0
  obtain ⟨⟨y,y1⟩,h_0,H0⟩:=H0
  try dsimp only at H0
  refine lok_rt (Env.of E0 [⟨some 22,81,[.one (.p (.val (.int .u64 (Int.tmod a.hi d)))),.one (.p (.val (.int .u64 a.lo))),.one (.p (.val (.int .u64 d)))],[],[.one (.p (.val (.int .u64 y))),.one (.p (.val (.int .u64 y1)))],[],True,fun _ => ok_bits_Div64 (Int.tmod a.hi d) a.lo d (y,y1) h_0,[]⟩]) (⟨28,mkS [(4,.x (.one (.ptr 104 0))),(5,.x (.one (.p (.val (.int .u64 (IntKind.u64.wrap (Int.tdiv a.hi d))))))),(7,.x (.one (.p (.val (.int .u64 y)))))],mkH [(104,.var [.p (.val (.int .u64 (0:Int))),.p (.val (.int .u64 (0:Int)))])]⟩) ?_
  refine lok_rt E0 (⟨28,mkS [(4,.x (.one (.ptr 104 0)))],mkH [(104,.var [.p (.val (.int .u64 (IntKind.u64.wrap (Int.tdiv a.hi d)))),.p (.val (.int .u64 y))])]⟩) ?_
  refine lok_ret ?_
  obtain rfl:=Option.some.inj H0
  try simp only [thenL,blockL]
  exact fin_au _ (.inr rfl) [] (⟨28,mkS [(4,.x (.one (.ptr 104 0)))],mkH [(104,.var [.p (.val (.int .u64 (IntKind.u64.wrap (Int.tdiv a.hi d)))),.p (.val (.int .u64 y))])]⟩) rfl rfl imp_au
theorem ok_ratio_reduced (num:ratio_signed) (den:Int) (r_:api_Ratio × Int) (H0:ratio_reduced num den=some r_):CallOK Tryz.prog 48 [.agg [.p (.val (.bool num.neg)),.p (.val (.int .u64 num.abs.hi)),.p (.val (.int .u64 num.abs.lo))],.one (.p (.val (.int .u64 den)))] [] [.agg [.p (pi r_.1.Num),.p (pi r_.1.Den)],.one (.p (pi r_.2))] []:=by
  refine callOK (n:=26) (rs:=[.cell 4 26,.tmp 5]) (nb:=0) (V:=[]) Tryz.func48 rfl (by kernel_rfl) rfl rfl rfl rfl (Nat.le_of_ble_eq_true rfl) (by decide) ?_
  unfold ratio_reduced at H0
  refine lok_rt E0 (⟨26,mkS [(1,.x (.one (.p (.val (.int .u64 den))))),(2,.x (.one (.ptr 102 0))),(4,.x (.one (.ptr 104 0)))],mkH [(102,.var [.p (.val (.bool num.neg)),.p (.val (.int .u64 num.abs.hi)),.p (.val (.int .u64 num.abs.lo))]),(104,.var [.p (pi (0:Int)),.p (pi (0:Int))])]⟩) ?_
  replace H0:=bind_some H0
  obtain ⟨y,h_0,H0⟩:=H0
  replace H0:=bind_some H0
  obtain ⟨y1,h_1,H0⟩:=H0
  refine lok_rt (Env.of E0 [⟨some 10,64,[.agg [.p (.val (.int .u64 num.abs.hi)),.p (.val (.int .u64 num.abs.lo))],.one (.p (.val (.int .u64 den)))],[],[.one (.p (.val (.int .u64 y)))],[],True,fun _ => ok_ratio_wide_mod num.abs den y h_0,[]⟩,
      ⟨some 12,63,[.one (.p (.val (.int .u64 y))),.one (.p (.val (.int .u64 den)))],[],[.one (.p (.val (.int .u64 y1)))],[],True,fun _ => ok_ratio_gcd y den y1 h_1,[]⟩]) (⟨26,mkS [(1,.x (.one (.p (.val (.int .u64 den))))),(2,.x (.one (.ptr 102 0))),(4,.x (.one (.ptr 104 0))),(6,.x (.one (.p (.val (.int .u64 y1)))))],mkH [(102,.var [.p (.val (.bool num.neg)),.p (.val (.int .u64 num.abs.hi)),.p (.val (.int .u64 num.abs.lo))]),(104,.var [.p (pi (0:Int)),.p (pi (0:Int))])]⟩) ?_
  replace H0:=bind_some H0
  obtain ⟨y2,h_2,H0⟩:=H0
  replace H0:=req_some H0
  obtain ⟨q_4,H0⟩:=H0
  replace H0:=bind_some H0
  obtain ⟨⟨y3,y4⟩,h_3,H0⟩:=H0
  try dsimp only at H0
  refine lok_dt (Env.of E0 [⟨some 18,66,[.agg [.p (.val (.int .u64 num.abs.hi)),.p (.val (.int .u64 num.abs.lo))],.one (.p (.val (.int .u64 y1)))],[],[.agg [.p (.val (.int .u64 y2.hi)),.p (.val (.int .u64 y2.lo))]],[],True,fun _ => ok_ratio_wide_over num.abs y1 y2 h_2,[]⟩,
      ⟨some 23,65,[.one (.p (.val (.bool num.neg))),.agg [.p (.val (.int .u64 y2.hi)),.p (.val (.int .u64 y2.lo))],.agg [.p (.val (.int .u64 (0:Int))),.p (.val (.int .u64 (IntKind.u64.wrap (Int.tdiv den y1))))]],[],[.agg [.p (pi y3.Num),.p (pi y3.Den)],.one (.p (pi y4))],[],True,fun _ => ok_ratio_fitted num.neg y2 (ratio_wide.mk (0:Int) (IntKind.u64.wrap (Int.tdiv den y1))) (y3,y4) h_3,[]⟩]) 13 (⟨26,mkS [(4,.x (.one (.ptr 104 0))),(5,.x (.one (.p (pi y4))))],mkH [(104,.var [.p (pi y3.Num),.p (pi y3.Den)])]⟩) (by kernel_rfl) (by kernel_rfl) ?_
  refine lok_ret ?_
  obtain rfl:=Option.some.inj H0
  try simp only [thenL,blockL]
  exact fin_au _ (.inr rfl) [] (⟨26,mkS [(4,.x (.one (.ptr 104 0))),(5,.x (.one (.p (pi y4))))],mkH [(104,.var [.p (pi y3.Num),.p (pi y3.Den)])]⟩) rfl rfl imp_au
theorem ok_ratio_magnitude (n:Int) (r_:Int) (H0:ratio_magnitude n=some r_):CallOK Tryz.prog 49 [.one (.p (pi n))] [] [.one (.p (.val (.int .u64 r_)))] []:=by
  refine callOK (n:=10) (rs:=[.tmp 2]) (nb:=0) (V:=[]) Tryz.func49 rfl (by kernel_rfl) rfl rfl rfl rfl (Nat.le_of_ble_eq_true rfl) (by decide) ?_
  unfold ratio_magnitude at H0
  refine lok_rt E0 (⟨10,mkS [(0,.x (.one (.p (pi n))))],mkH []⟩) ?_
  refine lok_seq ?_
  refine lok_rt E0 (⟨10,mkS [(0,.x (.one (.p (pi n)))),(4,.x (.one (.p (.val (.bool (decide (n<(0:Int))))))))],mkH []⟩) ?_
  refine lok_c (decide (n<(0:Int))) ?_ ?_
  · intro b_0
    replace H0:=cpos H0 b_0
    refine lok_rt E0 (⟨10,mkS [(2,.x (.one (.p (.val (.int .u64 (IntKind.u64.wrap (0-(IntKind.u64.wrap n))))))))],mkH []⟩) ?_
    refine lok_ret ?_
    obtain rfl:=Option.some.inj H0
    try simp only [thenL,blockL]
    exact fin_au _ (.inr rfl) [] (⟨10,mkS [(2,.x (.one (.p (.val (.int .u64 (IntKind.u64.wrap (0-(IntKind.u64.wrap n))))))))],mkH []⟩) rfl rfl imp_au
  · intro b_0
    replace H0:=cneg H0 b_0
    refine lok_skip ?_
    try simp only [thenL,blockL,↓reduceIte,reduceCtorEq]
    refine lok_rt E0 (⟨10,mkS [(2,.x (.one (.p (.val (.int .u64 (IntKind.u64.wrap n))))))],mkH []⟩) ?_
    refine lok_ret ?_
    obtain rfl:=Option.some.inj H0
    try simp only [thenL,blockL]
    exact fin_au _ (.inr rfl) [] (⟨10,mkS [(2,.x (.one (.p (.val (.int .u64 (IntKind.u64.wrap n))))))],mkH []⟩) rfl rfl imp_au
theorem ok_ratio_New (num:Int) (den:Int) (r_:api_Ratio × Int) (H0:ratio_New num den=some r_):CallOK Tryz.prog 35 [.one (.p (pi num)),.one (.p (pi den))] [] [.agg [.p (pi r_.1.Num),.p (pi r_.1.Den)],.one (.p (pi r_.2))] []:=by
  refine callOK (n:=25) (rs:=[.cell 4 26,.tmp 5]) (nb:=0) (V:=[]) Tryz.func35 rfl (by kernel_rfl) rfl rfl rfl rfl (Nat.le_of_ble_eq_true rfl) (by decide) ?_
  unfold ratio_New at H0
  refine lok_rt E0 (⟨25,mkS [(0,.x (.one (.p (pi num)))),(1,.x (.one (.p (pi den)))),(4,.x (.one (.ptr 104 0)))],mkH [(104,.var [.p (pi (0:Int)),.p (pi (0:Int))])]⟩) ?_
  refine lok_seq ?_
  refine lok_rt E0 (⟨25,mkS [(0,.x (.one (.p (pi num)))),(1,.x (.one (.p (pi den)))),(4,.x (.one (.ptr 104 0))),(8,.x (.one (.p (.val (.bool (den==(0:Int)))))))],mkH [(104,.var [.p (pi (0:Int)),.p (pi (0:Int))])]⟩) ?_
  refine lok_c (den==(0:Int)) ?_ ?_
  · intro b_3
    replace H0:=cpos H0 b_3
    refine lok_rt E0 (⟨25,mkS [(4,.x (.one (.ptr 104 0))),(5,.x (.one (.p (pi (2:Int)))))],mkH [(104,.var [.p (pi (0:Int)),.p (pi (0:Int))])]⟩) ?_
    refine lok_ret ?_
    obtain rfl:=Option.some.inj H0
    try simp only [thenL,blockL]
    exact fin_au _ (.inr rfl) [] (⟨25,mkS [(4,.x (.one (.ptr 104 0))),(5,.x (.one (.p (pi (2:Int)))))],mkH [(104,.var [.p (pi (0:Int)),.p (pi (0:Int))])]⟩) rfl rfl imp_au
  · intro b_3
    replace H0:=cneg H0 b_3
    refine lok_skip ?_
    try simp only [thenL,blockL,↓reduceIte,reduceCtorEq]
    refine lok_rt E0 (⟨25,mkS [(0,.x (.one (.p (pi num)))),(1,.x (.one (.p (pi den)))),(4,.x (.one (.ptr 104 0))),(6,.x (.one (.p (.val (.bool (!((decide (num<(0:Int)))==(decide (den<(0:Int))))))))))],mkH [(104,.var [.p (pi (0:Int)),.p (pi (0:Int))])]⟩) ?_
    replace H0:=bind_some H0
    obtain ⟨y,h_0,H0⟩:=H0
    replace H0:=bind_some H0
    obtain ⟨y1,h_1,H0⟩:=H0
    replace H0:=bind_some H0
    obtain ⟨⟨y2,y3⟩,h_2,H0⟩:=H0
    try dsimp only at H0
    refine lok_rt (Env.of E0 [⟨some 17,49,[.one (.p (pi num))],[],[.one (.p (.val (.int .u64 y)))],[],True,fun _ => ok_ratio_magnitude num y h_0,[]⟩,
      ⟨some 21,49,[.one (.p (pi den))],[],[.one (.p (.val (.int .u64 y1)))],[],True,fun _ => ok_ratio_magnitude den y1 h_1,[]⟩,
      ⟨some 22,48,[.agg [.p (.val (.bool (!((decide (num<(0:Int)))==(decide (den<(0:Int))))))),.p (.val (.int .u64 (0:Int))),.p (.val (.int .u64 y))],.one (.p (.val (.int .u64 y1)))],[],[.agg [.p (pi y2.Num),.p (pi y2.Den)],.one (.p (pi y3))],[],True,fun _ => ok_ratio_reduced (ratio_signed.mk (!((decide (num<(0:Int)))==(decide (den<(0:Int))))) (ratio_wide.mk (0:Int) y)) y1 (y2,y3) h_2,[]⟩]) (⟨25,mkS [(4,.x (.one (.ptr 104 0))),(5,.x (.one (.p (pi y3))))],mkH [(104,.var [.p (pi y2.Num),.p (pi y2.Den)])]⟩) ?_
    refine lok_ret ?_
    obtain rfl:=Option.some.inj H0
    try simp only [thenL,blockL]
    exact fin_au _ (.inr rfl) [] (⟨25,mkS [(4,.x (.one (.ptr 104 0))),(5,.x (.one (.p (pi y3))))],mkH [(104,.var [.p (pi y2.Num),.p (pi y2.Den)])]⟩) rfl rfl imp_au
theorem ok_ratio_Valid (a:api_Ratio) (r_:Bool) (H0:ratio_Valid a=some r_):CallOK Tryz.prog 58 [.agg [.p (pi a.Num),.p (pi a.Den)]] [] [.one (.p (.val (.bool r_)))] []:=by
  refine callOK (n:=29) (rs:=[.tmp 2]) (nb:=0) (V:=[]) Tryz.func58 rfl (by kernel_rfl) rfl rfl rfl rfl (Nat.le_of_ble_eq_true rfl) (by decide) ?_
  unfold ratio_Valid at H0
  refine lok_rt E0 (⟨29,mkS [(1,.x (.one (.ptr 101 0)))],mkH [(101,.var [.p (pi a.Num),.p (pi a.Den)])]⟩) ?_
  refine lok_seq ?_
  refine lok_rt E0 (⟨29,mkS [(1,.x (.one (.ptr 101 0))),(20,.x (.one (.p (.val (.bool ((((decide (a.Den<(1:Int)))||(decide ((1152921504606846976:Int)<a.Den)))||(decide (a.Num<(-1152921504606846976:Int))))||(decide ((1152921504606846976:Int)<a.Num))))))))],mkH [(101,.var [.p (pi a.Num),.p (pi a.Den)])]⟩) ?_
  refine lok_c ((((decide (a.Den<(1:Int)))||(decide ((1152921504606846976:Int)<a.Den)))||(decide (a.Num<(-1152921504606846976:Int))))||(decide ((1152921504606846976:Int)<a.Num))) ?_ ?_
  · intro b_2
    replace H0:=cpos H0 b_2
    refine lok_rt E0 (⟨29,mkS [(2,.x (.one (.p (.val (.bool false)))))],mkH []⟩) ?_
    refine lok_ret ?_
    obtain rfl:=Option.some.inj H0
    try simp only [thenL,blockL]
    exact fin_au _ (.inr rfl) [] (⟨29,mkS [(2,.x (.one (.p (.val (.bool false)))))],mkH []⟩) rfl rfl imp_au
  · intro b_2
    replace H0:=cneg H0 b_2
    refine lok_skip ?_
    try simp only [thenL,blockL,↓reduceIte,reduceCtorEq]
    replace H0:=bind_some H0
    obtain ⟨y,h_0,H0⟩:=H0
    replace H0:=bind_some H0
    obtain ⟨y1,h_1,H0⟩:=H0
    refine lok_dt (Env.of E0 [⟨some 23,49,[.one (.p (pi a.Num))],[],[.one (.p (.val (.int .u64 y)))],[],True,fun _ => ok_ratio_magnitude a.Num y h_0,[]⟩,
      ⟨some 27,63,[.one (.p (.val (.int .u64 y))),.one (.p (.val (.int .u64 (IntKind.u64.wrap a.Den))))],[],[.one (.p (.val (.int .u64 y1)))],[],True,fun _ => ok_ratio_gcd y (IntKind.u64.wrap a.Den) y1 h_1,[]⟩]) 6 (⟨29,mkS [(2,.x (.one (.p (.val (.bool (y1==(1:Int)))))))],mkH []⟩) (by kernel_rfl) (by kernel_rfl) ?_
    refine lok_ret ?_
    obtain rfl:=Option.some.inj H0
    try simp only [thenL,blockL]
    exact fin_au _ (.inr rfl) [] (⟨29,mkS [(2,.x (.one (.p (.val (.bool (y1==(1:Int)))))))],mkH []⟩) rfl rfl imp_au
theorem ok_bits_Mul64 (x:Int) (y:Int) (r_:Int × Int) (H0:bits_Mul64 x y=some r_):CallOK Tryz.prog 101 [.one (.p (.val (.int .u64 x))),.one (.p (.val (.int .u64 y)))] [] [.one (.p (.val (.int .u64 r_.1))),.one (.p (.val (.int .u64 r_.2)))] []:=by
  refine callOK (n:=51) (rs:=[.tmp 4,.tmp 5]) (nb:=0) (V:=[]) Tryz.func101 rfl (by kernel_rfl) rfl rfl rfl rfl (Nat.le_of_ble_eq_true rfl) (by decide) ?_
  unfold bits_Mul64 at H0
  refine lok_rt E0 (⟨51,mkS [(0,.x (.one (.p (.val (.int .u64 x))))),(1,.x (.one (.p (.val (.int .u64 y)))))],mkH []⟩) ?_
  refine lok_rt E0 (⟨51,mkS [(0,.x (.one (.p (.val (.int .u64 x))))),(1,.x (.one (.p (.val (.int .u64 y))))),(6,.x (.one (.p (.val (.int .u64 (bAnd .u64 x (4294967295:Int)))))))],mkH []⟩) ?_
  refine lok_rt E0 (⟨51,mkS [(0,.x (.one (.p (.val (.int .u64 x))))),(1,.x (.one (.p (.val (.int .u64 y))))),(6,.x (.one (.p (.val (.int .u64 (bAnd .u64 x (4294967295:Int))))))),(7,.x (.one (.p (.val (.int .u64 (bShr .u64 x (32:Int)))))))],mkH []⟩) ?_
  refine lok_rt E0 (⟨51,mkS [(0,.x (.one (.p (.val (.int .u64 x))))),(1,.x (.one (.p (.val (.int .u64 y))))),(6,.x (.one (.p (.val (.int .u64 (bAnd .u64 x (4294967295:Int))))))),(7,.x (.one (.p (.val (.int .u64 (bShr .u64 x (32:Int))))))),(8,.x (.one (.p (.val (.int .u64 (bAnd .u64 y (4294967295:Int)))))))],mkH []⟩) ?_
  refine lok_rt E0 (⟨51,mkS [(0,.x (.one (.p (.val (.int .u64 x))))),(1,.x (.one (.p (.val (.int .u64 y))))),(6,.x (.one (.p (.val (.int .u64 (bAnd .u64 x (4294967295:Int))))))),(7,.x (.one (.p (.val (.int .u64 (bShr .u64 x (32:Int))))))),(8,.x (.one (.p (.val (.int .u64 (bAnd .u64 y (4294967295:Int))))))),(9,.x (.one (.p (.val (.int .u64 (bShr .u64 y (32:Int)))))))],mkH []⟩) ?_
  replace H0:=bindV_some H0
  obtain ⟨w0,a_0,H0⟩:=H0
  refine lok_rtg E0 a_0 (⟨51,mkS [(0,.x (.one (.p (.val (.int .u64 x))))),(1,.x (.one (.p (.val (.int .u64 y))))),(6,.x (.one (.p (.val (.int .u64 (bAnd .u64 x (4294967295:Int))))))),(7,.x (.one (.p (.val (.int .u64 (bShr .u64 x (32:Int))))))),(8,.x (.one (.p (.val (.int .u64 (bAnd .u64 y (4294967295:Int))))))),(9,.x (.one (.p (.val (.int .u64 (bShr .u64 y (32:Int))))))),(10,.x (.one (.p (.val (.int .u64 w0)))))],mkH []⟩) ?_
  replace H0:=bindV_some H0
  obtain ⟨t,a_1,H0⟩:=H0
  refine lok_rtg E0 a_1 (⟨51,mkS [(0,.x (.one (.p (.val (.int .u64 x))))),(1,.x (.one (.p (.val (.int .u64 y))))),(6,.x (.one (.p (.val (.int .u64 (bAnd .u64 x (4294967295:Int))))))),(7,.x (.one (.p (.val (.int .u64 (bShr .u64 x (32:Int))))))),(9,.x (.one (.p (.val (.int .u64 (bShr .u64 y (32:Int))))))),(11,.x (.one (.p (.val (.int .u64 t)))))],mkH []⟩) ?_
  refine lok_rt E0 (⟨51,mkS [(0,.x (.one (.p (.val (.int .u64 x))))),(1,.x (.one (.p (.val (.int .u64 y))))),(6,.x (.one (.p (.val (.int .u64 (bAnd .u64 x (4294967295:Int))))))),(7,.x (.one (.p (.val (.int .u64 (bShr .u64 x (32:Int))))))),(9,.x (.one (.p (.val (.int .u64 (bShr .u64 y (32:Int))))))),(11,.x (.one (.p (.val (.int .u64 t))))),(12,.x (.one (.p (.val (.int .u64 (bAnd .u64 t (4294967295:Int)))))))],mkH []⟩) ?_
  refine lok_rt E0 (⟨51,mkS [(0,.x (.one (.p (.val (.int .u64 x))))),(1,.x (.one (.p (.val (.int .u64 y))))),(6,.x (.one (.p (.val (.int .u64 (bAnd .u64 x (4294967295:Int))))))),(7,.x (.one (.p (.val (.int .u64 (bShr .u64 x (32:Int))))))),(9,.x (.one (.p (.val (.int .u64 (bShr .u64 y (32:Int))))))),(12,.x (.one (.p (.val (.int .u64 (bAnd .u64 t (4294967295:Int))))))),(13,.x (.one (.p (.val (.int .u64 (bShr .u64 t (32:Int)))))))],mkH []⟩) ?_
  replace H0:=bindV_some H0
  obtain ⟨w1,a_2,H0⟩:=H0
  refine lok_rtg E0 a_2 (⟨51,mkS [(0,.x (.one (.p (.val (.int .u64 x))))),(1,.x (.one (.p (.val (.int .u64 y))))),(7,.x (.one (.p (.val (.int .u64 (bShr .u64 x (32:Int))))))),(9,.x (.one (.p (.val (.int .u64 (bShr .u64 y (32:Int))))))),(12,.x (.one (.p (.val (.int .u64 w1))))),(13,.x (.one (.p (.val (.int .u64 (bShr .u64 t (32:Int)))))))],mkH []⟩) ?_
  replace H0:=bindV_some H0
  obtain ⟨hi,a_3,H0⟩:=H0
  refine lok_rtg E0 a_3 (⟨51,mkS [(0,.x (.one (.p (.val (.int .u64 x))))),(1,.x (.one (.p (.val (.int .u64 y))))),(4,.x (.one (.p (.val (.int .u64 hi)))))],mkH []⟩) ?_
  refine lok_rt E0 (⟨51,mkS [(4,.x (.one (.p (.val (.int .u64 hi))))),(5,.x (.one (.p (.val (.int .u64 (IntKind.u64.wrap (x*y)))))))],mkH []⟩) ?_
  refine lok_ret ?_
  obtain rfl:=Option.some.inj H0
  try simp only [thenL,blockL]
  exact fin_au _ (.inr rfl) [] (⟨51,mkS [(4,.x (.one (.p (.val (.int .u64 hi))))),(5,.x (.one (.p (.val (.int .u64 (IntKind.u64.wrap (x*y)))))))],mkH []⟩) rfl rfl imp_au
theorem ok_ratio_product (a:Int) (b:Int) (r_:ratio_wide) (H0:ratio_product a b=some r_):CallOK Tryz.prog 98 [.one (.p (.val (.int .u64 a))),.one (.p (.val (.int .u64 b)))] [] [.agg [.p (.val (.int .u64 r_.hi)),.p (.val (.int .u64 r_.lo))]] []:=by
  refine callOK (n:=16) (rs:=[.cell 4 78]) (nb:=0) (V:=[]) Tryz.func98 rfl (by kernel_rfl) rfl rfl rfl rfl (Nat.le_of_ble_eq_true rfl) (by decide) ?_
  unfold ratio_product at H0
  refine lok_rt E0 (⟨16,mkS [(0,.x (.one (.p (.val (.int .u64 a))))),(1,.x (.one (.p (.val (.int .u64 b))))),(4,.x (.one (.ptr 104 0)))],mkH [(104,.var [.p (.val (.int .u64 (0:Int))),.p (.val (.int .u64 (0:Int)))])]⟩) ?_
  replace H0:=bind_some H0
  obtain ⟨⟨y,y1⟩,h_0,H0⟩:=H0
  try dsimp only at H0
  refine lok_rt (Env.of E0 [⟨some 10,101,[.one (.p (.val (.int .u64 a))),.one (.p (.val (.int .u64 b)))],[],[.one (.p (.val (.int .u64 y))),.one (.p (.val (.int .u64 y1)))],[],True,fun _ => ok_bits_Mul64 a b (y,y1) h_0,[]⟩]) (⟨16,mkS [(4,.x (.one (.ptr 104 0))),(5,.x (.one (.p (.val (.int .u64 y))))),(6,.x (.one (.p (.val (.int .u64 y1)))))],mkH [(104,.var [.p (.val (.int .u64 (0:Int))),.p (.val (.int .u64 (0:Int)))])]⟩) ?_
  refine lok_rt E0 (⟨16,mkS [(4,.x (.one (.ptr 104 0)))],mkH [(104,.var [.p (.val (.int .u64 y)),.p (.val (.int .u64 y1))])]⟩) ?_
  refine lok_ret ?_
  obtain rfl:=Option.some.inj H0
  try simp only [thenL,blockL]
  exact fin_au _ (.inr rfl) [] (⟨16,mkS [(4,.x (.one (.ptr 104 0)))],mkH [(104,.var [.p (.val (.int .u64 y)),.p (.val (.int .u64 y1))])]⟩) rfl rfl imp_au
theorem ok_ratio_signedProduct (num:Int) (factor:Int) (r_:ratio_signed) (H0:ratio_signedProduct num factor=some r_):CallOK Tryz.prog 76 [.one (.p (pi num)),.one (.p (.val (.int .u64 factor)))] [] [.agg [.p (.val (.bool r_.neg)),.p (.val (.int .u64 r_.abs.hi)),.p (.val (.int .u64 r_.abs.lo))]] []:=by
  refine callOK (n:=12) (rs:=[.cell 4 80]) (nb:=0) (V:=[]) Tryz.func76 rfl (by kernel_rfl) rfl rfl rfl rfl (Nat.le_of_ble_eq_true rfl) (by decide) ?_
  unfold ratio_signedProduct at H0
  refine lok_rt E0 (⟨12,mkS [(0,.x (.one (.p (pi num)))),(1,.x (.one (.p (.val (.int .u64 factor))))),(4,.x (.one (.ptr 104 0)))],mkH [(104,.var [.p (.val (.bool false)),.p (.val (.int .u64 (0:Int))),.p (.val (.int .u64 (0:Int)))])]⟩) ?_
  replace H0:=bind_some H0
  obtain ⟨y,h_0,H0⟩:=H0
  replace H0:=bind_some H0
  obtain ⟨y1,h_1,H0⟩:=H0
  refine lok_rt (Env.of E0 [⟨some 8,49,[.one (.p (pi num))],[],[.one (.p (.val (.int .u64 y)))],[],True,fun _ => ok_ratio_magnitude num y h_0,[]⟩,
      ⟨some 10,98,[.one (.p (.val (.int .u64 y))),.one (.p (.val (.int .u64 factor)))],[],[.agg [.p (.val (.int .u64 y1.hi)),.p (.val (.int .u64 y1.lo))]],[],True,fun _ => ok_ratio_product y factor y1 h_1,[]⟩]) (⟨12,mkS [(4,.x (.one (.ptr 104 0)))],mkH [(104,.var [.p (.val (.bool (decide (num<(0:Int))))),.p (.val (.int .u64 y1.hi)),.p (.val (.int .u64 y1.lo))])]⟩) ?_
  refine lok_ret ?_
  obtain rfl:=Option.some.inj H0
  try simp only [thenL,blockL]
  exact fin_au _ (.inr rfl) [] (⟨12,mkS [(4,.x (.one (.ptr 104 0)))],mkH [(104,.var [.p (.val (.bool (decide (num<(0:Int))))),.p (.val (.int .u64 y1.hi)),.p (.val (.int .u64 y1.lo))])]⟩) rfl rfl imp_au
theorem ok_cmp_isNaN_uint64 (x:Int) (r_:Bool) (H0:cmp_isNaN_uint64 x=some r_):CallOK Tryz.prog 108 [.one (.p (.val (.int .u64 x)))] [] [.one (.p (.val (.bool r_)))] []:=by
  refine callOK (n:=6) (rs:=[.tmp 2]) (nb:=0) (V:=[]) Tryz.func108 rfl (by kernel_rfl) rfl rfl rfl rfl (Nat.le_of_ble_eq_true rfl) (by decide) ?_
  unfold cmp_isNaN_uint64 at H0
  refine lok_rt E0 (⟨6,mkS [(0,.x (.one (.p (.val (.int .u64 x)))))],mkH []⟩) ?_
  refine lok_rt E0 (⟨6,mkS [(2,.x (.one (.p (.val (.bool (x != x))))))],mkH []⟩) ?_
  refine lok_ret ?_
  obtain rfl:=Option.some.inj H0
  try simp only [thenL,blockL]
  exact fin_au _ (.inr rfl) [] (⟨6,mkS [(2,.x (.one (.p (.val (.bool (x != x))))))],mkH []⟩) rfl rfl imp_au
theorem ok_cmp_Compare_uint64 (x:Int) (y:Int) (r_:Int) (H0:cmp_Compare_uint64 x y=some r_):CallOK Tryz.prog 99 [.one (.p (.val (.int .u64 x))),.one (.p (.val (.int .u64 y)))] [] [.one (.p (pi r_))] []:=by
  refine callOK (n:=20) (rs:=[.tmp 4]) (nb:=0) (V:=[]) Tryz.func99 rfl (by kernel_rfl) rfl rfl rfl rfl (Nat.le_of_ble_eq_true rfl) (by decide) ?_
  unfold cmp_Compare_uint64 at H0
  refine lok_rt E0 (⟨20,mkS [(0,.x (.one (.p (.val (.int .u64 x))))),(1,.x (.one (.p (.val (.int .u64 y)))))],mkH []⟩) ?_
  replace H0:=bind_some H0
  obtain ⟨y1,h_0,H0⟩:=H0
  refine lok_rt (Env.of E0 [⟨some 8,108,[.one (.p (.val (.int .u64 x)))],[],[.one (.p (.val (.bool y1)))],[],True,fun _ => ok_cmp_isNaN_uint64 x y1 h_0,[]⟩]) (⟨20,mkS [(0,.x (.one (.p (.val (.int .u64 x))))),(1,.x (.one (.p (.val (.int .u64 y))))),(5,.x (.one (.p (.val (.bool y1)))))],mkH []⟩) ?_
  replace H0:=bind_some H0
  obtain ⟨y2,h_1,H0⟩:=H0
  refine lok_rt (Env.of E0 [⟨some 10,108,[.one (.p (.val (.int .u64 y)))],[],[.one (.p (.val (.bool y2)))],[],True,fun _ => ok_cmp_isNaN_uint64 y y2 h_1,[]⟩]) (⟨20,mkS [(0,.x (.one (.p (.val (.int .u64 x))))),(1,.x (.one (.p (.val (.int .u64 y))))),(5,.x (.one (.p (.val (.bool y1))))),(6,.x (.one (.p (.val (.bool y2)))))],mkH []⟩) ?_
  refine lok_seq ?_
  refine lok_rt E0 (⟨20,mkS [(0,.x (.one (.p (.val (.int .u64 x))))),(1,.x (.one (.p (.val (.int .u64 y))))),(6,.x (.one (.p (.val (.bool y2))))),(11,.x (.one (.p (.val (.bool y1)))))],mkH []⟩) ?_
  refine lok_c y1 ?_ ?_
  · intro b_6
    replace H0:=cpos H0 b_6
    refine lok_seq ?_
    refine lok_rt E0 (⟨20,mkS [(12,.x (.one (.p (.val (.bool y2)))))],mkH []⟩) ?_
    refine lok_c y2 ?_ ?_
    · intro b_2
      replace H0:=cpos H0 b_2
      refine lok_rt E0 (⟨20,mkS [(4,.x (.one (.p (pi (0:Int)))))],mkH []⟩) ?_
      refine lok_ret ?_
      obtain rfl:=Option.some.inj H0
      try simp only [thenL,blockL]
      exact fin_au _ (.inr rfl) [] (⟨20,mkS [(4,.x (.one (.p (pi (0:Int)))))],mkH []⟩) rfl rfl imp_au
    · intro b_2
      replace H0:=cneg H0 b_2
      refine lok_skip ?_
      try simp only [thenL,blockL,↓reduceIte,reduceCtorEq]
      refine lok_rt E0 (⟨20,mkS [(4,.x (.one (.p (pi (-1:Int)))))],mkH []⟩) ?_
      refine lok_ret ?_
      obtain rfl:=Option.some.inj H0
      try simp only [thenL,blockL]
      exact fin_au _ (.inr rfl) [] (⟨20,mkS [(4,.x (.one (.p (pi (-1:Int)))))],mkH []⟩) rfl rfl imp_au
  · intro b_6
    replace H0:=cneg H0 b_6
    refine lok_skip ?_
    try simp only [thenL,blockL,↓reduceIte,reduceCtorEq]
    refine lok_seq ?_
    refine lok_rt E0 (⟨20,mkS [(0,.x (.one (.p (.val (.int .u64 x))))),(1,.x (.one (.p (.val (.int .u64 y))))),(13,.x (.one (.p (.val (.bool y2)))))],mkH []⟩) ?_
    refine lok_c y2 ?_ ?_
    · intro b_5
      replace H0:=cpos H0 b_5
      refine lok_rt E0 (⟨20,mkS [(4,.x (.one (.p (pi (1:Int)))))],mkH []⟩) ?_
      refine lok_ret ?_
      obtain rfl:=Option.some.inj H0
      try simp only [thenL,blockL]
      exact fin_au _ (.inr rfl) [] (⟨20,mkS [(4,.x (.one (.p (pi (1:Int)))))],mkH []⟩) rfl rfl imp_au
    · intro b_5
      replace H0:=cneg H0 b_5
      refine lok_skip ?_
      try simp only [thenL,blockL,↓reduceIte,reduceCtorEq]
      refine lok_seq ?_
      refine lok_rt E0 (⟨20,mkS [(0,.x (.one (.p (.val (.int .u64 x))))),(1,.x (.one (.p (.val (.int .u64 y))))),(16,.x (.one (.p (.val (.bool (decide (x<y)))))))],mkH []⟩) ?_
      refine lok_c (decide (x<y)) ?_ ?_
      · intro b_4
        replace H0:=cpos H0 b_4
        refine lok_rt E0 (⟨20,mkS [(4,.x (.one (.p (pi (-1:Int)))))],mkH []⟩) ?_
        refine lok_ret ?_
        obtain rfl:=Option.some.inj H0
        try simp only [thenL,blockL]
        exact fin_au _ (.inr rfl) [] (⟨20,mkS [(4,.x (.one (.p (pi (-1:Int)))))],mkH []⟩) rfl rfl imp_au
      · intro b_4
        replace H0:=cneg H0 b_4
        refine lok_skip ?_
        try simp only [thenL,blockL,↓reduceIte,reduceCtorEq]
        refine lok_seq ?_
        refine lok_rt E0 (⟨20,mkS [(19,.x (.one (.p (.val (.bool (decide (y<x)))))))],mkH []⟩) ?_
        refine lok_c (decide (y<x)) ?_ ?_
        · intro b_3
          replace H0:=cpos H0 b_3
          refine lok_rt E0 (⟨20,mkS [(4,.x (.one (.p (pi (1:Int)))))],mkH []⟩) ?_
          refine lok_ret ?_
          obtain rfl:=Option.some.inj H0
          try simp only [thenL,blockL]
          exact fin_au _ (.inr rfl) [] (⟨20,mkS [(4,.x (.one (.p (pi (1:Int)))))],mkH []⟩) rfl rfl imp_au
        · intro b_3
          replace H0:=cneg H0 b_3
          refine lok_skip ?_
          try simp only [thenL,blockL,↓reduceIte,reduceCtorEq]
          refine lok_rt E0 (⟨20,mkS [(4,.x (.one (.p (pi (0:Int)))))],mkH []⟩) ?_
          refine lok_ret ?_
          obtain rfl:=Option.some.inj H0
          try simp only [thenL,blockL]
          exact fin_au _ (.inr rfl) [] (⟨20,mkS [(4,.x (.one (.p (pi (0:Int)))))],mkH []⟩) rfl rfl imp_au
end Go.LS
