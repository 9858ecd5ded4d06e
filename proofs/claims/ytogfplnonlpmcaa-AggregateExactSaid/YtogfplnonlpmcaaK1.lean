/-
  The walks: the functions compute what the plain ones say. Condition: the plain function has a value.
-/
import Derived.Test.YtogfplnonlpmcaaK0
import Derived.Test.YtogfplnonlpmcaaD1
namespace Go.LS
open Go.Proofs
set_option linter.all false
set_option linter.unusedSimpArgs false
set_option linter.unusedVariables false
set_option maxRecDepth 20000

theorem ok_mark_Light (l : List Int) (r_ : Bool) (H0 : mark_Light l = some r_) : CallOK Try.prog 10 [.one (.p (.sl 1 (List.map encI l)))] [] [.one (.p (.val (.bool r_)))] []:=by
  refine callOK (n:=6) (rs:=[.tmp 2]) (nb:=0) (V:=[]) Try.func10 rfl (by kernel_rfl) rfl rfl rfl rfl (Nat.le_of_ble_eq_true rfl) (by decide) ?_
  unfold mark_Light at H0
  refine lok_rt E0 (⟨6,mkS [(0,.x (.one (.p (.sl 1 (List.map encI l)))))],mkH []⟩) ?_
  refine lok_rt E0 (⟨6,mkS [(2,.x (.one (.p (.val (.bool (decide ((l.length:Int) ≤ (600:Int))))))))],mkH []⟩) ?_
  refine lok_ret ?_
  obtain rfl:=Option.some.inj H0
  try simp only [thenL,blockL]
  exact fin_au _ (.inr rfl) [] (⟨6,mkS [(2,.x (.one (.p (.val (.bool (decide ((l.length:Int) ≤ (600:Int))))))))],mkH []⟩) rfl rfl imp_au
theorem ok_law36_whole (n:Int) (r_ : api_Ratio) (H0 : law36_whole n = some r_) : CallOK Try.prog 17 [.one (.p (pi n))] [] [.agg [.p (pi r_.Num),.p (pi r_.Den)]] []:=by
  refine callOK (n:=5) (rs:=[.cell 2 36]) (nb:=0) (V:=[]) Try.func17 rfl (by kernel_rfl) rfl rfl rfl rfl (Nat.le_of_ble_eq_true rfl) (by decide) ?_
  unfold law36_whole at H0
  refine lok_rt E0 (⟨5,mkS [(0,.x (.one (.p (pi n)))),(2,.x (.one (.ptr 102 0)))],mkH [(102,.var [.p (pi (0:Int)),.p (pi (0:Int))])]⟩) ?_
  refine lok_rt E0 (⟨5,mkS [(2,.x (.one (.ptr 102 0)))],mkH [(102,.var [.p (pi n),.p (pi (1:Int))])]⟩) ?_
  refine lok_ret ?_
  obtain rfl:=Option.some.inj H0
  try simp only [thenL,blockL]
  exact fin_au _ (.inr rfl) [] (⟨5,mkS [(2,.x (.one (.ptr 102 0)))],mkH [(102,.var [.p (pi n),.p (pi (1:Int))])]⟩) rfl rfl imp_au
theorem ok_aggregate_isScore (n:Int) (r_ : Bool) (H0 : aggregate_isScore n = some r_) : CallOK Try.prog 40 [.one (.p (pi n))] [] [.one (.p (.val (.bool r_)))] []:=by
  refine callOK (n:=9) (rs:=[.tmp 2]) (nb:=0) (V:=[]) Try.func40 rfl (by kernel_rfl) rfl rfl rfl rfl (Nat.le_of_ble_eq_true rfl) (by decide) ?_
  unfold aggregate_isScore at H0
  refine lok_rt E0 (⟨9,mkS [(0,.x (.one (.p (pi n))))],mkH []⟩) ?_
  refine lok_rt E0 (⟨9,mkS [(2,.x (.one (.p (.val (.bool ((decide ((1:Int) ≤ n)) && (decide (n ≤ (200:Int)))))))))],mkH []⟩) ?_
  refine lok_ret ?_
  obtain rfl:=Option.some.inj H0
  try simp only [thenL,blockL]
  exact fin_au _ (.inr rfl) [] (⟨9,mkS [(2,.x (.one (.p (.val (.bool ((decide ((1:Int) ≤ n)) && (decide (n ≤ (200:Int)))))))))],mkH []⟩) rfl rfl imp_au
theorem ok_boundary_isScore (n:Int) (r_ : Bool) (H0 : boundary_isScore n = some r_) : CallOK Try.prog 70 [.one (.p (pi n))] [] [.one (.p (.val (.bool r_)))] []:=by
  refine callOK (n:=9) (rs:=[.tmp 2]) (nb:=0) (V:=[]) Try.func70 rfl (by kernel_rfl) rfl rfl rfl rfl (Nat.le_of_ble_eq_true rfl) (by decide) ?_
  unfold boundary_isScore at H0
  refine lok_rt E0 (⟨9,mkS [(0,.x (.one (.p (pi n))))],mkH []⟩) ?_
  refine lok_rt E0 (⟨9,mkS [(2,.x (.one (.p (.val (.bool ((decide ((0:Int) ≤ n)) && (decide (n ≤ (200:Int)))))))))],mkH []⟩) ?_
  refine lok_ret ?_
  obtain rfl:=Option.some.inj H0
  try simp only [thenL,blockL]
  exact fin_au _ (.inr rfl) [] (⟨9,mkS [(2,.x (.one (.p (.val (.bool ((decide ((0:Int) ≤ n)) && (decide (n ≤ (200:Int)))))))))],mkH []⟩) rfl rfl imp_au
theorem ok_boundary_Check (b : List Int) (most:Int) (r_:Int) (H0 : boundary_Check b most = some r_) : CallOK Try.prog 41 [.one (.p (.sl 1 (List.map encI b))),.one (.p (pi most))] [] [.one (.p (pi r_))] []:=by
  refine callOK (n:=50) (rs:=[.tmp 4]) (nb:=0) (V:=[]) Try.func41 rfl (by kernel_rfl) rfl rfl rfl rfl (Nat.le_of_ble_eq_true rfl) (by decide) ?_
  unfold boundary_Check at H0
  refine lok_rt E0 (⟨50,mkS [(0,.x (.one (.p (.sl 1 (List.map encI b))))),(1,.x (.one (.p (pi most))))],mkH []⟩) ?_
  refine lok_seq ?_
  replace H0:=bind_some H0
  obtain ⟨y,h_0,H0⟩:=H0
  refine lok_rt (Env.of E0 [⟨some 9,70,[.one (.p (pi most))],[],[.one (.p (.val (.bool y)))],[],True,fun _ => ok_boundary_isScore most y h_0,[]⟩]) (⟨50,mkS [(0,.x (.one (.p (.sl 1 (List.map encI b))))),(1,.x (.one (.p (pi most)))),(10,.x (.one (.p (.val (.bool (!y))))))],mkH []⟩) ?_
  refine lok_c (!y) ?_ ?_
  · intro b_11
    replace H0:=cpos H0 b_11
    refine lok_rt E0 (⟨50,mkS [(4,.x (.one (.p (pi (2:Int)))))],mkH []⟩) ?_
    refine lok_ret ?_
    obtain rfl:=Option.some.inj H0
    try simp only [thenL,blockL]
    exact fin_au _ (.inr rfl) [] (⟨50,mkS [(4,.x (.one (.p (pi (2:Int)))))],mkH []⟩) rfl rfl imp_au
  · intro b_11
    replace H0:=cneg H0 b_11
    refine lok_skip ?_
    try simp only [thenL,blockL,↓reduceIte,reduceCtorEq]
    refine lok_seq ?_
    refine lok_rt E0 (⟨50,mkS [(0,.x (.one (.p (.sl 1 (List.map encI b))))),(1,.x (.one (.p (pi most)))),(18,.x (.one (.p (.val (.bool ((decide ((b.length:Int) < (1:Int))) || (decide ((9:Int) < (b.length:Int)))))))))],mkH []⟩) ?_
    refine lok_c ((decide ((b.length:Int) < (1:Int))) || (decide ((9:Int) < (b.length:Int)))) ?_ ?_
    · intro b_10
      replace H0:=cpos H0 b_10
      refine lok_rt E0 (⟨50,mkS [(4,.x (.one (.p (pi (3:Int)))))],mkH []⟩) ?_
      refine lok_ret ?_
      obtain rfl:=Option.some.inj H0
      try simp only [thenL,blockL]
      exact fin_au _ (.inr rfl) [] (⟨50,mkS [(4,.x (.one (.p (pi (3:Int)))))],mkH []⟩) rfl rfl imp_au
    · intro b_10
      replace H0:=cneg H0 b_10
      refine lok_skip ?_
      try simp only [thenL,blockL,↓reduceIte,reduceCtorEq]
      refine lok_join (fun x_ : Unit => boundary_Check_j3 b = some r_) (fun x_ => ⟨50,mkS [(0,.x (.one (.p (.sl 1 (List.map encI b)))))],mkH []⟩) ?hyboundary_Check_j3 ?hxboundary_Check_j3
      case hyboundary_Check_j3 =>
        rintro _ H0
        try dsimp only at H0 ⊢
        unfold boundary_Check_j3 at H0
        refine lok_join (fun x_ : Unit => boundary_Check_j1 = some r_) (fun x_ => ⟨50,mkS [],mkH []⟩) ?hyboundary_Check_j1 ?hxboundary_Check_j1
        case hyboundary_Check_j1 =>
          rintro _ H0
          try dsimp only at H0 ⊢
          unfold boundary_Check_j1 at H0
          refine lok_rt E0 (⟨50,mkS [(4,.x (.one (.p (pi (0:Int)))))],mkH []⟩) ?_
          refine lok_ret ?_
          obtain rfl:=Option.some.inj H0
          try simp only [thenL,blockL]
          exact fin_au _ (.inr rfl) [] (⟨50,mkS [(4,.x (.one (.p (pi (0:Int)))))],mkH []⟩) rfl rfl imp_au
        case hxboundary_Check_j1 =>
          refine lok_rt E0 (⟨50,mkS [(0,.x (.one (.p (.sl 1 (List.map encI b))))),(7,.x (.one (.p (pi (1:Int)))))],mkH []⟩) ?_
          refine lok_block ?_
          replace H0:=bind_some H0
          obtain ⟨v_1,hv_1,H0⟩:=H0
          refine lok_iter (fun x_ => ⟨50,mkS [(0,.x (.one (.p (.sl 1 (List.map encI b))))),(7,.x (.one (.p (pi x_))))],mkH []⟩) hv_1 imp_au ?_
          · rintro i o_1 H1 k_1
            unfold boundary_Check_l2 at H1
            try dsimp only at H1 ⊢
            refine lok_seq ?_
            refine lok_rt E0 (⟨50,mkS [(0,.x (.one (.p (.sl 1 (List.map encI b))))),(7,.x (.one (.p (pi i)))),(37,.x (.one (.p (.val (.bool (decide (i < (b.length:Int))))))))],mkH []⟩) ?_
            refine lok_c (decide (i < (b.length:Int))) ?_ ?_
            · intro b_5
              replace H1:=cpos H1 b_5
              refine lok_skip ?_
              try simp only [thenL,blockL,↓reduceIte,reduceCtorEq]
              refine lok_seq ?_
              refine lok_block ?_
              replace H1:=req_some H1
              obtain ⟨⟨q_3,q_4⟩,H1⟩:=H1
              refine lok_dt E0 9 (⟨50,mkS [(0,.x (.one (.p (.sl 1 (List.map encI b))))),(7,.x (.one (.p (pi i)))),(49,.x (.one (.p (.val (.bool (decide ((ix b (IntKind.i64.wrap (i - (1:Int)))) < (ix b i))))))))],mkH []⟩) (by kernel_rfl) (by kernel_rfl) ?_
              refine lok_c (decide ((ix b (IntKind.i64.wrap (i - (1:Int)))) < (ix b i))) ?_ ?_
              · intro b_2
                replace H1:=cpos H1 b_2
                refine lok_rt E0 (⟨50,mkS [(4,.x (.one (.p (pi (43:Int)))))],mkH []⟩) ?_
                refine lok_ret ?_
                try simp only [thenL,blockL,↓reduceIte,reduceCtorEq]
                have e_1:=k_1 _ (Option.some.inj H1).symm
                subst e_1
                try dsimp only at H0
                obtain rfl:=Option.some.inj H0
                try simp only [thenL,blockL]
                exact fin_au _ (.inr rfl) [] (⟨50,mkS [(4,.x (.one (.p (pi (43:Int)))))],mkH []⟩) rfl rfl imp_au
              · intro b_2
                replace H1:=cneg H1 b_2
                refine lok_skip ?_
                try simp only [thenL,blockL,↓reduceIte,reduceCtorEq]
                refine lok_rl E0 (⟨50,mkS [(0,.x (.one (.p (.sl 1 (List.map encI b))))),(7,.x (.one (.p (pi (IntKind.i64.wrap (i + (1:Int)))))))],mkH []⟩) ?_
                try simp only [thenL,blockL,↓reduceIte,reduceCtorEq]
                exact ⟨(IntKind.i64.wrap (i + (1:Int))),(Option.some.inj H1).symm,imp_au⟩
            · intro b_5
              replace H1:=cneg H1 b_5
              refine lok_exit ?_
              try simp only [thenL,blockL,↓reduceIte,reduceCtorEq]
              have e_1:=k_1 _ (Option.some.inj H1).symm
              subst e_1
              try dsimp only at H0
              try simp only [thenL,blockL,↓reduceIte,reduceCtorEq]
              exact ⟨(),H0,imp_au⟩
      case hxboundary_Check_j3 =>
        refine lok_rt E0 (⟨50,mkS [(0,.x (.one (.p (.sl 1 (List.map encI b))))),(1,.x (.one (.p (pi most)))),(19,.x (.one (.p (.sl 1 (List.map encI b))))),(20,.x (.one (.p (pi (b.length:Int))))),(21,.x (.one (.p (pi (0:Int)))))],mkH []⟩) ?_
        refine lok_block ?_
        replace H0:=bind_some H0
        obtain ⟨v_6,hv_6,H0⟩:=H0
        refine lok_iter (fun x_ => ⟨50,mkS [(0,.x (.one (.p (.sl 1 (List.map encI b))))),(1,.x (.one (.p (pi most)))),(19,.x (.one (.p (.sl 1 (List.map encI b))))),(20,.x (.one (.p (pi (b.length:Int))))),(21,.x (.one (.p (pi x_))))],mkH []⟩) hv_6 imp_au ?_
        · rintro v o_1 H1 k_1
          unfold boundary_Check_l4 at H1
          try dsimp only at H1 ⊢
          refine lok_rt E0 (⟨50,mkS [(0,.x (.one (.p (.sl 1 (List.map encI b))))),(1,.x (.one (.p (pi most)))),(19,.x (.one (.p (.sl 1 (List.map encI b))))),(20,.x (.one (.p (pi (b.length:Int))))),(21,.x (.one (.p (pi v)))),(22,.x (.one (.p (.val (.bool (decide (v < (b.length:Int))))))))],mkH []⟩) ?_
          refine lok_seq ?_
          refine lok_c (decide (v < (b.length:Int))) ?_ ?_
          · intro b_9
            replace H1:=cpos H1 b_9
            refine lok_skip ?_
            try simp only [thenL,blockL,↓reduceIte,reduceCtorEq]
            refine lok_seq ?_
            refine lok_block ?_
            replace H1:=req_some H1
            obtain ⟨q_8,H1⟩:=H1
            refine lok_rt E0 (⟨50,mkS [(0,.x (.one (.p (.sl 1 (List.map encI b))))),(1,.x (.one (.p (pi most)))),(6,.x (.one (.p (pi (ix b v))))),(19,.x (.one (.p (.sl 1 (List.map encI b))))),(20,.x (.one (.p (pi (b.length:Int))))),(21,.x (.one (.p (pi v))))],mkH []⟩) ?_
            refine lok_rt E0 (⟨50,mkS [(0,.x (.one (.p (.sl 1 (List.map encI b))))),(1,.x (.one (.p (pi most)))),(19,.x (.one (.p (.sl 1 (List.map encI b))))),(20,.x (.one (.p (pi (b.length:Int))))),(21,.x (.one (.p (pi v)))),(32,.x (.one (.p (.val (.bool ((decide ((ix b v) < (0:Int))) || (decide ((IntKind.i64.wrap (most + (1:Int))) < (ix b v)))))))))],mkH []⟩) ?_
            refine lok_c ((decide ((ix b v) < (0:Int))) || (decide ((IntKind.i64.wrap (most + (1:Int))) < (ix b v)))) ?_ ?_
            · intro b_7
              replace H1:=cpos H1 b_7
              refine lok_rt E0 (⟨50,mkS [(4,.x (.one (.p (pi (2:Int)))))],mkH []⟩) ?_
              refine lok_ret ?_
              try simp only [thenL,blockL,↓reduceIte,reduceCtorEq]
              have e_1:=k_1 _ (Option.some.inj H1).symm
              subst e_1
              try dsimp only at H0
              obtain rfl:=Option.some.inj H0
              try simp only [thenL,blockL]
              exact fin_au _ (.inr rfl) [] (⟨50,mkS [(4,.x (.one (.p (pi (2:Int)))))],mkH []⟩) rfl rfl imp_au
            · intro b_7
              replace H1:=cneg H1 b_7
              refine lok_skip ?_
              try simp only [thenL,blockL,↓reduceIte,reduceCtorEq]
              refine lok_rl E0 (⟨50,mkS [(0,.x (.one (.p (.sl 1 (List.map encI b))))),(1,.x (.one (.p (pi most)))),(19,.x (.one (.p (.sl 1 (List.map encI b))))),(20,.x (.one (.p (pi (b.length:Int))))),(21,.x (.one (.p (pi (IntKind.i64.wrap (v + (1:Int)))))))],mkH []⟩) ?_
              try simp only [thenL,blockL,↓reduceIte,reduceCtorEq]
              exact ⟨(IntKind.i64.wrap (v + (1:Int))),(Option.some.inj H1).symm,imp_au⟩
          · intro b_9
            replace H1:=cneg H1 b_9
            refine lok_exit ?_
            try simp only [thenL,blockL,↓reduceIte,reduceCtorEq]
            have e_1:=k_1 _ (Option.some.inj H1).symm
            subst e_1
            try dsimp only at H0
            try simp only [thenL,blockL,↓reduceIte,reduceCtorEq]
            exact ⟨(),H0,imp_au⟩
theorem ok_aggregate_Check (a : api_Award) (r_:Int) (H0 : aggregate_Check a = some r_) : CallOK Try.prog 19 [.agg [.p (.sl 3 (List.map enc_api_Unit a.Units)),.p (.sl 1 (List.map encI a.Bounds)),.p (pi a.Max)]] [] [.one (.p (pi r_))] []:=by
  refine callOK (n:=71) (rs:=[.tmp 2]) (nb:=0) (V:=[]) Try.func19 rfl (by kernel_rfl) rfl rfl rfl rfl (Nat.le_of_ble_eq_true rfl) (by decide) ?_
  unfold aggregate_Check at H0
  refine lok_rt E0 (⟨71,mkS [(1,.x (.one (.ptr 101 0)))],mkH [(101,.var [.p (.sl 3 (List.map enc_api_Unit a.Units)),.p (.sl 1 (List.map encI a.Bounds)),.p (pi a.Max)])]⟩) ?_
  refine lok_seq ?_
  refine lok_rt E0 (⟨71,mkS [(1,.x (.one (.ptr 101 0))),(14,.x (.one (.p (.val (.bool ((decide ((a.Units.length:Int) < (1:Int))) || (decide ((6:Int) < (a.Units.length:Int)))))))))],mkH [(101,.var [.p (.sl 3 (List.map enc_api_Unit a.Units)),.p (.sl 1 (List.map encI a.Bounds)),.p (pi a.Max)])]⟩) ?_
  refine lok_c ((decide ((a.Units.length:Int) < (1:Int))) || (decide ((6:Int) < (a.Units.length:Int)))) ?_ ?_
  · intro b_10
    replace H0:=cpos H0 b_10
    refine lok_rt E0 (⟨71,mkS [(2,.x (.one (.p (pi (3:Int)))))],mkH []⟩) ?_
    refine lok_ret ?_
    obtain rfl:=Option.some.inj H0
    try simp only [thenL,blockL]
    exact fin_au _ (.inr rfl) [] (⟨71,mkS [(2,.x (.one (.p (pi (3:Int)))))],mkH []⟩) rfl rfl imp_au
  · intro b_10
    replace H0:=cneg H0 b_10
    refine lok_skip ?_
    try simp only [thenL,blockL,↓reduceIte,reduceCtorEq]
    refine lok_join (fun x_ : Unit => aggregate_Check_j1 a = some r_) (fun x_ => ⟨71,mkS [(1,.x (.one (.ptr 101 0)))],mkH [(101,.var [.p (.sl 3 (List.map enc_api_Unit a.Units)),.p (.sl 1 (List.map encI a.Bounds)),.p (pi a.Max)])]⟩) ?hyaggregate_Check_j1 ?hxaggregate_Check_j1
    case hyaggregate_Check_j1 =>
      rintro _ H0
      try dsimp only at H0 ⊢
      unfold aggregate_Check_j1 at H0
      refine lok_seq ?_
      replace H0:=bind_some H0
      obtain ⟨y,h_0,H0⟩:=H0
      refine lok_rt (Env.of E0 [⟨some 64,40,[.one (.p (pi a.Max))],[],[.one (.p (.val (.bool y)))],[],True,fun _ => ok_aggregate_isScore a.Max y h_0,[]⟩]) (⟨71,mkS [(1,.x (.one (.ptr 101 0))),(65,.x (.one (.p (.val (.bool (!y))))))],mkH [(101,.var [.p (.sl 3 (List.map enc_api_Unit a.Units)),.p (.sl 1 (List.map encI a.Bounds)),.p (pi a.Max)])]⟩) ?_
      refine lok_c (!y) ?_ ?_
      · intro b_2
        replace H0:=cpos H0 b_2
        refine lok_rt E0 (⟨71,mkS [(2,.x (.one (.p (pi (2:Int)))))],mkH []⟩) ?_
        refine lok_ret ?_
        obtain rfl:=Option.some.inj H0
        try simp only [thenL,blockL]
        exact fin_au _ (.inr rfl) [] (⟨71,mkS [(2,.x (.one (.p (pi (2:Int)))))],mkH []⟩) rfl rfl imp_au
      · intro b_2
        replace H0:=cneg H0 b_2
        refine lok_skip ?_
        try simp only [thenL,blockL,↓reduceIte,reduceCtorEq]
        replace H0:=bind_some H0
        obtain ⟨y1,h_1,H0⟩:=H0
        refine lok_rt (Env.of E0 [⟨some 70,41,[.one (.p (.sl 1 (List.map encI a.Bounds))),.one (.p (pi a.Max))],[],[.one (.p (pi y1))],[],True,fun _ => ok_boundary_Check a.Bounds a.Max y1 h_1,[]⟩]) (⟨71,mkS [(2,.x (.one (.p (pi y1))))],mkH []⟩) ?_
        refine lok_ret ?_
        obtain rfl:=Option.some.inj H0
        try simp only [thenL,blockL]
        exact fin_au _ (.inr rfl) [] (⟨71,mkS [(2,.x (.one (.p (pi y1))))],mkH []⟩) rfl rfl imp_au
    case hxaggregate_Check_j1 =>
      refine lok_rt E0 (⟨71,mkS [(1,.x (.one (.ptr 101 0))),(16,.x (.one (.p (.sl 3 (List.map enc_api_Unit a.Units))))),(17,.x (.one (.p (pi (a.Units.length:Int))))),(18,.x (.one (.p (pi (0:Int)))))],mkH [(101,.var [.p (.sl 3 (List.map enc_api_Unit a.Units)),.p (.sl 1 (List.map encI a.Bounds)),.p (pi a.Max)])]⟩) ?_
      refine lok_block ?_
      replace H0:=bind_some H0
      obtain ⟨v_3,hv_3,H0⟩:=H0
      refine lok_iter (fun x_ => ⟨71,mkS [(1,.x (.one (.ptr 101 0))),(16,.x (.one (.p (.sl 3 (List.map enc_api_Unit a.Units))))),(17,.x (.one (.p (pi (a.Units.length:Int))))),(18,.x (.one (.p (pi x_))))],mkH [(101,.var [.p (.sl 3 (List.map enc_api_Unit a.Units)),.p (.sl 1 (List.map encI a.Bounds)),.p (pi a.Max)])]⟩) hv_3 imp_au ?_
      · rintro v o_1 H1 k_1
        unfold aggregate_Check_l2 at H1
        try dsimp only at H1 ⊢
        refine lok_rt E0 (⟨71,mkS [(1,.x (.one (.ptr 101 0))),(16,.x (.one (.p (.sl 3 (List.map enc_api_Unit a.Units))))),(17,.x (.one (.p (pi (a.Units.length:Int))))),(18,.x (.one (.p (pi v)))),(19,.x (.one (.p (.val (.bool (decide (v < (a.Units.length:Int))))))))],mkH [(101,.var [.p (.sl 3 (List.map enc_api_Unit a.Units)),.p (.sl 1 (List.map encI a.Bounds)),.p (pi a.Max)])]⟩) ?_
        refine lok_seq ?_
        refine lok_c (decide (v < (a.Units.length:Int))) ?_ ?_
        · intro b_9
          replace H1:=cpos H1 b_9
          refine lok_skip ?_
          try simp only [thenL,blockL,↓reduceIte,reduceCtorEq]
          refine lok_seq ?_
          refine lok_block ?_
          replace H1:=req_some H1
          obtain ⟨q_8,H1⟩:=H1
          refine lok_rt E0 (⟨71,mkS [(1,.x (.one (.ptr 101 0))),(3,.x (.one (.p (pi v)))),(4,.x (.one (.ptr 104 0))),(16,.x (.one (.p (.sl 3 (List.map enc_api_Unit a.Units))))),(17,.x (.one (.p (pi (a.Units.length:Int))))),(18,.x (.one (.p (pi v))))],mkH [(101,.var [.p (.sl 3 (List.map enc_api_Unit a.Units)),.p (.sl 1 (List.map encI a.Bounds)),.p (pi a.Max)]),(104,.var [.p (pi ((ix a.Units v).Paper)),.p (pi ((ix a.Units v).Weight)),.p (pi ((ix a.Units v).Max))])]⟩) ?_
          refine lok_seq ?_
          replace H1:=req_some H1
          obtain ⟨q_7,H1⟩:=H1
          refine lok_rt (Env.of E0 [⟨some 44,40,[.one (.p (pi ((ix a.Units v).Max)))],[],[.one (.p (.val (.bool ((aggregate_isScore ((ix a.Units v).Max)).getD default))))],[],(aggregate_isScore ((ix a.Units v).Max)).isSome = true,fun h => ok_aggregate_isScore ((ix a.Units v).Max) _ (isSome_get h),[]⟩]) (⟨71,mkS [(1,.x (.one (.ptr 101 0))),(3,.x (.one (.p (pi v)))),(4,.x (.one (.ptr 104 0))),(16,.x (.one (.p (.sl 3 (List.map enc_api_Unit a.Units))))),(17,.x (.one (.p (pi (a.Units.length:Int))))),(18,.x (.one (.p (pi v)))),(46,.x (.one (.p (.val (.bool (((((decide ((ix a.Units v).Paper < (0:Int))) || (decide ((31:Int) < (ix a.Units v).Paper))) || (decide ((ix a.Units v).Weight < (1:Int)))) || (decide ((1000:Int) < (ix a.Units v).Weight))) || (!((aggregate_isScore ((ix a.Units v).Max)).getD default))))))))],mkH [(101,.var [.p (.sl 3 (List.map enc_api_Unit a.Units)),.p (.sl 1 (List.map encI a.Bounds)),.p (pi a.Max)]),(104,.var [.p (pi ((ix a.Units v).Paper)),.p (pi ((ix a.Units v).Weight)),.p (pi ((ix a.Units v).Max))])]⟩) ?_
          refine lok_c (((((decide ((ix a.Units v).Paper < (0:Int))) || (decide ((31:Int) < (ix a.Units v).Paper))) || (decide ((ix a.Units v).Weight < (1:Int)))) || (decide ((1000:Int) < (ix a.Units v).Weight))) || (!((aggregate_isScore ((ix a.Units v).Max)).getD default))) ?_ ?_
          · intro b_6
            replace H1:=cpos H1 b_6
            refine lok_rt E0 (⟨71,mkS [(2,.x (.one (.p (pi (2:Int)))))],mkH []⟩) ?_
            refine lok_ret ?_
            try simp only [thenL,blockL,↓reduceIte,reduceCtorEq]
            have e_1:=k_1 _ (Option.some.inj H1).symm
            subst e_1
            try dsimp only at H0
            obtain rfl:=Option.some.inj H0
            try simp only [thenL,blockL]
            exact fin_au _ (.inr rfl) [] (⟨71,mkS [(2,.x (.one (.p (pi (2:Int)))))],mkH []⟩) rfl rfl imp_au
          · intro b_6
            replace H1:=cneg H1 b_6
            refine lok_skip ?_
            try simp only [thenL,blockL,↓reduceIte,reduceCtorEq]
            replace H1:=req_some H1
            obtain ⟨q_5,H1⟩:=H1
            refine lok_dt E0 12 (⟨71,mkS [(1,.x (.one (.ptr 101 0))),(16,.x (.one (.p (.sl 3 (List.map enc_api_Unit a.Units))))),(17,.x (.one (.p (pi (a.Units.length:Int))))),(18,.x (.one (.p (pi v)))),(60,.x (.one (.p (.val (.bool ((decide ((0:Int) < v)) && (decide ((ix a.Units v).Paper ≤ (ix a.Units (IntKind.i64.wrap (v - (1:Int)))).Paper))))))))],mkH [(101,.var [.p (.sl 3 (List.map enc_api_Unit a.Units)),.p (.sl 1 (List.map encI a.Bounds)),.p (pi a.Max)])]⟩) (by kernel_rfl) (by kernel_rfl) ?_
            refine lok_c ((decide ((0:Int) < v)) && (decide ((ix a.Units v).Paper ≤ (ix a.Units (IntKind.i64.wrap (v - (1:Int)))).Paper))) ?_ ?_
            · intro b_4
              replace H1:=cpos H1 b_4
              refine lok_rt E0 (⟨71,mkS [(2,.x (.one (.p (pi (43:Int)))))],mkH []⟩) ?_
              refine lok_ret ?_
              try simp only [thenL,blockL,↓reduceIte,reduceCtorEq]
              have e_1:=k_1 _ (Option.some.inj H1).symm
              subst e_1
              try dsimp only at H0
              obtain rfl:=Option.some.inj H0
              try simp only [thenL,blockL]
              exact fin_au _ (.inr rfl) [] (⟨71,mkS [(2,.x (.one (.p (pi (43:Int)))))],mkH []⟩) rfl rfl imp_au
            · intro b_4
              replace H1:=cneg H1 b_4
              refine lok_skip ?_
              try simp only [thenL,blockL,↓reduceIte,reduceCtorEq]
              refine lok_rl E0 (⟨71,mkS [(1,.x (.one (.ptr 101 0))),(16,.x (.one (.p (.sl 3 (List.map enc_api_Unit a.Units))))),(17,.x (.one (.p (pi (a.Units.length:Int))))),(18,.x (.one (.p (pi (IntKind.i64.wrap (v + (1:Int)))))))],mkH [(101,.var [.p (.sl 3 (List.map enc_api_Unit a.Units)),.p (.sl 1 (List.map encI a.Bounds)),.p (pi a.Max)])]⟩) ?_
              try simp only [thenL,blockL,↓reduceIte,reduceCtorEq]
              exact ⟨(IntKind.i64.wrap (v + (1:Int))),(Option.some.inj H1).symm,imp_au⟩
        · intro b_9
          replace H1:=cneg H1 b_9
          refine lok_exit ?_
          try simp only [thenL,blockL,↓reduceIte,reduceCtorEq]
          have e_1:=k_1 _ (Option.some.inj H1).symm
          subst e_1
          try dsimp only at H0
          try simp only [thenL,blockL,↓reduceIte,reduceCtorEq]
          exact ⟨(),H0,imp_au⟩
theorem ok_ratio_magnitude (n:Int) (r_:Int) (H0 : ratio_magnitude n = some r_) : CallOK Try.prog 77 [.one (.p (pi n))] [] [.one (.p (.val (.int .u64 r_)))] []:=by
  refine callOK (n:=10) (rs:=[.tmp 2]) (nb:=0) (V:=[]) Try.func77 rfl (by kernel_rfl) rfl rfl rfl rfl (Nat.le_of_ble_eq_true rfl) (by decide) ?_
  unfold ratio_magnitude at H0
  refine lok_rt E0 (⟨10,mkS [(0,.x (.one (.p (pi n))))],mkH []⟩) ?_
  refine lok_seq ?_
  refine lok_rt E0 (⟨10,mkS [(0,.x (.one (.p (pi n)))),(4,.x (.one (.p (.val (.bool (decide (n < (0:Int))))))))],mkH []⟩) ?_
  refine lok_c (decide (n < (0:Int))) ?_ ?_
  · intro b_0
    replace H0:=cpos H0 b_0
    refine lok_rt E0 (⟨10,mkS [(2,.x (.one (.p (.val (.int .u64 (IntKind.u64.wrap (0 - (IntKind.u64.wrap n))))))))],mkH []⟩) ?_
    refine lok_ret ?_
    obtain rfl:=Option.some.inj H0
    try simp only [thenL,blockL]
    exact fin_au _ (.inr rfl) [] (⟨10,mkS [(2,.x (.one (.p (.val (.int .u64 (IntKind.u64.wrap (0 - (IntKind.u64.wrap n))))))))],mkH []⟩) rfl rfl imp_au
  · intro b_0
    replace H0:=cneg H0 b_0
    refine lok_skip ?_
    try simp only [thenL,blockL,↓reduceIte,reduceCtorEq]
    refine lok_rt E0 (⟨10,mkS [(2,.x (.one (.p (.val (.int .u64 (IntKind.u64.wrap n))))))],mkH []⟩) ?_
    refine lok_ret ?_
    obtain rfl:=Option.some.inj H0
    try simp only [thenL,blockL]
    exact fin_au _ (.inr rfl) [] (⟨10,mkS [(2,.x (.one (.p (.val (.int .u64 (IntKind.u64.wrap n))))))],mkH []⟩) rfl rfl imp_au
theorem ok_ratio_gcd (a:Int) (b:Int) (r_:Int) (H0 : ratio_gcd a b = some r_) : CallOK Try.prog 79 [.one (.p (.val (.int .u64 a))),.one (.p (.val (.int .u64 b)))] [] [.one (.p (.val (.int .u64 r_)))] []:=by
  refine callOK (n:=12) (rs:=[.tmp 4]) (nb:=0) (V:=[]) Try.func79 rfl (by kernel_rfl) rfl rfl rfl rfl (Nat.le_of_ble_eq_true rfl) (by decide) ?_
  unfold ratio_gcd at H0
  refine lok_rt E0 (⟨12,mkS [(0,.x (.one (.p (.val (.int .u64 a))))),(1,.x (.one (.p (.val (.int .u64 b)))))],mkH []⟩) ?_
  refine lok_join (fun x_ : Int => ratio_gcd_j1 x_ = some r_) (fun x_ => ⟨12,mkS [(0,.x (.one (.p (.val (.int .u64 x_)))))],mkH []⟩) ?hyratio_gcd_j1 ?hxratio_gcd_j1
  case hyratio_gcd_j1 =>
    rintro a1 H0
    try dsimp only at H0 ⊢
    unfold ratio_gcd_j1 at H0
    refine lok_rt E0 (⟨12,mkS [(4,.x (.one (.p (.val (.int .u64 a1)))))],mkH []⟩) ?_
    refine lok_ret ?_
    obtain rfl:=Option.some.inj H0
    try simp only [thenL,blockL]
    exact fin_au _ (.inr rfl) [] (⟨12,mkS [(4,.x (.one (.p (.val (.int .u64 a1)))))],mkH []⟩) rfl rfl imp_au
  case hxratio_gcd_j1 =>
    refine lok_block ?_
    replace H0:=bind_some H0
    obtain ⟨v_0,hv_0,H0⟩:=H0
    refine lok_iter (fun x_ => ⟨12,mkS [(0,.x (.one (.p (.val (.int .u64 x_.1))))),(1,.x (.one (.p (.val (.int .u64 x_.2)))))],mkH []⟩) hv_0 imp_au ?_
    · rintro ⟨a2,b1⟩ o_1 H1 k_1
      unfold ratio_gcd_l2 at H1
      try dsimp only at H1 ⊢
      refine lok_seq ?_
      refine lok_rt E0 (⟨12,mkS [(0,.x (.one (.p (.val (.int .u64 a2))))),(1,.x (.one (.p (.val (.int .u64 b1))))),(6,.x (.one (.p (.val (.bool (b1 != (0:Int)))))))],mkH []⟩) ?_
      refine lok_c (b1 != (0:Int)) ?_ ?_
      · intro b_2
        replace H1:=cpos H1 b_2
        refine lok_skip ?_
        try simp only [thenL,blockL,↓reduceIte,reduceCtorEq]
        refine lok_block ?_
        replace H1:=req_some H1
        obtain ⟨q_1,H1⟩:=H1
        refine lok_dl E0 5 (⟨12,mkS [(0,.x (.one (.p (.val (.int .u64 b1))))),(1,.x (.one (.p (.val (.int .u64 (Int.tmod a2 b1))))))],mkH []⟩) (by kernel_rfl) (by kernel_rfl) ?_
        try simp only [thenL,blockL,↓reduceIte,reduceCtorEq]
        exact ⟨(b1,(Int.tmod a2 b1)),(Option.some.inj H1).symm,imp_au⟩
      · intro b_2
        replace H1:=cneg H1 b_2
        refine lok_exit ?_
        try simp only [thenL,blockL,↓reduceIte,reduceCtorEq]
        have e_1:=k_1 _ (Option.some.inj H1).symm
        subst e_1
        try dsimp only at H0
        try simp only [thenL,blockL,↓reduceIte,reduceCtorEq]
        exact ⟨a2,H0,imp_au⟩
theorem ok_ratio_Valid (a : api_Ratio) (r_ : Bool) (H0 : ratio_Valid a = some r_) : CallOK Try.prog 78 [.agg [.p (pi a.Num),.p (pi a.Den)]] [] [.one (.p (.val (.bool r_)))] []:=by
  refine callOK (n:=29) (rs:=[.tmp 2]) (nb:=0) (V:=[]) Try.func78 rfl (by kernel_rfl) rfl rfl rfl rfl (Nat.le_of_ble_eq_true rfl) (by decide) ?_
  unfold ratio_Valid at H0
  refine lok_rt E0 (⟨29,mkS [(1,.x (.one (.ptr 101 0)))],mkH [(101,.var [.p (pi a.Num),.p (pi a.Den)])]⟩) ?_
  refine lok_seq ?_
  refine lok_rt E0 (⟨29,mkS [(1,.x (.one (.ptr 101 0))),(20,.x (.one (.p (.val (.bool ((((decide (a.Den < (1:Int))) || (decide ((1152921504606846976:Int) < a.Den))) || (decide (a.Num < (-1152921504606846976:Int)))) || (decide ((1152921504606846976:Int) < a.Num))))))))],mkH [(101,.var [.p (pi a.Num),.p (pi a.Den)])]⟩) ?_
  refine lok_c ((((decide (a.Den < (1:Int))) || (decide ((1152921504606846976:Int) < a.Den))) || (decide (a.Num < (-1152921504606846976:Int)))) || (decide ((1152921504606846976:Int) < a.Num))) ?_ ?_
  · intro b_2
    replace H0:=cpos H0 b_2
    refine lok_rt E0 (⟨29,mkS [(2,.x (.one (.p (.val (.bool false)))))],mkH []⟩) ?_
    refine lok_ret ?_
    obtain rfl:=Option.some.inj H0
    try simp only [thenL,blockL]
    exact fin_au _ (.inr rfl) [] (⟨29,mkS [(2,.x (.one (.p (.val (.bool false)))))],mkH []⟩) rfl rfl imp_au
  · intro b_2
    replace H0:=cneg H0 b_2
    refine lok_skip ?_
    try simp only [thenL,blockL,↓reduceIte,reduceCtorEq]
    replace H0:=bind_some H0
    obtain ⟨y,h_0,H0⟩:=H0
    replace H0:=bind_some H0
    obtain ⟨y1,h_1,H0⟩:=H0
    refine lok_dt (Env.of E0 [⟨some 23,77,[.one (.p (pi a.Num))],[],[.one (.p (.val (.int .u64 y)))],[],True,fun _ => ok_ratio_magnitude a.Num y h_0,[]⟩,
      ⟨some 27,79,[.one (.p (.val (.int .u64 y))),.one (.p (.val (.int .u64 (IntKind.u64.wrap a.Den))))],[],[.one (.p (.val (.int .u64 y1)))],[],True,fun _ => ok_ratio_gcd y (IntKind.u64.wrap a.Den) y1 h_1,[]⟩]) 6 (⟨29,mkS [(2,.x (.one (.p (.val (.bool (y1 == (1:Int)))))))],mkH []⟩) (by kernel_rfl) (by kernel_rfl) ?_
    refine lok_ret ?_
    obtain rfl:=Option.some.inj H0
    try simp only [thenL,blockL]
    exact fin_au _ (.inr rfl) [] (⟨29,mkS [(2,.x (.one (.p (.val (.bool (y1 == (1:Int)))))))],mkH []⟩) rfl rfl imp_au
theorem ok_cmp_isNaN_uint64 (x:Int) (r_ : Bool) (H0 : cmp_isNaN_uint64 x = some r_) : CallOK Try.prog 116 [.one (.p (.val (.int .u64 x)))] [] [.one (.p (.val (.bool r_)))] []:=by
  refine callOK (n:=6) (rs:=[.tmp 2]) (nb:=0) (V:=[]) Try.func116 rfl (by kernel_rfl) rfl rfl rfl rfl (Nat.le_of_ble_eq_true rfl) (by decide) ?_
  unfold cmp_isNaN_uint64 at H0
  refine lok_rt E0 (⟨6,mkS [(0,.x (.one (.p (.val (.int .u64 x)))))],mkH []⟩) ?_
  refine lok_rt E0 (⟨6,mkS [(2,.x (.one (.p (.val (.bool (x != x))))))],mkH []⟩) ?_
  refine lok_ret ?_
  obtain rfl:=Option.some.inj H0
  try simp only [thenL,blockL]
  exact fin_au _ (.inr rfl) [] (⟨6,mkS [(2,.x (.one (.p (.val (.bool (x != x))))))],mkH []⟩) rfl rfl imp_au
theorem ok_cmp_Compare_uint64 (x:Int) (y:Int) (r_:Int) (H0 : cmp_Compare_uint64 x y = some r_) : CallOK Try.prog 112 [.one (.p (.val (.int .u64 x))),.one (.p (.val (.int .u64 y)))] [] [.one (.p (pi r_))] []:=by
  refine callOK (n:=20) (rs:=[.tmp 4]) (nb:=0) (V:=[]) Try.func112 rfl (by kernel_rfl) rfl rfl rfl rfl (Nat.le_of_ble_eq_true rfl) (by decide) ?_
  unfold cmp_Compare_uint64 at H0
  refine lok_rt E0 (⟨20,mkS [(0,.x (.one (.p (.val (.int .u64 x))))),(1,.x (.one (.p (.val (.int .u64 y)))))],mkH []⟩) ?_
  replace H0:=bind_some H0
  obtain ⟨y1,h_0,H0⟩:=H0
  refine lok_rt (Env.of E0 [⟨some 8,116,[.one (.p (.val (.int .u64 x)))],[],[.one (.p (.val (.bool y1)))],[],True,fun _ => ok_cmp_isNaN_uint64 x y1 h_0,[]⟩]) (⟨20,mkS [(0,.x (.one (.p (.val (.int .u64 x))))),(1,.x (.one (.p (.val (.int .u64 y))))),(5,.x (.one (.p (.val (.bool y1)))))],mkH []⟩) ?_
  replace H0:=bind_some H0
  obtain ⟨y2,h_1,H0⟩:=H0
  refine lok_rt (Env.of E0 [⟨some 10,116,[.one (.p (.val (.int .u64 y)))],[],[.one (.p (.val (.bool y2)))],[],True,fun _ => ok_cmp_isNaN_uint64 y y2 h_1,[]⟩]) (⟨20,mkS [(0,.x (.one (.p (.val (.int .u64 x))))),(1,.x (.one (.p (.val (.int .u64 y))))),(5,.x (.one (.p (.val (.bool y1))))),(6,.x (.one (.p (.val (.bool y2)))))],mkH []⟩) ?_
  refine lok_seq ?_
  refine lok_rt E0 (⟨20,mkS [(0,.x (.one (.p (.val (.int .u64 x))))),(1,.x (.one (.p (.val (.int .u64 y))))),(6,.x (.one (.p (.val (.bool y2))))),(11,.x (.one (.p (.val (.bool y1)))))],mkH []⟩) ?_
  refine lok_c y1 ?_ ?_
  · intro b_6
    replace H0:=cpos H0 b_6
    refine lok_seq ?_
    refine lok_rt E0 (⟨20,mkS [(12,.x (.one (.p (.val (.bool y2)))))],mkH []⟩) ?_
    refine lok_c y2 ?_ ?_
    · intro b_2
      replace H0:=cpos H0 b_2
      refine lok_rt E0 (⟨20,mkS [(4,.x (.one (.p (pi (0:Int)))))],mkH []⟩) ?_
      refine lok_ret ?_
      obtain rfl:=Option.some.inj H0
      try simp only [thenL,blockL]
      exact fin_au _ (.inr rfl) [] (⟨20,mkS [(4,.x (.one (.p (pi (0:Int)))))],mkH []⟩) rfl rfl imp_au
    · intro b_2
      replace H0:=cneg H0 b_2
      refine lok_skip ?_
      try simp only [thenL,blockL,↓reduceIte,reduceCtorEq]
      refine lok_rt E0 (⟨20,mkS [(4,.x (.one (.p (pi (-1:Int)))))],mkH []⟩) ?_
      refine lok_ret ?_
      obtain rfl:=Option.some.inj H0
      try simp only [thenL,blockL]
      exact fin_au _ (.inr rfl) [] (⟨20,mkS [(4,.x (.one (.p (pi (-1:Int)))))],mkH []⟩) rfl rfl imp_au
  · intro b_6
    replace H0:=cneg H0 b_6
    refine lok_skip ?_
    try simp only [thenL,blockL,↓reduceIte,reduceCtorEq]
    refine lok_seq ?_
    refine lok_rt E0 (⟨20,mkS [(0,.x (.one (.p (.val (.int .u64 x))))),(1,.x (.one (.p (.val (.int .u64 y))))),(13,.x (.one (.p (.val (.bool y2)))))],mkH []⟩) ?_
    refine lok_c y2 ?_ ?_
    · intro b_5
      replace H0:=cpos H0 b_5
      refine lok_rt E0 (⟨20,mkS [(4,.x (.one (.p (pi (1:Int)))))],mkH []⟩) ?_
      refine lok_ret ?_
      obtain rfl:=Option.some.inj H0
      try simp only [thenL,blockL]
      exact fin_au _ (.inr rfl) [] (⟨20,mkS [(4,.x (.one (.p (pi (1:Int)))))],mkH []⟩) rfl rfl imp_au
    · intro b_5
      replace H0:=cneg H0 b_5
      refine lok_skip ?_
      try simp only [thenL,blockL,↓reduceIte,reduceCtorEq]
      refine lok_seq ?_
      refine lok_rt E0 (⟨20,mkS [(0,.x (.one (.p (.val (.int .u64 x))))),(1,.x (.one (.p (.val (.int .u64 y))))),(16,.x (.one (.p (.val (.bool (decide (x < y)))))))],mkH []⟩) ?_
      refine lok_c (decide (x < y)) ?_ ?_
      · intro b_4
        replace H0:=cpos H0 b_4
        refine lok_rt E0 (⟨20,mkS [(4,.x (.one (.p (pi (-1:Int)))))],mkH []⟩) ?_
        refine lok_ret ?_
        obtain rfl:=Option.some.inj H0
        try simp only [thenL,blockL]
        exact fin_au _ (.inr rfl) [] (⟨20,mkS [(4,.x (.one (.p (pi (-1:Int)))))],mkH []⟩) rfl rfl imp_au
      · intro b_4
        replace H0:=cneg H0 b_4
        refine lok_skip ?_
        try simp only [thenL,blockL,↓reduceIte,reduceCtorEq]
        refine lok_seq ?_
        refine lok_rt E0 (⟨20,mkS [(19,.x (.one (.p (.val (.bool (decide (y < x)))))))],mkH []⟩) ?_
        refine lok_c (decide (y < x)) ?_ ?_
        · intro b_3
          replace H0:=cpos H0 b_3
          refine lok_rt E0 (⟨20,mkS [(4,.x (.one (.p (pi (1:Int)))))],mkH []⟩) ?_
          refine lok_ret ?_
          obtain rfl:=Option.some.inj H0
          try simp only [thenL,blockL]
          exact fin_au _ (.inr rfl) [] (⟨20,mkS [(4,.x (.one (.p (pi (1:Int)))))],mkH []⟩) rfl rfl imp_au
        · intro b_3
          replace H0:=cneg H0 b_3
          refine lok_skip ?_
          try simp only [thenL,blockL,↓reduceIte,reduceCtorEq]
          refine lok_rt E0 (⟨20,mkS [(4,.x (.one (.p (pi (0:Int)))))],mkH []⟩) ?_
          refine lok_ret ?_
          obtain rfl:=Option.some.inj H0
          try simp only [thenL,blockL]
          exact fin_au _ (.inr rfl) [] (⟨20,mkS [(4,.x (.one (.p (pi (0:Int)))))],mkH []⟩) rfl rfl imp_au
theorem ok_ratio_wide_compare (a : ratio_wide) (b : ratio_wide) (r_:Int) (H0 : ratio_wide_compare a b = some r_) : CallOK Try.prog 102 [.agg [.p (.val (.int .u64 a.hi)),.p (.val (.int .u64 a.lo))],.agg [.p (.val (.int .u64 b.hi)),.p (.val (.int .u64 b.lo))]] [] [.one (.p (pi r_))] []:=by
  refine callOK (n:=19) (rs:=[.tmp 4]) (nb:=0) (V:=[]) Try.func102 rfl (by kernel_rfl) rfl rfl rfl rfl (Nat.le_of_ble_eq_true rfl) (by decide) ?_
  unfold ratio_wide_compare at H0
  refine lok_rt E0 (⟨19,mkS [(2,.x (.one (.ptr 102 0))),(3,.x (.one (.ptr 103 0)))],mkH [(102,.var [.p (.val (.int .u64 a.hi)),.p (.val (.int .u64 a.lo))]),(103,.var [.p (.val (.int .u64 b.hi)),.p (.val (.int .u64 b.lo))])]⟩) ?_
  refine lok_seq ?_
  replace H0:=bind_some H0
  obtain ⟨y,h_0,H0⟩:=H0
  refine lok_rt (Env.of E0 [⟨some 10,112,[.one (.p (.val (.int .u64 a.hi))),.one (.p (.val (.int .u64 b.hi)))],[],[.one (.p (pi y))],[],True,fun _ => ok_cmp_Compare_uint64 a.hi b.hi y h_0,[]⟩]) (⟨19,mkS [(2,.x (.one (.ptr 102 0))),(3,.x (.one (.ptr 103 0))),(5,.x (.one (.p (pi y))))],mkH [(102,.var [.p (.val (.int .u64 a.hi)),.p (.val (.int .u64 a.lo))]),(103,.var [.p (.val (.int .u64 b.hi)),.p (.val (.int .u64 b.lo))])]⟩) ?_
  refine lok_rt E0 (⟨19,mkS [(2,.x (.one (.ptr 102 0))),(3,.x (.one (.ptr 103 0))),(5,.x (.one (.p (pi y)))),(12,.x (.one (.p (.val (.bool (y != (0:Int)))))))],mkH [(102,.var [.p (.val (.int .u64 a.hi)),.p (.val (.int .u64 a.lo))]),(103,.var [.p (.val (.int .u64 b.hi)),.p (.val (.int .u64 b.lo))])]⟩) ?_
  refine lok_c (y != (0:Int)) ?_ ?_
  · intro b_2
    replace H0:=cpos H0 b_2
    refine lok_rt E0 (⟨19,mkS [(4,.x (.one (.p (pi y))))],mkH []⟩) ?_
    refine lok_ret ?_
    obtain rfl:=Option.some.inj H0
    try simp only [thenL,blockL]
    exact fin_au _ (.inr rfl) [] (⟨19,mkS [(4,.x (.one (.p (pi y))))],mkH []⟩) rfl rfl imp_au
  · intro b_2
    replace H0:=cneg H0 b_2
    refine lok_skip ?_
    try simp only [thenL,blockL,↓reduceIte,reduceCtorEq]
    replace H0:=bind_some H0
    obtain ⟨y1,h_1,H0⟩:=H0
    refine lok_rt (Env.of E0 [⟨some 18,112,[.one (.p (.val (.int .u64 a.lo))),.one (.p (.val (.int .u64 b.lo)))],[],[.one (.p (pi y1))],[],True,fun _ => ok_cmp_Compare_uint64 a.lo b.lo y1 h_1,[]⟩]) (⟨19,mkS [(4,.x (.one (.p (pi y1))))],mkH []⟩) ?_
    refine lok_ret ?_
    obtain rfl:=Option.some.inj H0
    try simp only [thenL,blockL]
    exact fin_au _ (.inr rfl) [] (⟨19,mkS [(4,.x (.one (.p (pi y1))))],mkH []⟩) rfl rfl imp_au
theorem ok_bits_Mul64 (x:Int) (y:Int) (r_ : Int × Int) (H0 : bits_Mul64 x y = some r_) : CallOK Try.prog 106 [.one (.p (.val (.int .u64 x))),.one (.p (.val (.int .u64 y)))] [] [.one (.p (.val (.int .u64 r_.1))),.one (.p (.val (.int .u64 r_.2)))] []:=by
  refine callOK (n:=51) (rs:=[.tmp 4,.tmp 5]) (nb:=0) (V:=[]) Try.func106 rfl (by kernel_rfl) rfl rfl rfl rfl (Nat.le_of_ble_eq_true rfl) (by decide) ?_
  unfold bits_Mul64 at H0
  refine lok_rt E0 (⟨51,mkS [(0,.x (.one (.p (.val (.int .u64 x))))),(1,.x (.one (.p (.val (.int .u64 y)))))],mkH []⟩) ?_
  refine lok_rt E0 (⟨51,mkS [(0,.x (.one (.p (.val (.int .u64 x))))),(1,.x (.one (.p (.val (.int .u64 y))))),(6,.x (.one (.p (.val (.int .u64 (bAnd .u64 x (4294967295:Int)))))))],mkH []⟩) ?_
  refine lok_rt E0 (⟨51,mkS [(0,.x (.one (.p (.val (.int .u64 x))))),(1,.x (.one (.p (.val (.int .u64 y))))),(6,.x (.one (.p (.val (.int .u64 (bAnd .u64 x (4294967295:Int))))))),(7,.x (.one (.p (.val (.int .u64 (bShr .u64 x (32:Int)))))))],mkH []⟩) ?_
  refine lok_rt E0 (⟨51,mkS [(0,.x (.one (.p (.val (.int .u64 x))))),(1,.x (.one (.p (.val (.int .u64 y))))),(6,.x (.one (.p (.val (.int .u64 (bAnd .u64 x (4294967295:Int))))))),(7,.x (.one (.p (.val (.int .u64 (bShr .u64 x (32:Int))))))),(8,.x (.one (.p (.val (.int .u64 (bAnd .u64 y (4294967295:Int)))))))],mkH []⟩) ?_
  refine lok_rt E0 (⟨51,mkS [(0,.x (.one (.p (.val (.int .u64 x))))),(1,.x (.one (.p (.val (.int .u64 y))))),(6,.x (.one (.p (.val (.int .u64 (bAnd .u64 x (4294967295:Int))))))),(7,.x (.one (.p (.val (.int .u64 (bShr .u64 x (32:Int))))))),(8,.x (.one (.p (.val (.int .u64 (bAnd .u64 y (4294967295:Int))))))),(9,.x (.one (.p (.val (.int .u64 (bShr .u64 y (32:Int)))))))],mkH []⟩) ?_
  replace H0:=bindV_some H0
  obtain ⟨w0,a_0,H0⟩:=H0
  refine lok_rtg E0 a_0 (⟨51,mkS [(0,.x (.one (.p (.val (.int .u64 x))))),(1,.x (.one (.p (.val (.int .u64 y))))),(6,.x (.one (.p (.val (.int .u64 (bAnd .u64 x (4294967295:Int))))))),(7,.x (.one (.p (.val (.int .u64 (bShr .u64 x (32:Int))))))),(8,.x (.one (.p (.val (.int .u64 (bAnd .u64 y (4294967295:Int))))))),(9,.x (.one (.p (.val (.int .u64 (bShr .u64 y (32:Int))))))),(10,.x (.one (.p (.val (.int .u64 w0)))))],mkH []⟩) ?_
  replace H0:=bindV_some H0
  obtain ⟨t,a_1,H0⟩:=H0
  refine lok_rtg E0 a_1 (⟨51,mkS [(0,.x (.one (.p (.val (.int .u64 x))))),(1,.x (.one (.p (.val (.int .u64 y))))),(6,.x (.one (.p (.val (.int .u64 (bAnd .u64 x (4294967295:Int))))))),(7,.x (.one (.p (.val (.int .u64 (bShr .u64 x (32:Int))))))),(9,.x (.one (.p (.val (.int .u64 (bShr .u64 y (32:Int))))))),(11,.x (.one (.p (.val (.int .u64 t)))))],mkH []⟩) ?_
  refine lok_rt E0 (⟨51,mkS [(0,.x (.one (.p (.val (.int .u64 x))))),(1,.x (.one (.p (.val (.int .u64 y))))),(6,.x (.one (.p (.val (.int .u64 (bAnd .u64 x (4294967295:Int))))))),(7,.x (.one (.p (.val (.int .u64 (bShr .u64 x (32:Int))))))),(9,.x (.one (.p (.val (.int .u64 (bShr .u64 y (32:Int))))))),(11,.x (.one (.p (.val (.int .u64 t))))),(12,.x (.one (.p (.val (.int .u64 (bAnd .u64 t (4294967295:Int)))))))],mkH []⟩) ?_
  refine lok_rt E0 (⟨51,mkS [(0,.x (.one (.p (.val (.int .u64 x))))),(1,.x (.one (.p (.val (.int .u64 y))))),(6,.x (.one (.p (.val (.int .u64 (bAnd .u64 x (4294967295:Int))))))),(7,.x (.one (.p (.val (.int .u64 (bShr .u64 x (32:Int))))))),(9,.x (.one (.p (.val (.int .u64 (bShr .u64 y (32:Int))))))),(12,.x (.one (.p (.val (.int .u64 (bAnd .u64 t (4294967295:Int))))))),(13,.x (.one (.p (.val (.int .u64 (bShr .u64 t (32:Int)))))))],mkH []⟩) ?_
  replace H0:=bindV_some H0
  obtain ⟨w1,a_2,H0⟩:=H0
  refine lok_rtg E0 a_2 (⟨51,mkS [(0,.x (.one (.p (.val (.int .u64 x))))),(1,.x (.one (.p (.val (.int .u64 y))))),(7,.x (.one (.p (.val (.int .u64 (bShr .u64 x (32:Int))))))),(9,.x (.one (.p (.val (.int .u64 (bShr .u64 y (32:Int))))))),(12,.x (.one (.p (.val (.int .u64 w1))))),(13,.x (.one (.p (.val (.int .u64 (bShr .u64 t (32:Int)))))))],mkH []⟩) ?_
  replace H0:=bindV_some H0
  obtain ⟨hi,a_3,H0⟩:=H0
  refine lok_rtg E0 a_3 (⟨51,mkS [(0,.x (.one (.p (.val (.int .u64 x))))),(1,.x (.one (.p (.val (.int .u64 y))))),(4,.x (.one (.p (.val (.int .u64 hi)))))],mkH []⟩) ?_
  refine lok_rt E0 (⟨51,mkS [(4,.x (.one (.p (.val (.int .u64 hi))))),(5,.x (.one (.p (.val (.int .u64 (IntKind.u64.wrap (x * y)))))))],mkH []⟩) ?_
  refine lok_ret ?_
  obtain rfl:=Option.some.inj H0
  try simp only [thenL,blockL]
  exact fin_au _ (.inr rfl) [] (⟨51,mkS [(4,.x (.one (.p (.val (.int .u64 hi))))),(5,.x (.one (.p (.val (.int .u64 (IntKind.u64.wrap (x * y)))))))],mkH []⟩) rfl rfl imp_au
theorem ok_ratio_product (a:Int) (b:Int) (r_ : ratio_wide) (H0 : ratio_product a b = some r_) : CallOK Try.prog 85 [.one (.p (.val (.int .u64 a))),.one (.p (.val (.int .u64 b)))] [] [.agg [.p (.val (.int .u64 r_.hi)),.p (.val (.int .u64 r_.lo))]] []:=by
  refine callOK (n:=16) (rs:=[.cell 4 113]) (nb:=0) (V:=[]) Try.func85 rfl (by kernel_rfl) rfl rfl rfl rfl (Nat.le_of_ble_eq_true rfl) (by decide) ?_
  unfold ratio_product at H0
  refine lok_rt E0 (⟨16,mkS [(0,.x (.one (.p (.val (.int .u64 a))))),(1,.x (.one (.p (.val (.int .u64 b))))),(4,.x (.one (.ptr 104 0)))],mkH [(104,.var [.p (.val (.int .u64 (0:Int))),.p (.val (.int .u64 (0:Int)))])]⟩) ?_
  replace H0:=bind_some H0
  obtain ⟨⟨y,y1⟩,h_0,H0⟩:=H0
  try dsimp only at H0
  refine lok_rt (Env.of E0 [⟨some 10,106,[.one (.p (.val (.int .u64 a))),.one (.p (.val (.int .u64 b)))],[],[.one (.p (.val (.int .u64 y))),.one (.p (.val (.int .u64 y1)))],[],True,fun _ => ok_bits_Mul64 a b (y,y1) h_0,[]⟩]) (⟨16,mkS [(4,.x (.one (.ptr 104 0))),(5,.x (.one (.p (.val (.int .u64 y))))),(6,.x (.one (.p (.val (.int .u64 y1)))))],mkH [(104,.var [.p (.val (.int .u64 (0:Int))),.p (.val (.int .u64 (0:Int)))])]⟩) ?_
  refine lok_rt E0 (⟨16,mkS [(4,.x (.one (.ptr 104 0)))],mkH [(104,.var [.p (.val (.int .u64 y)),.p (.val (.int .u64 y1))])]⟩) ?_
  refine lok_ret ?_
  obtain rfl:=Option.some.inj H0
  try simp only [thenL,blockL]
  exact fin_au _ (.inr rfl) [] (⟨16,mkS [(4,.x (.one (.ptr 104 0)))],mkH [(104,.var [.p (.val (.int .u64 y)),.p (.val (.int .u64 y1))])]⟩) rfl rfl imp_au
theorem ok_ratio_signedProduct (num:Int) (factor:Int) (r_ : ratio_signed) (H0 : ratio_signedProduct num factor = some r_) : CallOK Try.prog 80 [.one (.p (pi num)),.one (.p (.val (.int .u64 factor)))] [] [.agg [.p (.val (.bool r_.neg)),.p (.val (.int .u64 r_.abs.hi)),.p (.val (.int .u64 r_.abs.lo))]] []:=by
  refine callOK (n:=12) (rs:=[.cell 4 115]) (nb:=0) (V:=[]) Try.func80 rfl (by kernel_rfl) rfl rfl rfl rfl (Nat.le_of_ble_eq_true rfl) (by decide) ?_
  unfold ratio_signedProduct at H0
  refine lok_rt E0 (⟨12,mkS [(0,.x (.one (.p (pi num)))),(1,.x (.one (.p (.val (.int .u64 factor))))),(4,.x (.one (.ptr 104 0)))],mkH [(104,.var [.p (.val (.bool false)),.p (.val (.int .u64 (0:Int))),.p (.val (.int .u64 (0:Int)))])]⟩) ?_
  replace H0:=bind_some H0
  obtain ⟨y,h_0,H0⟩:=H0
  replace H0:=bind_some H0
  obtain ⟨y1,h_1,H0⟩:=H0
  refine lok_rt (Env.of E0 [⟨some 8,77,[.one (.p (pi num))],[],[.one (.p (.val (.int .u64 y)))],[],True,fun _ => ok_ratio_magnitude num y h_0,[]⟩,
      ⟨some 10,85,[.one (.p (.val (.int .u64 y))),.one (.p (.val (.int .u64 factor)))],[],[.agg [.p (.val (.int .u64 y1.hi)),.p (.val (.int .u64 y1.lo))]],[],True,fun _ => ok_ratio_product y factor y1 h_1,[]⟩]) (⟨12,mkS [(4,.x (.one (.ptr 104 0)))],mkH [(104,.var [.p (.val (.bool (decide (num < (0:Int))))),.p (.val (.int .u64 y1.hi)),.p (.val (.int .u64 y1.lo))])]⟩) ?_
  refine lok_ret ?_
  obtain rfl:=Option.some.inj H0
  try simp only [thenL,blockL]
  exact fin_au _ (.inr rfl) [] (⟨12,mkS [(4,.x (.one (.ptr 104 0)))],mkH [(104,.var [.p (.val (.bool (decide (num < (0:Int))))),.p (.val (.int .u64 y1.hi)),.p (.val (.int .u64 y1.lo))])]⟩) rfl rfl imp_au
theorem ok_ratio_Compare (a : api_Ratio) (b : api_Ratio) (r_:Int) (H0 : ratio_Compare a b = some r_) : CallOK Try.prog 86 [.agg [.p (pi a.Num),.p (pi a.Den)],.agg [.p (pi b.Num),.p (pi b.Den)]] [] [.one (.p (pi r_))] []:=by
  refine callOK (n:=50) (rs:=[.tmp 4]) (nb:=0) (V:=[]) Try.func86 rfl (by kernel_rfl) rfl rfl rfl rfl (Nat.le_of_ble_eq_true rfl) (by decide) ?_
  unfold ratio_Compare at H0
  refine lok_rt E0 (⟨50,mkS [(2,.x (.one (.ptr 102 0))),(3,.x (.one (.ptr 103 0)))],mkH [(102,.var [.p (pi a.Num),.p (pi a.Den)]),(103,.var [.p (pi b.Num),.p (pi b.Den)])]⟩) ?_
  refine lok_seq ?_
  replace H0:=bind_some H0
  obtain ⟨y,h_0,H0⟩:=H0
  replace H0:=req_some H0
  obtain ⟨q_9,H0⟩:=H0
  refine lok_rt (Env.of E0 [⟨some 8,78,[.agg [.p (pi a.Num),.p (pi a.Den)]],[],[.one (.p (.val (.bool y)))],[],True,fun _ => ok_ratio_Valid a y h_0,[]⟩,
      ⟨some 12,78,[.agg [.p (pi b.Num),.p (pi b.Den)]],[],[.one (.p (.val (.bool ((ratio_Valid b).getD default))))],[],(ratio_Valid b).isSome = true,fun h => ok_ratio_Valid b _ (isSome_get h),[]⟩]) (⟨50,mkS [(2,.x (.one (.ptr 102 0))),(3,.x (.one (.ptr 103 0))),(14,.x (.one (.p (.val (.bool ((!y) || (!((ratio_Valid b).getD default))))))))],mkH [(102,.var [.p (pi a.Num),.p (pi a.Den)]),(103,.var [.p (pi b.Num),.p (pi b.Den)])]⟩) ?_
  refine lok_c ((!y) || (!((ratio_Valid b).getD default))) ?_ ?_
  · intro b_8
    replace H0:=cpos H0 b_8
    refine lok_rt E0 (⟨50,mkS [(4,.x (.one (.p (pi (0:Int)))))],mkH []⟩) ?_
    refine lok_ret ?_
    obtain rfl:=Option.some.inj H0
    try simp only [thenL,blockL]
    exact fin_au _ (.inr rfl) [] (⟨50,mkS [(4,.x (.one (.p (pi (0:Int)))))],mkH []⟩) rfl rfl imp_au
  · intro b_8
    replace H0:=cneg H0 b_8
    refine lok_skip ?_
    try simp only [thenL,blockL,↓reduceIte,reduceCtorEq]
    replace H0:=bind_some H0
    obtain ⟨y1,h_1,H0⟩:=H0
    replace H0:=bind_some H0
    obtain ⟨y2,h_2,H0⟩:=H0
    refine lok_et (Env.of E0 [⟨some 20,80,[.one (.p (pi a.Num)),.one (.p (.val (.int .u64 (IntKind.u64.wrap b.Den))))],[],[.agg [.p (.val (.bool y1.neg)),.p (.val (.int .u64 y1.abs.hi)),.p (.val (.int .u64 y1.abs.lo))]],[],True,fun _ => ok_ratio_signedProduct a.Num (IntKind.u64.wrap b.Den) y1 h_1,[]⟩,
      ⟨some 26,80,[.one (.p (pi b.Num)),.one (.p (.val (.int .u64 (IntKind.u64.wrap a.Den))))],[],[.agg [.p (.val (.bool y2.neg)),.p (.val (.int .u64 y2.abs.hi)),.p (.val (.int .u64 y2.abs.lo))]],[],True,fun _ => ok_ratio_signedProduct b.Num (IntKind.u64.wrap a.Den) y2 h_2,[]⟩]) 50 [⟨[(2,.x (.one (.ptr 102 0)))],[],[(15,.x (.one (.ptr 102 0)))],[],none⟩,
      ⟨[(15,.x (.one (.ptr 102 0)))],[(102,some (.var [.p (pi a.Num),.p (pi a.Den)]))],[(16,.x (.one (.p (pi a.Num))))],[],none⟩,
      ⟨[(3,.x (.one (.ptr 103 0)))],[],[(17,.x (.one (.ptr 103 1)))],[],none⟩,
      ⟨[(17,.x (.one (.ptr 103 1)))],[(103,some (.var [.p (pi b.Num),.p (pi b.Den)]))],[(18,.x (.one (.p (pi b.Den))))],[],none⟩,
      ⟨[(18,.x (.one (.p (pi b.Den))))],[],[(19,.x (.one (.p (.val (.int .u64 (IntKind.u64.wrap b.Den))))))],[],none⟩,
      ⟨[(16,.x (.one (.p (pi a.Num)))),(19,.x (.one (.p (.val (.int .u64 (IntKind.u64.wrap b.Den))))))],[],[(20,.x (.agg [.p (.val (.bool y1.neg)),.p (.val (.int .u64 y1.abs.hi)),.p (.val (.int .u64 y1.abs.lo))]))],[],none⟩,
      ⟨[(3,.x (.one (.ptr 103 0)))],[],[(21,.x (.one (.ptr 103 0)))],[],none⟩,
      ⟨[(21,.x (.one (.ptr 103 0)))],[(103,some (.var [.p (pi b.Num),.p (pi b.Den)]))],[(22,.x (.one (.p (pi b.Num))))],[],none⟩,
      ⟨[(2,.x (.one (.ptr 102 0)))],[],[(23,.x (.one (.ptr 102 1)))],[],none⟩,
      ⟨[(23,.x (.one (.ptr 102 1)))],[(102,some (.var [.p (pi a.Num),.p (pi a.Den)]))],[(24,.x (.one (.p (pi a.Den))))],[],none⟩,
      ⟨[(24,.x (.one (.p (pi a.Den))))],[],[(25,.x (.one (.p (.val (.int .u64 (IntKind.u64.wrap a.Den))))))],[],none⟩,
      ⟨[(22,.x (.one (.p (pi b.Num)))),(25,.x (.one (.p (.val (.int .u64 (IntKind.u64.wrap a.Den))))))],[],[(26,.x (.agg [.p (.val (.bool y2.neg)),.p (.val (.int .u64 y2.abs.hi)),.p (.val (.int .u64 y2.abs.lo))]))],[],none⟩,
      ⟨[],[(105,none)],[(5,.x (.one (.ptr 105 0)))],[(105,some (.var [.p (.val (.bool false)),.p (.val (.int .u64 (0:Int))),.p (.val (.int .u64 (0:Int)))]))],some 105⟩,
      ⟨[],[(106,none)],[(6,.x (.one (.ptr 106 0)))],[(106,some (.var [.p (.val (.bool false)),.p (.val (.int .u64 (0:Int))),.p (.val (.int .u64 (0:Int)))]))],some 106⟩] (⟨50,mkS [(5,.x (.one (.ptr 105 0))),(6,.x (.one (.ptr 106 0)))],mkH [(105,.var [.p (.val (.bool y1.neg)),.p (.val (.int .u64 y1.abs.hi)),.p (.val (.int .u64 y1.abs.lo))]),(106,.var [.p (.val (.bool y2.neg)),.p (.val (.int .u64 y2.abs.hi)),.p (.val (.int .u64 y2.abs.lo))])]⟩) (by kernel_rfl) (by kernel_rfl) (by kernel_rfl) rfl rfl rfl ?_
    refine lok_seq ?_
    refine lok_block ?_
    refine lok_rt E0 (⟨50,mkS [(5,.x (.one (.ptr 105 0))),(6,.x (.one (.ptr 106 0))),(27,.x (.one (.p (.val (.bool (y1.neg && y2.neg))))))],mkH [(105,.var [.p (.val (.bool y1.neg)),.p (.val (.int .u64 y1.abs.hi)),.p (.val (.int .u64 y1.abs.lo))]),(106,.var [.p (.val (.bool y2.neg)),.p (.val (.int .u64 y2.abs.hi)),.p (.val (.int .u64 y2.abs.lo))])]⟩) ?_
    refine lok_c (y1.neg && y2.neg) ?_ ?_
    · intro b_7
      replace H0:=cpos H0 b_7
      replace H0:=bind_some H0
      obtain ⟨y3,h_3,H0⟩:=H0
      refine lok_rt (Env.of E0 [⟨some 38,102,[.agg [.p (.val (.int .u64 y2.abs.hi)),.p (.val (.int .u64 y2.abs.lo))],.agg [.p (.val (.int .u64 y1.abs.hi)),.p (.val (.int .u64 y1.abs.lo))]],[],[.one (.p (pi y3))],[],True,fun _ => ok_ratio_wide_compare y2.abs y1.abs y3 h_3,[]⟩]) (⟨50,mkS [(4,.x (.one (.p (pi y3))))],mkH []⟩) ?_
      refine lok_ret ?_
      obtain rfl:=Option.some.inj H0
      try simp only [thenL,blockL]
      exact fin_au _ (.inr rfl) [] (⟨50,mkS [(4,.x (.one (.p (pi y3))))],mkH []⟩) rfl rfl imp_au
    · intro b_7
      replace H0:=cneg H0 b_7
      refine lok_rt E0 (⟨50,mkS [(5,.x (.one (.ptr 105 0))),(6,.x (.one (.ptr 106 0))),(39,.x (.one (.p (.val (.bool y1.neg)))))],mkH [(105,.var [.p (.val (.bool y1.neg)),.p (.val (.int .u64 y1.abs.hi)),.p (.val (.int .u64 y1.abs.lo))]),(106,.var [.p (.val (.bool y2.neg)),.p (.val (.int .u64 y2.abs.hi)),.p (.val (.int .u64 y2.abs.lo))])]⟩) ?_
      refine lok_c y1.neg ?_ ?_
      · intro b_6
        replace H0:=cpos H0 b_6
        refine lok_rt E0 (⟨50,mkS [(4,.x (.one (.p (pi (-1:Int)))))],mkH []⟩) ?_
        refine lok_ret ?_
        obtain rfl:=Option.some.inj H0
        try simp only [thenL,blockL]
        exact fin_au _ (.inr rfl) [] (⟨50,mkS [(4,.x (.one (.p (pi (-1:Int)))))],mkH []⟩) rfl rfl imp_au
      · intro b_6
        replace H0:=cneg H0 b_6
        refine lok_rt E0 (⟨50,mkS [(5,.x (.one (.ptr 105 0))),(6,.x (.one (.ptr 106 0))),(42,.x (.one (.p (.val (.bool y2.neg)))))],mkH [(105,.var [.p (.val (.bool y1.neg)),.p (.val (.int .u64 y1.abs.hi)),.p (.val (.int .u64 y1.abs.lo))]),(106,.var [.p (.val (.bool y2.neg)),.p (.val (.int .u64 y2.abs.hi)),.p (.val (.int .u64 y2.abs.lo))])]⟩) ?_
        refine lok_c y2.neg ?_ ?_
        · intro b_5
          replace H0:=cpos H0 b_5
          refine lok_rt E0 (⟨50,mkS [(4,.x (.one (.p (pi (1:Int)))))],mkH []⟩) ?_
          refine lok_ret ?_
          obtain rfl:=Option.some.inj H0
          try simp only [thenL,blockL]
          exact fin_au _ (.inr rfl) [] (⟨50,mkS [(4,.x (.one (.p (pi (1:Int)))))],mkH []⟩) rfl rfl imp_au
        · intro b_5
          replace H0:=cneg H0 b_5
          refine lok_skip ?_
          try simp only [thenL,blockL,↓reduceIte,reduceCtorEq]
          replace H0:=bind_some H0
          obtain ⟨y4,h_4,H0⟩:=H0
          refine lok_rt (Env.of E0 [⟨some 49,102,[.agg [.p (.val (.int .u64 y1.abs.hi)),.p (.val (.int .u64 y1.abs.lo))],.agg [.p (.val (.int .u64 y2.abs.hi)),.p (.val (.int .u64 y2.abs.lo))]],[],[.one (.p (pi y4))],[],True,fun _ => ok_ratio_wide_compare y1.abs y2.abs y4 h_4,[]⟩]) (⟨50,mkS [(4,.x (.one (.p (pi y4))))],mkH []⟩) ?_
          refine lok_ret ?_
          obtain rfl:=Option.some.inj H0
          try simp only [thenL,blockL]
          exact fin_au _ (.inr rfl) [] (⟨50,mkS [(4,.x (.one (.p (pi y4))))],mkH []⟩) rfl rfl imp_au
theorem ok_aggregate_fit (a : api_Award) (l : List api_UnitMark) (r_ : Bool) (H0 : aggregate_fit a l = some r_) : CallOK Try.prog 71 [.agg [.p (.sl 3 (List.map enc_api_Unit a.Units)),.p (.sl 1 (List.map encI a.Bounds)),.p (pi a.Max)],.one (.p (.sl 3 (List.map enc_api_UnitMark l)))] [] [.one (.p (.val (.bool r_)))] []:=by
  refine callOK (n:=58) (rs:=[.tmp 4]) (nb:=0) (V:=[]) Try.func71 rfl (by kernel_rfl) rfl rfl rfl rfl (Nat.le_of_ble_eq_true rfl) (by decide) ?_
  unfold aggregate_fit at H0
  refine lok_rt E0 (⟨58,mkS [(1,.x (.one (.p (.sl 3 (List.map enc_api_UnitMark l))))),(2,.x (.one (.ptr 102 0)))],mkH [(102,.var [.p (.sl 3 (List.map enc_api_Unit a.Units)),.p (.sl 1 (List.map encI a.Bounds)),.p (pi a.Max)])]⟩) ?_
  refine lok_seq ?_
  refine lok_rt E0 (⟨58,mkS [(1,.x (.one (.p (.sl 3 (List.map enc_api_UnitMark l))))),(2,.x (.one (.ptr 102 0))),(13,.x (.one (.p (.val (.bool ((l.length:Int) != (a.Units.length:Int)))))))],mkH [(102,.var [.p (.sl 3 (List.map enc_api_Unit a.Units)),.p (.sl 1 (List.map encI a.Bounds)),.p (pi a.Max)])]⟩) ?_
  refine lok_c ((l.length:Int) != (a.Units.length:Int)) ?_ ?_
  · intro b_12
    replace H0:=cpos H0 b_12
    refine lok_rt E0 (⟨58,mkS [(4,.x (.one (.p (.val (.bool false)))))],mkH []⟩) ?_
    refine lok_ret ?_
    obtain rfl:=Option.some.inj H0
    try simp only [thenL,blockL]
    exact fin_au _ (.inr rfl) [] (⟨58,mkS [(4,.x (.one (.p (.val (.bool false)))))],mkH []⟩) rfl rfl imp_au
  · intro b_12
    replace H0:=cneg H0 b_12
    refine lok_skip ?_
    try simp only [thenL,blockL,↓reduceIte,reduceCtorEq]
    refine lok_join (fun x_ : Unit => aggregate_fit_j1 = some r_) (fun x_ => ⟨58,mkS [],mkH []⟩) ?hyaggregate_fit_j1 ?hxaggregate_fit_j1
    case hyaggregate_fit_j1 =>
      rintro _ H0
      try dsimp only at H0 ⊢
      unfold aggregate_fit_j1 at H0
      refine lok_rt E0 (⟨58,mkS [(4,.x (.one (.p (.val (.bool true)))))],mkH []⟩) ?_
      refine lok_ret ?_
      obtain rfl:=Option.some.inj H0
      try simp only [thenL,blockL]
      exact fin_au _ (.inr rfl) [] (⟨58,mkS [(4,.x (.one (.p (.val (.bool true)))))],mkH []⟩) rfl rfl imp_au
    case hxaggregate_fit_j1 =>
      refine lok_rt E0 (⟨58,mkS [(2,.x (.one (.ptr 102 0))),(14,.x (.one (.p (.sl 3 (List.map enc_api_UnitMark l))))),(15,.x (.one (.p (pi (l.length:Int))))),(16,.x (.one (.p (pi (0:Int)))))],mkH [(102,.var [.p (.sl 3 (List.map enc_api_Unit a.Units)),.p (.sl 1 (List.map encI a.Bounds)),.p (pi a.Max)])]⟩) ?_
      refine lok_block ?_
      replace H0:=bind_some H0
      obtain ⟨v_0,hv_0,H0⟩:=H0
      refine lok_iter (fun x_ => ⟨58,mkS [(2,.x (.one (.ptr 102 0))),(14,.x (.one (.p (.sl 3 (List.map enc_api_UnitMark l))))),(15,.x (.one (.p (pi (l.length:Int))))),(16,.x (.one (.p (pi x_))))],mkH [(102,.var [.p (.sl 3 (List.map enc_api_Unit a.Units)),.p (.sl 1 (List.map encI a.Bounds)),.p (pi a.Max)])]⟩) hv_0 imp_au ?_
      · rintro v o_1 H1 k_1
        unfold aggregate_fit_l4 at H1
        try dsimp only at H1 ⊢
        refine lok_rt E0 (⟨58,mkS [(2,.x (.one (.ptr 102 0))),(14,.x (.one (.p (.sl 3 (List.map enc_api_UnitMark l))))),(15,.x (.one (.p (pi (l.length:Int))))),(16,.x (.one (.p (pi v)))),(17,.x (.one (.p (.val (.bool (decide (v < (l.length:Int))))))))],mkH [(102,.var [.p (.sl 3 (List.map enc_api_Unit a.Units)),.p (.sl 1 (List.map encI a.Bounds)),.p (pi a.Max)])]⟩) ?_
        refine lok_seq ?_
        refine lok_c (decide (v < (l.length:Int))) ?_ ?_
        · intro b_11
          replace H1:=cpos H1 b_11
          refine lok_skip ?_
          try simp only [thenL,blockL,↓reduceIte,reduceCtorEq]
          refine lok_join (fun x_ : Unit => aggregate_fit_j2 v = some o_1) (fun x_ => ⟨58,mkS [(2,.x (.one (.ptr 102 0))),(14,.x (.one (.p (.sl 3 (List.map enc_api_UnitMark l))))),(15,.x (.one (.p (pi (l.length:Int))))),(16,.x (.one (.p (pi v))))],mkH [(102,.var [.p (.sl 3 (List.map enc_api_Unit a.Units)),.p (.sl 1 (List.map encI a.Bounds)),.p (pi a.Max)])]⟩) ?hyaggregate_fit_j2 ?hxaggregate_fit_j2
          case hyaggregate_fit_j2 =>
            rintro _ H1
            try dsimp only at H1 ⊢
            unfold aggregate_fit_j2 at H1
            refine lok_rl E0 (⟨58,mkS [(2,.x (.one (.ptr 102 0))),(14,.x (.one (.p (.sl 3 (List.map enc_api_UnitMark l))))),(15,.x (.one (.p (pi (l.length:Int))))),(16,.x (.one (.p (pi (IntKind.i64.wrap (v + (1:Int)))))))],mkH [(102,.var [.p (.sl 3 (List.map enc_api_Unit a.Units)),.p (.sl 1 (List.map encI a.Bounds)),.p (pi a.Max)])]⟩) ?_
            try simp only [thenL,blockL,↓reduceIte,reduceCtorEq]
            exact ⟨(IntKind.i64.wrap (v + (1:Int))),(Option.some.inj H1).symm,imp_au⟩
          case hxaggregate_fit_j2 =>
            refine lok_block ?_
            replace H1:=req_some H1
            obtain ⟨q_10,H1⟩:=H1
            refine lok_rt E0 (⟨58,mkS [(2,.x (.one (.ptr 102 0))),(5,.x (.one (.p (pi v)))),(6,.x (.one (.ptr 106 0))),(14,.x (.one (.p (.sl 3 (List.map enc_api_UnitMark l))))),(15,.x (.one (.p (pi (l.length:Int))))),(16,.x (.one (.p (pi v))))],mkH [(102,.var [.p (.sl 3 (List.map enc_api_Unit a.Units)),.p (.sl 1 (List.map encI a.Bounds)),.p (pi a.Max)]),(106,.var [.p (pi ((ix l v).Kind)),.p (pi (((ix l v).Value).Num)),.p (pi (((ix l v).Value).Den))])]⟩) ?_
            refine lok_rt E0 (⟨58,mkS [(2,.x (.one (.ptr 102 0))),(5,.x (.one (.p (pi v)))),(6,.x (.one (.ptr 106 0))),(14,.x (.one (.p (.sl 3 (List.map enc_api_UnitMark l))))),(15,.x (.one (.p (pi (l.length:Int))))),(16,.x (.one (.p (pi v)))),(22,.x (.one (.p (pi ((ix l v).Kind)))))],mkH [(102,.var [.p (.sl 3 (List.map enc_api_Unit a.Units)),.p (.sl 1 (List.map encI a.Bounds)),.p (pi a.Max)]),(106,.var [.p (pi ((ix l v).Kind)),.p (pi (((ix l v).Value).Num)),.p (pi (((ix l v).Value).Den))])]⟩) ?_
            refine lok_block ?_
            refine lok_rt E0 (⟨58,mkS [(2,.x (.one (.ptr 102 0))),(5,.x (.one (.p (pi v)))),(6,.x (.one (.ptr 106 0))),(14,.x (.one (.p (.sl 3 (List.map enc_api_UnitMark l))))),(15,.x (.one (.p (pi (l.length:Int))))),(16,.x (.one (.p (pi v)))),(22,.x (.one (.p (pi ((ix l v).Kind))))),(23,.x (.one (.p (.val (.bool ((ix l v).Kind == (0:Int)))))))],mkH [(102,.var [.p (.sl 3 (List.map enc_api_Unit a.Units)),.p (.sl 1 (List.map encI a.Bounds)),.p (pi a.Max)]),(106,.var [.p (pi ((ix l v).Kind)),.p (pi (((ix l v).Value).Num)),.p (pi (((ix l v).Value).Den))])]⟩) ?_
            refine lok_c ((ix l v).Kind == (0:Int)) ?_ ?_
            · intro b_9
              replace H1:=cpos H1 b_9
              replace H1:=req_some H1
              obtain ⟨q_4,H1⟩:=H1
              refine lok_rt E0 (⟨58,mkS [(2,.x (.one (.ptr 102 0))),(6,.x (.one (.ptr 106 0))),(7,.x (.one (.ptr 107 0))),(14,.x (.one (.p (.sl 3 (List.map enc_api_UnitMark l))))),(15,.x (.one (.p (pi (l.length:Int))))),(16,.x (.one (.p (pi v))))],mkH [(102,.var [.p (.sl 3 (List.map enc_api_Unit a.Units)),.p (.sl 1 (List.map encI a.Bounds)),.p (pi a.Max)]),(106,.var [.p (pi ((ix l v).Kind)),.p (pi (((ix l v).Value).Num)),.p (pi (((ix l v).Value).Den))]),(107,.var [.p (pi ((ix a.Units v).Max)),.p (pi (1:Int))])]⟩) ?_
              replace H1:=bind_some H1
              obtain ⟨y,h_1,H1⟩:=H1
              replace H1:=req_some H1
              obtain ⟨q_3,H1⟩:=H1
              refine lok_rt (Env.of E0 [⟨some 34,78,[.agg [.p (pi (((ix l v).Value).Num)),.p (pi (((ix l v).Value).Den))]],[],[.one (.p (.val (.bool y)))],[],True,fun _ => ok_ratio_Valid ((ix l v).Value) y h_1,[]⟩,
      ⟨some 46,86,[.agg [.p (pi (((ix l v).Value).Num)),.p (pi (((ix l v).Value).Den))],.agg [.p (pi ((ix a.Units v).Max)),.p (pi (1:Int))]],[],[.one (.p (pi ((ratio_Compare ((ix l v).Value) (api_Ratio.mk ((ix a.Units v).Max) (1:Int))).getD default)))],[],(ratio_Compare ((ix l v).Value) (api_Ratio.mk ((ix a.Units v).Max) (1:Int))).isSome = true,fun h => ok_ratio_Compare ((ix l v).Value) (api_Ratio.mk ((ix a.Units v).Max) (1:Int)) _ (isSome_get h),[]⟩]) (⟨58,mkS [(2,.x (.one (.ptr 102 0))),(14,.x (.one (.p (.sl 3 (List.map enc_api_UnitMark l))))),(15,.x (.one (.p (pi (l.length:Int))))),(16,.x (.one (.p (pi v)))),(48,.x (.one (.p (.val (.bool (((!y) || (decide (((ix l v).Value).Num < (0:Int)))) || (decide ((0:Int) < ((ratio_Compare ((ix l v).Value) (api_Ratio.mk ((ix a.Units v).Max) (1:Int))).getD default)))))))))],mkH [(102,.var [.p (.sl 3 (List.map enc_api_Unit a.Units)),.p (.sl 1 (List.map encI a.Bounds)),.p (pi a.Max)])]⟩) ?_
              refine lok_c (((!y) || (decide (((ix l v).Value).Num < (0:Int)))) || (decide ((0:Int) < ((ratio_Compare ((ix l v).Value) (api_Ratio.mk ((ix a.Units v).Max) (1:Int))).getD default)))) ?_ ?_
              · intro b_2
                replace H1:=cpos H1 b_2
                refine lok_rt E0 (⟨58,mkS [(4,.x (.one (.p (.val (.bool false)))))],mkH []⟩) ?_
                refine lok_ret ?_
                try simp only [thenL,blockL,↓reduceIte,reduceCtorEq]
                have e_1:=k_1 _ (Option.some.inj H1).symm
                subst e_1
                try dsimp only at H0
                obtain rfl:=Option.some.inj H0
                try simp only [thenL,blockL]
                exact fin_au _ (.inr rfl) [] (⟨58,mkS [(4,.x (.one (.p (.val (.bool false)))))],mkH []⟩) rfl rfl imp_au
              · intro b_2
                replace H1:=cneg H1 b_2
                refine lok_skip ?_
                try simp only [thenL,blockL,↓reduceIte,reduceCtorEq]
                exact ⟨(),H1,imp_au⟩
            · intro b_9
              replace H1:=cneg H1 b_9
              refine lok_join (fun x_ : Bool => aggregate_fit_j3 l v x_ = some o_1) (fun x_ => ⟨58,mkS [(2,.x (.one (.ptr 102 0))),(6,.x (.one (.ptr 106 0))),(14,.x (.one (.p (.sl 3 (List.map enc_api_UnitMark l))))),(15,.x (.one (.p (pi (l.length:Int))))),(16,.x (.one (.p (pi v)))),(49,.x (.one (.p (.val (.bool x_)))))],mkH [(102,.var [.p (.sl 3 (List.map enc_api_Unit a.Units)),.p (.sl 1 (List.map encI a.Bounds)),.p (pi a.Max)]),(106,.var [.p (pi ((ix l v).Kind)),.p (pi (((ix l v).Value).Num)),.p (pi (((ix l v).Value).Den))])]⟩) ?hyaggregate_fit_j3 ?hxaggregate_fit_j3
              case hyaggregate_fit_j3 =>
                rintro v1 H1
                try dsimp only at H1 ⊢
                unfold aggregate_fit_j3 at H1
                refine lok_c v1 ?_ ?_
                · intro b_6
                  replace H1:=cpos H1 b_6
                  refine lok_rt E0 (⟨58,mkS [(2,.x (.one (.ptr 102 0))),(14,.x (.one (.p (.sl 3 (List.map enc_api_UnitMark l))))),(15,.x (.one (.p (pi (l.length:Int))))),(16,.x (.one (.p (pi v)))),(56,.x (.one (.p (.val (.bool (!((((ix l v).Value).Num == (0:Int)) && (((ix l v).Value).Den == (1:Int)))))))))],mkH [(102,.var [.p (.sl 3 (List.map enc_api_Unit a.Units)),.p (.sl 1 (List.map encI a.Bounds)),.p (pi a.Max)])]⟩) ?_
                  refine lok_c (!((((ix l v).Value).Num == (0:Int)) && (((ix l v).Value).Den == (1:Int)))) ?_ ?_
                  · intro b_5
                    replace H1:=cpos H1 b_5
                    refine lok_rt E0 (⟨58,mkS [(4,.x (.one (.p (.val (.bool false)))))],mkH []⟩) ?_
                    refine lok_ret ?_
                    try simp only [thenL,blockL,↓reduceIte,reduceCtorEq]
                    have e_1:=k_1 _ (Option.some.inj H1).symm
                    subst e_1
                    try dsimp only at H0
                    obtain rfl:=Option.some.inj H0
                    try simp only [thenL,blockL]
                    exact fin_au _ (.inr rfl) [] (⟨58,mkS [(4,.x (.one (.p (.val (.bool false)))))],mkH []⟩) rfl rfl imp_au
                  · intro b_5
                    replace H1:=cneg H1 b_5
                    refine lok_skip ?_
                    try simp only [thenL,blockL,↓reduceIte,reduceCtorEq]
                    exact ⟨(),H1,imp_au⟩
                · intro b_6
                  replace H1:=cneg H1 b_6
                  refine lok_rt E0 (⟨58,mkS [(4,.x (.one (.p (.val (.bool false)))))],mkH []⟩) ?_
                  refine lok_ret ?_
                  try simp only [thenL,blockL,↓reduceIte,reduceCtorEq]
                  have e_1:=k_1 _ (Option.some.inj H1).symm
                  subst e_1
                  try dsimp only at H0
                  obtain rfl:=Option.some.inj H0
                  try simp only [thenL,blockL]
                  exact fin_au _ (.inr rfl) [] (⟨58,mkS [(4,.x (.one (.p (.val (.bool false)))))],mkH []⟩) rfl rfl imp_au
              case hxaggregate_fit_j3 =>
                refine lok_rt E0 (⟨58,mkS [(2,.x (.one (.ptr 102 0))),(6,.x (.one (.ptr 106 0))),(14,.x (.one (.p (.sl 3 (List.map enc_api_UnitMark l))))),(15,.x (.one (.p (pi (l.length:Int))))),(16,.x (.one (.p (pi v)))),(22,.x (.one (.p (pi ((ix l v).Kind))))),(49,.x (.one (.p (.val (.bool ((ix l v).Kind == (1:Int)))))))],mkH [(102,.var [.p (.sl 3 (List.map enc_api_Unit a.Units)),.p (.sl 1 (List.map encI a.Bounds)),.p (pi a.Max)]),(106,.var [.p (pi ((ix l v).Kind)),.p (pi (((ix l v).Value).Num)),.p (pi (((ix l v).Value).Den))])]⟩) ?_
                refine lok_c ((ix l v).Kind == (1:Int)) ?_ ?_
                · intro b_8
                  replace H1:=cpos H1 b_8
                  refine lok_skip ?_
                  try simp only [thenL,blockL,↓reduceIte,reduceCtorEq]
                  exact ⟨((ix l v).Kind == (1:Int)),H1,imp_au⟩
                · intro b_8
                  replace H1:=cneg H1 b_8
                  refine lok_rt E0 (⟨58,mkS [(2,.x (.one (.ptr 102 0))),(6,.x (.one (.ptr 106 0))),(14,.x (.one (.p (.sl 3 (List.map enc_api_UnitMark l))))),(15,.x (.one (.p (pi (l.length:Int))))),(16,.x (.one (.p (pi v)))),(22,.x (.one (.p (pi ((ix l v).Kind))))),(49,.x (.one (.p (.val (.bool ((ix l v).Kind == (2:Int)))))))],mkH [(102,.var [.p (.sl 3 (List.map enc_api_Unit a.Units)),.p (.sl 1 (List.map encI a.Bounds)),.p (pi a.Max)]),(106,.var [.p (pi ((ix l v).Kind)),.p (pi (((ix l v).Value).Num)),.p (pi (((ix l v).Value).Den))])]⟩) ?_
                  refine lok_c ((ix l v).Kind == (2:Int)) ?_ ?_
                  · intro b_7
                    replace H1:=cpos H1 b_7
                    refine lok_skip ?_
                    try simp only [thenL,blockL,↓reduceIte,reduceCtorEq]
                    exact ⟨((ix l v).Kind == (2:Int)),H1,imp_au⟩
                  · intro b_7
                    replace H1:=cneg H1 b_7
                    refine lok_rl E0 (⟨58,mkS [(2,.x (.one (.ptr 102 0))),(6,.x (.one (.ptr 106 0))),(14,.x (.one (.p (.sl 3 (List.map enc_api_UnitMark l))))),(15,.x (.one (.p (pi (l.length:Int))))),(16,.x (.one (.p (pi v)))),(49,.x (.one (.p (.val (.bool ((ix l v).Kind == (3:Int)))))))],mkH [(102,.var [.p (.sl 3 (List.map enc_api_Unit a.Units)),.p (.sl 1 (List.map encI a.Bounds)),.p (pi a.Max)]),(106,.var [.p (pi ((ix l v).Kind)),.p (pi (((ix l v).Value).Num)),.p (pi (((ix l v).Value).Den))])]⟩) ?_
                    try simp only [thenL,blockL,↓reduceIte,reduceCtorEq]
                    exact ⟨((ix l v).Kind == (3:Int)),H1,imp_au⟩
        · intro b_11
          replace H1:=cneg H1 b_11
          refine lok_exit ?_
          try simp only [thenL,blockL,↓reduceIte,reduceCtorEq]
          have e_1:=k_1 _ (Option.some.inj H1).symm
          subst e_1
          try dsimp only at H0
          try simp only [thenL,blockL,↓reduceIte,reduceCtorEq]
          exact ⟨(),H0,imp_au⟩
theorem ok_aggregate_checkMarks (a : api_Award) (l : List api_UnitMark) (special:Int) (r_:Int) (H0 : aggregate_checkMarks a l special = some r_) : CallOK Try.prog 44 [.agg [.p (.sl 3 (List.map enc_api_Unit a.Units)),.p (.sl 1 (List.map encI a.Bounds)),.p (pi a.Max)],.one (.p (.sl 3 (List.map enc_api_UnitMark l))),.one (.p (pi special))] [] [.one (.p (pi r_))] []:=by
  refine callOK (n:=22) (rs:=[.tmp 6]) (nb:=0) (V:=[]) Try.func44 rfl (by kernel_rfl) rfl rfl rfl rfl (Nat.le_of_ble_eq_true rfl) (by decide) ?_
  unfold aggregate_checkMarks at H0
  refine lok_rt E0 (⟨22,mkS [(1,.x (.one (.p (.sl 3 (List.map enc_api_UnitMark l))))),(2,.x (.one (.p (pi special)))),(3,.x (.one (.ptr 103 0)))],mkH [(103,.var [.p (.sl 3 (List.map enc_api_Unit a.Units)),.p (.sl 1 (List.map encI a.Bounds)),.p (pi a.Max)])]⟩) ?_
  refine lok_seq ?_
  replace H0:=bind_some H0
  obtain ⟨y,h_0,H0⟩:=H0
  replace H0:=req_some H0
  obtain ⟨q_3,H0⟩:=H0
  refine lok_rt (Env.of E0 [⟨some 8,19,[.agg [.p (.sl 3 (List.map enc_api_Unit a.Units)),.p (.sl 1 (List.map encI a.Bounds)),.p (pi a.Max)]],[],[.one (.p (pi y))],[],True,fun _ => ok_aggregate_Check a y h_0,[]⟩,
      ⟨some 13,71,[.agg [.p (.sl 3 (List.map enc_api_Unit a.Units)),.p (.sl 1 (List.map encI a.Bounds)),.p (pi a.Max)],.one (.p (.sl 3 (List.map enc_api_UnitMark l)))],[],[.one (.p (.val (.bool ((aggregate_fit a l).getD default))))],[],(aggregate_fit a l).isSome = true,fun h => ok_aggregate_fit a l _ (isSome_get h),[]⟩]) (⟨22,mkS [(2,.x (.one (.p (pi special)))),(15,.x (.one (.p (.val (.bool ((y != (0:Int)) || (!((aggregate_fit a l).getD default))))))))],mkH []⟩) ?_
  refine lok_c ((y != (0:Int)) || (!((aggregate_fit a l).getD default))) ?_ ?_
  · intro b_2
    replace H0:=cpos H0 b_2
    refine lok_rt E0 (⟨22,mkS [(6,.x (.one (.p (pi (1:Int)))))],mkH []⟩) ?_
    refine lok_ret ?_
    obtain rfl:=Option.some.inj H0
    try simp only [thenL,blockL]
    exact fin_au _ (.inr rfl) [] (⟨22,mkS [(6,.x (.one (.p (pi (1:Int)))))],mkH []⟩) rfl rfl imp_au
  · intro b_2
    replace H0:=cneg H0 b_2
    refine lok_skip ?_
    try simp only [thenL,blockL,↓reduceIte,reduceCtorEq]
    refine lok_seq ?_
    refine lok_rt E0 (⟨22,mkS [(21,.x (.one (.p (.val (.bool ((decide (special < (0:Int))) || (decide ((50:Int) < special))))))))],mkH []⟩) ?_
    refine lok_c ((decide (special < (0:Int))) || (decide ((50:Int) < special))) ?_ ?_
    · intro b_1
      replace H0:=cpos H0 b_1
      refine lok_rt E0 (⟨22,mkS [(6,.x (.one (.p (pi (2:Int)))))],mkH []⟩) ?_
      refine lok_ret ?_
      obtain rfl:=Option.some.inj H0
      try simp only [thenL,blockL]
      exact fin_au _ (.inr rfl) [] (⟨22,mkS [(6,.x (.one (.p (pi (2:Int)))))],mkH []⟩) rfl rfl imp_au
    · intro b_1
      replace H0:=cneg H0 b_1
      refine lok_skip ?_
      try simp only [thenL,blockL,↓reduceIte,reduceCtorEq]
      refine lok_rt E0 (⟨22,mkS [(6,.x (.one (.p (pi (0:Int)))))],mkH []⟩) ?_
      refine lok_ret ?_
      obtain rfl:=Option.some.inj H0
      try simp only [thenL,blockL]
      exact fin_au _ (.inr rfl) [] (⟨22,mkS [(6,.x (.one (.p (pi (0:Int)))))],mkH []⟩) rfl rfl imp_au
theorem ok_aggregate_has_f1 (m : api_UnitMark) (c:Int) (r_ : Bool × Int) (H0 : aggregate_has_f1 m c = some r_) : CallOK Try.prog 73 [.agg [.p (pi m.Kind),.p (pi m.Value.Num),.p (pi m.Value.Den)],.one (.ptr 0 0)] [.var [.p (pi c)]] [.one (.p (.val (.bool r_.1)))] [some (.var [.p (pi r_.2)])]:=by
  refine callOK (n:=8) (rs:=[.tmp 3]) (nb:=1) (V:=[0]) Try.func73 rfl (by kernel_rfl) rfl rfl rfl rfl (Nat.le_of_ble_eq_true rfl) (by decide) ?_
  unfold aggregate_has_f1 at H0
  refine lok_rt E0 (⟨8,mkS [(1,.x (.one (.ptr 0 0))),(2,.x (.one (.ptr 102 0)))],mkH [(0,.var [.p (pi c)]),(102,.var [.p (pi m.Kind),.p (pi m.Value.Num),.p (pi m.Value.Den)])]⟩) ?_
  refine lok_rt E0 (⟨8,mkS [(3,.x (.one (.p (.val (.bool (m.Kind == c))))))],mkH [(0,.var [.p (pi c)])]⟩) ?_
  refine lok_ret ?_
  obtain rfl:=Option.some.inj H0
  try simp only [thenL,blockL]
  exact fin_au _ (.inr rfl) [0] (⟨8,mkS [(3,.x (.one (.p (.val (.bool (m.Kind == c))))))],mkH [(0,.var [.p (pi c)])]⟩) rfl rfl imp_au
theorem ok_slices_IndexFunc_awardingbodyapiUnitMarkawardingbodyapiUnitMark_aggregate_has_f1 (s : List api_UnitMark) (f_c:Int) (r_ : Int × Int) (H0 : slices_IndexFunc_awardingbodyapiUnitMarkawardingbodyapiUnitMark_aggregate_has_f1 s f_c = some r_) : CallOK Try.prog 99 [.one (.p (.sl 3 (List.map enc_api_UnitMark s))),.one (.fn 73 [0])] [.var [.p (pi f_c)]] [.one (.p (pi r_.1))] [some (.var [.p (pi r_.2)])]:=by
  refine callOK (n:=19) (rs:=[.tmp 4]) (nb:=1) (V:=[0]) Try.func99 rfl (by kernel_rfl) rfl rfl rfl rfl (Nat.le_of_ble_eq_true rfl) (by decide) ?_
  unfold slices_IndexFunc_awardingbodyapiUnitMarkawardingbodyapiUnitMark_aggregate_has_f1 at H0
  refine lok_rt E0 (⟨19,mkS [(0,.x (.one (.p (.sl 3 (List.map enc_api_UnitMark s))))),(1,.x (.one (.fn 73 [0])))],mkH [(0,.var [.p (pi f_c)])]⟩) ?_
  refine lok_join (fun x_ : Int => slices_IndexFunc_awardingbodyapiUnitMarkawardingbodyapiUnitMark_aggregate_has_f1_j1 x_ = some r_) (fun x_ => ⟨19,mkS [],mkH [(0,.var [.p (pi x_)])]⟩) ?hyslices_IndexFunc_awardingbodyapiUnitMarkawardingbodyapiUnitMark_aggregate_has_f1_j1 ?hxslices_IndexFunc_awardingbodyapiUnitMarkawardingbodyapiUnitMark_aggregate_has_f1_j1
  case hyslices_IndexFunc_awardingbodyapiUnitMarkawardingbodyapiUnitMark_aggregate_has_f1_j1 =>
    rintro f_c1 H0
    try dsimp only at H0 ⊢
    unfold slices_IndexFunc_awardingbodyapiUnitMarkawardingbodyapiUnitMark_aggregate_has_f1_j1 at H0
    refine lok_rt E0 (⟨19,mkS [(4,.x (.one (.p (pi (-1:Int)))))],mkH [(0,.var [.p (pi f_c1)])]⟩) ?_
    refine lok_ret ?_
    obtain rfl:=Option.some.inj H0
    try simp only [thenL,blockL]
    exact fin_au _ (.inr rfl) [0] (⟨19,mkS [(4,.x (.one (.p (pi (-1:Int)))))],mkH [(0,.var [.p (pi f_c1)])]⟩) rfl rfl imp_au
  case hxslices_IndexFunc_awardingbodyapiUnitMarkawardingbodyapiUnitMark_aggregate_has_f1_j1 =>
    refine lok_rt E0 (⟨19,mkS [(0,.x (.one (.p (.sl 3 (List.map enc_api_UnitMark s))))),(1,.x (.one (.fn 73 [0]))),(7,.x (.one (.p (pi (s.length:Int))))),(8,.x (.one (.p (pi (0:Int)))))],mkH [(0,.var [.p (pi f_c)])]⟩) ?_
    refine lok_block ?_
    replace H0:=bind_some H0
    obtain ⟨v_0,hv_0,H0⟩:=H0
    refine lok_iter (fun x_ => ⟨19,mkS [(0,.x (.one (.p (.sl 3 (List.map enc_api_UnitMark s))))),(1,.x (.one (.fn 73 [0]))),(7,.x (.one (.p (pi (s.length:Int))))),(8,.x (.one (.p (pi x_.1))))],mkH [(0,.var [.p (pi x_.2)])]⟩) hv_0 imp_au ?_
    · rintro ⟨v,f_c2⟩ o_1 H1 k_1
      unfold slices_IndexFunc_awardingbodyapiUnitMarkawardingbodyapiUnitMark_aggregate_has_f1_l2 at H1
      try dsimp only at H1 ⊢
      refine lok_rt E0 (⟨19,mkS [(0,.x (.one (.p (.sl 3 (List.map enc_api_UnitMark s))))),(1,.x (.one (.fn 73 [0]))),(7,.x (.one (.p (pi (s.length:Int))))),(8,.x (.one (.p (pi v)))),(9,.x (.one (.p (.val (.bool (decide (v < (s.length:Int))))))))],mkH [(0,.var [.p (pi f_c2)])]⟩) ?_
      refine lok_seq ?_
      refine lok_c (decide (v < (s.length:Int))) ?_ ?_
      · intro b_4
        replace H1:=cpos H1 b_4
        refine lok_skip ?_
        try simp only [thenL,blockL,↓reduceIte,reduceCtorEq]
        refine lok_seq ?_
        refine lok_block ?_
        refine lok_rt E0 (⟨19,mkS [(0,.x (.one (.p (.sl 3 (List.map enc_api_UnitMark s))))),(1,.x (.one (.fn 73 [0]))),(5,.x (.one (.p (pi v)))),(7,.x (.one (.p (pi (s.length:Int))))),(8,.x (.one (.p (pi v))))],mkH [(0,.var [.p (pi f_c2)])]⟩) ?_
        replace H1:=req_some H1
        obtain ⟨q_3,H1⟩:=H1
        replace H1:=bind_some H1
        obtain ⟨⟨y,y1⟩,h_1,H1⟩:=H1
        try dsimp only at H1
        refine lok_rt (Env.of E0 [⟨some 16,73,[.agg [.p (pi ((ix s v).Kind)),.p (pi (((ix s v).Value).Num)),.p (pi (((ix s v).Value).Den))],.one (.ptr 0 0)],[.var [.p (pi f_c2)]],[.one (.p (.val (.bool y)))],[some (.var [.p (pi y1)])],True,fun _ => ok_aggregate_has_f1 (api_UnitMark.mk ((ix s v).Kind) ((ix s v).Value)) f_c2 (y,y1) h_1,[]⟩]) (⟨19,mkS [(0,.x (.one (.p (.sl 3 (List.map enc_api_UnitMark s))))),(1,.x (.one (.fn 73 [0]))),(5,.x (.one (.p (pi v)))),(7,.x (.one (.p (pi (s.length:Int))))),(8,.x (.one (.p (pi v)))),(16,.x (.one (.p (.val (.bool y)))))],mkH [(0,.var [.p (pi y1)])]⟩) ?_
        refine lok_c y ?_ ?_
        · intro b_2
          replace H1:=cpos H1 b_2
          refine lok_rt E0 (⟨19,mkS [(4,.x (.one (.p (pi v))))],mkH [(0,.var [.p (pi y1)])]⟩) ?_
          refine lok_ret ?_
          try simp only [thenL,blockL,↓reduceIte,reduceCtorEq]
          have e_1:=k_1 _ (Option.some.inj H1).symm
          subst e_1
          try dsimp only at H0
          obtain rfl:=Option.some.inj H0
          try simp only [thenL,blockL]
          exact fin_au _ (.inr rfl) [0] (⟨19,mkS [(4,.x (.one (.p (pi v))))],mkH [(0,.var [.p (pi y1)])]⟩) rfl rfl imp_au
        · intro b_2
          replace H1:=cneg H1 b_2
          refine lok_skip ?_
          try simp only [thenL,blockL,↓reduceIte,reduceCtorEq]
          refine lok_rl E0 (⟨19,mkS [(0,.x (.one (.p (.sl 3 (List.map enc_api_UnitMark s))))),(1,.x (.one (.fn 73 [0]))),(7,.x (.one (.p (pi (s.length:Int))))),(8,.x (.one (.p (pi (IntKind.i64.wrap (v + (1:Int)))))))],mkH [(0,.var [.p (pi y1)])]⟩) ?_
          try simp only [thenL,blockL,↓reduceIte,reduceCtorEq]
          exact ⟨((IntKind.i64.wrap (v + (1:Int))),y1),(Option.some.inj H1).symm,imp_au⟩
      · intro b_4
        replace H1:=cneg H1 b_4
        refine lok_exit ?_
        try simp only [thenL,blockL,↓reduceIte,reduceCtorEq]
        have e_1:=k_1 _ (Option.some.inj H1).symm
        subst e_1
        try dsimp only at H0
        try simp only [thenL,blockL,↓reduceIte,reduceCtorEq]
        exact ⟨f_c2,H0,imp_au⟩
theorem ok_slices_ContainsFunc_awardingbodyapiUnitMarkawardingbodyapiUnitMark_aggregate_has_f1 (s : List api_UnitMark) (f_c:Int) (r_ : Bool × Int) (H0 : slices_ContainsFunc_awardingbodyapiUnitMarkawardingbodyapiUnitMark_aggregate_has_f1 s f_c = some r_) : CallOK Try.prog 72 [.one (.p (.sl 3 (List.map enc_api_UnitMark s))),.one (.fn 73 [0])] [.var [.p (pi f_c)]] [.one (.p (.val (.bool r_.1)))] [some (.var [.p (pi r_.2)])]:=by
  refine callOK (n:=9) (rs:=[.tmp 4]) (nb:=1) (V:=[0]) Try.func72 rfl (by kernel_rfl) rfl rfl rfl rfl (Nat.le_of_ble_eq_true rfl) (by decide) ?_
  unfold slices_ContainsFunc_awardingbodyapiUnitMarkawardingbodyapiUnitMark_aggregate_has_f1 at H0
  refine lok_rt E0 (⟨9,mkS [(0,.x (.one (.p (.sl 3 (List.map enc_api_UnitMark s))))),(1,.x (.one (.fn 73 [0])))],mkH [(0,.var [.p (pi f_c)])]⟩) ?_
  replace H0:=bind_some H0
  obtain ⟨⟨y,y1⟩,h_0,H0⟩:=H0
  try dsimp only at H0
  refine lok_rt (Env.of E0 [⟨some 7,99,[.one (.p (.sl 3 (List.map enc_api_UnitMark s))),.one (.fn 73 [0])],[.var [.p (pi f_c)]],[.one (.p (pi y))],[some (.var [.p (pi y1)])],True,fun _ => ok_slices_IndexFunc_awardingbodyapiUnitMarkawardingbodyapiUnitMark_aggregate_has_f1 s f_c (y,y1) h_0,[]⟩]) (⟨9,mkS [(4,.x (.one (.p (.val (.bool (decide ((0:Int) ≤ y)))))))],mkH [(0,.var [.p (pi y1)])]⟩) ?_
  refine lok_ret ?_
  obtain rfl:=Option.some.inj H0
  try simp only [thenL,blockL]
  exact fin_au _ (.inr rfl) [0] (⟨9,mkS [(4,.x (.one (.p (.val (.bool (decide ((0:Int) ≤ y)))))))],mkH [(0,.var [.p (pi y1)])]⟩) rfl rfl imp_au
theorem ok_aggregate_has (l : List api_UnitMark) (kind:Int) (r_ : Bool) (H0 : aggregate_has l kind = some r_) : CallOK Try.prog 45 [.one (.p (.sl 3 (List.map enc_api_UnitMark l))),.one (.p (pi kind))] [] [.one (.p (.val (.bool r_)))] []:=by
  refine callOK (n:=8) (rs:=[.tmp 4]) (nb:=0) (V:=[]) Try.func45 rfl (by kernel_rfl) rfl rfl rfl rfl (Nat.le_of_ble_eq_true rfl) (by decide) ?_
  unfold aggregate_has at H0
  refine lok_rt E0 (⟨8,mkS [(0,.x (.one (.p (.sl 3 (List.map enc_api_UnitMark l))))),(3,.x (.one (.ptr 103 0)))],mkH [(103,.var [.p (pi kind)])]⟩) ?_
  replace H0:=bind_some H0
  obtain ⟨⟨y,y1⟩,h_0,H0⟩:=H0
  try dsimp only at H0
  refine lok_rt (Env.of E0 [⟨some 7,72,[.one (.p (.sl 3 (List.map enc_api_UnitMark l))),.one (.fn 73 [0])],[.var [.p (pi kind)]],[.one (.p (.val (.bool y)))],[some (.var [.p (pi y1)])],True,fun _ => ok_slices_ContainsFunc_awardingbodyapiUnitMarkawardingbodyapiUnitMark_aggregate_has_f1 l kind (y,y1) h_0,[]⟩]) (⟨8,mkS [(4,.x (.one (.p (.val (.bool y)))))],mkH []⟩) ?_
  refine lok_ret ?_
  obtain rfl:=Option.some.inj H0
  try simp only [thenL,blockL]
  exact fin_au _ (.inr rfl) [] (⟨8,mkS [(4,.x (.one (.p (.val (.bool y)))))],mkH []⟩) rfl rfl imp_au
theorem ok_bits_Len64 (x:Int) (r_:Int) (H0 : bits_Len64 x = some r_) : CallOK Try.prog 117 [.one (.p (.val (.int .u64 x)))] [] [.one (.p (pi r_))] []:=by
  refine callOK (n:=25) (rs:=[.tmp 2]) (nb:=0) (V:=[]) Try.func117 rfl (by kernel_rfl) rfl rfl rfl rfl (Nat.le_of_ble_eq_true rfl) (by decide) ?_
  unfold bits_Len64 at H0
  refine lok_rt E0 (⟨25,mkS [(0,.x (.one (.p (.val (.int .u64 x))))),(2,.x (.one (.p (pi (0:Int)))))],mkH []⟩) ?_
  refine lok_join (fun x_ : Int × Int => bits_Len64_j3 x_.1 x_.2 = some r_) (fun x_ => ⟨25,mkS [(0,.x (.one (.p (.val (.int .u64 x_.1))))),(2,.x (.one (.p (pi x_.2))))],mkH []⟩) ?hybits_Len64_j3 ?hxbits_Len64_j3
  case hybits_Len64_j3 =>
    rintro ⟨x1,n⟩ H0
    try dsimp only at H0 ⊢
    unfold bits_Len64_j3 at H0
    refine lok_join (fun x_ : Int × Int => bits_Len64_j2 x_.1 x_.2 = some r_) (fun x_ => ⟨25,mkS [(0,.x (.one (.p (.val (.int .u64 x_.1))))),(2,.x (.one (.p (pi x_.2))))],mkH []⟩) ?hybits_Len64_j2 ?hxbits_Len64_j2
    case hybits_Len64_j2 =>
      rintro ⟨x2,n1⟩ H0
      try dsimp only at H0 ⊢
      unfold bits_Len64_j2 at H0
      refine lok_join (fun x_ : Int × Int => bits_Len64_j1 x_.1 x_.2 = some r_) (fun x_ => ⟨25,mkS [(0,.x (.one (.p (.val (.int .u64 x_.1))))),(2,.x (.one (.p (pi x_.2))))],mkH []⟩) ?hybits_Len64_j1 ?hxbits_Len64_j1
      case hybits_Len64_j1 =>
        rintro ⟨x3,n2⟩ H0
        try dsimp only at H0 ⊢
        unfold bits_Len64_j1 at H0
        replace H0:=req_some H0
        obtain ⟨q_1,H0⟩:=H0
        replace H0:=bindV_some H0
        obtain ⟨n3,a_0,H0⟩:=H0
        refine lok_rtg E0 a_0 (⟨25,mkS [(2,.x (.one (.p (pi n3))))],mkH []⟩) ?_
        refine lok_ret ?_
        obtain rfl:=Option.some.inj H0
        try simp only [thenL,blockL]
        exact fin_au _ (.inr rfl) [] (⟨25,mkS [(2,.x (.one (.p (pi n3))))],mkH []⟩) rfl rfl imp_au
      case hxbits_Len64_j1 =>
        refine lok_rt E0 (⟨25,mkS [(0,.x (.one (.p (.val (.int .u64 x2))))),(2,.x (.one (.p (pi n1)))),(14,.x (.one (.p (.val (.bool (decide ((256:Int) ≤ x2)))))))],mkH []⟩) ?_
        refine lok_c (decide ((256:Int) ≤ x2)) ?_ ?_
        · intro b_2
          replace H0:=cpos H0 b_2
          refine lok_rt E0 (⟨25,mkS [(0,.x (.one (.p (.val (.int .u64 (bShr .u64 x2 (8:Int))))))),(2,.x (.one (.p (pi n1))))],mkH []⟩) ?_
          refine lok_rl E0 (⟨25,mkS [(0,.x (.one (.p (.val (.int .u64 (bShr .u64 x2 (8:Int))))))),(2,.x (.one (.p (pi (IntKind.i64.wrap (n1 + (8:Int)))))))],mkH []⟩) ?_
          try simp only [thenL,blockL,↓reduceIte,reduceCtorEq]
          exact ⟨((bShr .u64 x2 (8:Int)),(IntKind.i64.wrap (n1 + (8:Int)))),H0,imp_au⟩
        · intro b_2
          replace H0:=cneg H0 b_2
          refine lok_skip ?_
          try simp only [thenL,blockL,↓reduceIte,reduceCtorEq]
          exact ⟨(x2,n1),H0,imp_au⟩
    case hxbits_Len64_j2 =>
      refine lok_rt E0 (⟨25,mkS [(0,.x (.one (.p (.val (.int .u64 x1))))),(2,.x (.one (.p (pi n)))),(8,.x (.one (.p (.val (.bool (decide ((65536:Int) ≤ x1)))))))],mkH []⟩) ?_
      refine lok_c (decide ((65536:Int) ≤ x1)) ?_ ?_
      · intro b_3
        replace H0:=cpos H0 b_3
        refine lok_rt E0 (⟨25,mkS [(0,.x (.one (.p (.val (.int .u64 (bShr .u64 x1 (16:Int))))))),(2,.x (.one (.p (pi n))))],mkH []⟩) ?_
        refine lok_rl E0 (⟨25,mkS [(0,.x (.one (.p (.val (.int .u64 (bShr .u64 x1 (16:Int))))))),(2,.x (.one (.p (pi (IntKind.i64.wrap (n + (16:Int)))))))],mkH []⟩) ?_
        try simp only [thenL,blockL,↓reduceIte,reduceCtorEq]
        exact ⟨((bShr .u64 x1 (16:Int)),(IntKind.i64.wrap (n + (16:Int)))),H0,imp_au⟩
      · intro b_3
        replace H0:=cneg H0 b_3
        refine lok_skip ?_
        try simp only [thenL,blockL,↓reduceIte,reduceCtorEq]
        exact ⟨(x1,n),H0,imp_au⟩
  case hxbits_Len64_j3 =>
    refine lok_rt E0 (⟨25,mkS [(0,.x (.one (.p (.val (.int .u64 x))))),(2,.x (.one (.p (pi (0:Int))))),(4,.x (.one (.p (.val (.bool (decide ((4294967296:Int) ≤ x)))))))],mkH []⟩) ?_
    refine lok_c (decide ((4294967296:Int) ≤ x)) ?_ ?_
    · intro b_4
      replace H0:=cpos H0 b_4
      refine lok_rt E0 (⟨25,mkS [(0,.x (.one (.p (.val (.int .u64 (bShr .u64 x (32:Int)))))))],mkH []⟩) ?_
      refine lok_rl E0 (⟨25,mkS [(0,.x (.one (.p (.val (.int .u64 (bShr .u64 x (32:Int))))))),(2,.x (.one (.p (pi (32:Int)))))],mkH []⟩) ?_
      try simp only [thenL,blockL,↓reduceIte,reduceCtorEq]
      exact ⟨((bShr .u64 x (32:Int)),(32:Int)),H0,imp_au⟩
    · intro b_4
      replace H0:=cneg H0 b_4
      refine lok_skip ?_
      try simp only [thenL,blockL,↓reduceIte,reduceCtorEq]
      exact ⟨(x,(0:Int)),H0,imp_au⟩
theorem ok_bits_LeadingZeros64 (x:Int) (r_:Int) (H0 : bits_LeadingZeros64 x = some r_) : CallOK Try.prog 114 [.one (.p (.val (.int .u64 x)))] [] [.one (.p (pi r_))] []:=by
  refine callOK (n:=6) (rs:=[.tmp 2]) (nb:=0) (V:=[]) Try.func114 rfl (by kernel_rfl) rfl rfl rfl rfl (Nat.le_of_ble_eq_true rfl) (by decide) ?_
  unfold bits_LeadingZeros64 at H0
  refine lok_rt E0 (⟨6,mkS [(0,.x (.one (.p (.val (.int .u64 x)))))],mkH []⟩) ?_
  replace H0:=bind_some H0
  obtain ⟨y,h_0,H0⟩:=H0
  refine lok_rt (Env.of E0 [⟨some 4,117,[.one (.p (.val (.int .u64 x)))],[],[.one (.p (pi y))],[],True,fun _ => ok_bits_Len64 x y h_0,[]⟩]) (⟨6,mkS [(2,.x (.one (.p (pi (IntKind.i64.wrap ((64:Int) - y))))))],mkH []⟩) ?_
  refine lok_ret ?_
  obtain rfl:=Option.some.inj H0
  try simp only [thenL,blockL]
  exact fin_au _ (.inr rfl) [] (⟨6,mkS [(2,.x (.one (.p (pi (IntKind.i64.wrap ((64:Int) - y))))))],mkH []⟩) rfl rfl imp_au
theorem ok_bits_Div64 (hi:Int) (lo:Int) (y:Int) (r_ : Int × Int) (H0 : bits_Div64 hi lo y = some r_) : CallOK Try.prog 105 [.one (.p (.val (.int .u64 hi))),.one (.p (.val (.int .u64 lo))),.one (.p (.val (.int .u64 y)))] [] [.one (.p (.val (.int .u64 r_.1))),.one (.p (.val (.int .u64 r_.2)))] []:=by
  refine callOK (n:=135) (rs:=[.tmp 6,.tmp 7]) (nb:=0) (V:=[]) Try.func105 rfl (by kernel_rfl) rfl rfl rfl rfl (Nat.le_of_ble_eq_true rfl) (by decide) ?_
  unfold bits_Div64 at H0
  refine lok_rt E0 (⟨135,mkS [(0,.x (.one (.p (.val (.int .u64 hi))))),(1,.x (.one (.p (.val (.int .u64 lo))))),(2,.x (.one (.p (.val (.int .u64 y)))))],mkH []⟩) ?_
  refine lok_join (fun x_ : Unit => bits_Div64_j6 hi lo y = some r_) (fun x_ => ⟨135,mkS [(0,.x (.one (.p (.val (.int .u64 hi))))),(1,.x (.one (.p (.val (.int .u64 lo))))),(2,.x (.one (.p (.val (.int .u64 y)))))],mkH []⟩) ?hybits_Div64_j6 ?hxbits_Div64_j6
  case hybits_Div64_j6 =>
    rintro _ H0
    try dsimp only at H0 ⊢
    unfold bits_Div64_j6 at H0
    refine lok_join (fun x_ : Unit => bits_Div64_j5 hi lo y = some r_) (fun x_ => ⟨135,mkS [(0,.x (.one (.p (.val (.int .u64 hi))))),(1,.x (.one (.p (.val (.int .u64 lo))))),(2,.x (.one (.p (.val (.int .u64 y)))))],mkH []⟩) ?hybits_Div64_j5 ?hxbits_Div64_j5
    case hybits_Div64_j5 =>
      rintro _ H0
      try dsimp only at H0 ⊢
      unfold bits_Div64_j5 at H0
      refine lok_seq ?_
      refine lok_rt E0 (⟨135,mkS [(0,.x (.one (.p (.val (.int .u64 hi))))),(1,.x (.one (.p (.val (.int .u64 lo))))),(2,.x (.one (.p (.val (.int .u64 y))))),(27,.x (.one (.p (.val (.bool (hi == (0:Int)))))))],mkH []⟩) ?_
      refine lok_c (hi == (0:Int)) ?_ ?_
      · intro b_25
        replace H0:=cpos H0 b_25
        replace H0:=req_some H0
        obtain ⟨q_0,H0⟩:=H0
        refine lok_dt E0 7 (⟨135,mkS [(6,.x (.one (.p (.val (.int .u64 (IntKind.u64.wrap (Int.tdiv lo y))))))),(7,.x (.one (.p (.val (.int .u64 (Int.tmod lo y))))))],mkH []⟩) (by kernel_rfl) (by kernel_rfl) ?_
        refine lok_ret ?_
        obtain rfl:=Option.some.inj H0
        try simp only [thenL,blockL]
        exact fin_au _ (.inr rfl) [] (⟨135,mkS [(6,.x (.one (.p (.val (.int .u64 (IntKind.u64.wrap (Int.tdiv lo y))))))),(7,.x (.one (.p (.val (.int .u64 (Int.tmod lo y))))))],mkH []⟩) rfl rfl imp_au
      · intro b_25
        replace H0:=cneg H0 b_25
        refine lok_skip ?_
        try simp only [thenL,blockL,↓reduceIte,reduceCtorEq]
        replace H0:=bind_some H0
        obtain ⟨y1,h_1,H0⟩:=H0
        refine lok_rt (Env.of E0 [⟨some 35,114,[.one (.p (.val (.int .u64 y)))],[],[.one (.p (pi y1))],[],True,fun _ => ok_bits_LeadingZeros64 y y1 h_1,[]⟩]) (⟨135,mkS [(0,.x (.one (.p (.val (.int .u64 hi))))),(1,.x (.one (.p (.val (.int .u64 lo))))),(2,.x (.one (.p (.val (.int .u64 y))))),(8,.x (.one (.p (.val (.int .u64 (IntKind.u64.wrap y1))))))],mkH []⟩) ?_
        replace H0:=req_some H0
        obtain ⟨q_24,H0⟩:=H0
        refine lok_rt E0 (⟨135,mkS [(0,.x (.one (.p (.val (.int .u64 hi))))),(1,.x (.one (.p (.val (.int .u64 lo))))),(2,.x (.one (.p (.val (.int .u64 (bShl .u64 y (IntKind.u64.wrap y1))))))),(8,.x (.one (.p (.val (.int .u64 (IntKind.u64.wrap y1))))))],mkH []⟩) ?_
        refine lok_rt E0 (⟨135,mkS [(0,.x (.one (.p (.val (.int .u64 hi))))),(1,.x (.one (.p (.val (.int .u64 lo))))),(2,.x (.one (.p (.val (.int .u64 (bShl .u64 y (IntKind.u64.wrap y1))))))),(8,.x (.one (.p (.val (.int .u64 (IntKind.u64.wrap y1)))))),(9,.x (.one (.p (.val (.int .u64 (bShr .u64 (bShl .u64 y (IntKind.u64.wrap y1)) (32:Int)))))))],mkH []⟩) ?_
        refine lok_rt E0 (⟨135,mkS [(0,.x (.one (.p (.val (.int .u64 hi))))),(1,.x (.one (.p (.val (.int .u64 lo))))),(2,.x (.one (.p (.val (.int .u64 (bShl .u64 y (IntKind.u64.wrap y1))))))),(8,.x (.one (.p (.val (.int .u64 (IntKind.u64.wrap y1)))))),(9,.x (.one (.p (.val (.int .u64 (bShr .u64 (bShl .u64 y (IntKind.u64.wrap y1)) (32:Int))))))),(10,.x (.one (.p (.val (.int .u64 (bAnd .u64 (bShl .u64 y (IntKind.u64.wrap y1)) (4294967295:Int)))))))],mkH []⟩) ?_
        replace H0:=req_some H0
        obtain ⟨⟨q_22,q_23⟩,H0⟩:=H0
        replace H0:=bindV_some H0
        obtain ⟨un32,a_2,H0⟩:=H0
        refine lok_rtg E0 a_2 (⟨135,mkS [(1,.x (.one (.p (.val (.int .u64 lo))))),(2,.x (.one (.p (.val (.int .u64 (bShl .u64 y (IntKind.u64.wrap y1))))))),(8,.x (.one (.p (.val (.int .u64 (IntKind.u64.wrap y1)))))),(9,.x (.one (.p (.val (.int .u64 (bShr .u64 (bShl .u64 y (IntKind.u64.wrap y1)) (32:Int))))))),(10,.x (.one (.p (.val (.int .u64 (bAnd .u64 (bShl .u64 y (IntKind.u64.wrap y1)) (4294967295:Int))))))),(11,.x (.one (.p (.val (.int .u64 un32)))))],mkH []⟩) ?_
        replace H0:=req_some H0
        obtain ⟨q_21,H0⟩:=H0
        refine lok_rt E0 (⟨135,mkS [(2,.x (.one (.p (.val (.int .u64 (bShl .u64 y (IntKind.u64.wrap y1))))))),(8,.x (.one (.p (.val (.int .u64 (IntKind.u64.wrap y1)))))),(9,.x (.one (.p (.val (.int .u64 (bShr .u64 (bShl .u64 y (IntKind.u64.wrap y1)) (32:Int))))))),(10,.x (.one (.p (.val (.int .u64 (bAnd .u64 (bShl .u64 y (IntKind.u64.wrap y1)) (4294967295:Int))))))),(11,.x (.one (.p (.val (.int .u64 un32))))),(12,.x (.one (.p (.val (.int .u64 (bShl .u64 lo (IntKind.u64.wrap y1)))))))],mkH []⟩) ?_
        refine lok_rt E0 (⟨135,mkS [(2,.x (.one (.p (.val (.int .u64 (bShl .u64 y (IntKind.u64.wrap y1))))))),(8,.x (.one (.p (.val (.int .u64 (IntKind.u64.wrap y1)))))),(9,.x (.one (.p (.val (.int .u64 (bShr .u64 (bShl .u64 y (IntKind.u64.wrap y1)) (32:Int))))))),(10,.x (.one (.p (.val (.int .u64 (bAnd .u64 (bShl .u64 y (IntKind.u64.wrap y1)) (4294967295:Int))))))),(11,.x (.one (.p (.val (.int .u64 un32))))),(12,.x (.one (.p (.val (.int .u64 (bShl .u64 lo (IntKind.u64.wrap y1))))))),(13,.x (.one (.p (.val (.int .u64 (bShr .u64 (bShl .u64 lo (IntKind.u64.wrap y1)) (32:Int)))))))],mkH []⟩) ?_
        refine lok_rt E0 (⟨135,mkS [(2,.x (.one (.p (.val (.int .u64 (bShl .u64 y (IntKind.u64.wrap y1))))))),(8,.x (.one (.p (.val (.int .u64 (IntKind.u64.wrap y1)))))),(9,.x (.one (.p (.val (.int .u64 (bShr .u64 (bShl .u64 y (IntKind.u64.wrap y1)) (32:Int))))))),(10,.x (.one (.p (.val (.int .u64 (bAnd .u64 (bShl .u64 y (IntKind.u64.wrap y1)) (4294967295:Int))))))),(11,.x (.one (.p (.val (.int .u64 un32))))),(13,.x (.one (.p (.val (.int .u64 (bShr .u64 (bShl .u64 lo (IntKind.u64.wrap y1)) (32:Int))))))),(14,.x (.one (.p (.val (.int .u64 (bAnd .u64 (bShl .u64 lo (IntKind.u64.wrap y1)) (4294967295:Int)))))))],mkH []⟩) ?_
        replace H0:=req_some H0
        obtain ⟨q_20,H0⟩:=H0
        replace H0:=bindV_some H0
        obtain ⟨q1,a_3,H0⟩:=H0
        refine lok_rtg E0 a_3 (⟨135,mkS [(2,.x (.one (.p (.val (.int .u64 (bShl .u64 y (IntKind.u64.wrap y1))))))),(8,.x (.one (.p (.val (.int .u64 (IntKind.u64.wrap y1)))))),(9,.x (.one (.p (.val (.int .u64 (bShr .u64 (bShl .u64 y (IntKind.u64.wrap y1)) (32:Int))))))),(10,.x (.one (.p (.val (.int .u64 (bAnd .u64 (bShl .u64 y (IntKind.u64.wrap y1)) (4294967295:Int))))))),(11,.x (.one (.p (.val (.int .u64 un32))))),(13,.x (.one (.p (.val (.int .u64 (bShr .u64 (bShl .u64 lo (IntKind.u64.wrap y1)) (32:Int))))))),(14,.x (.one (.p (.val (.int .u64 (bAnd .u64 (bShl .u64 lo (IntKind.u64.wrap y1)) (4294967295:Int))))))),(15,.x (.one (.p (.val (.int .u64 q1)))))],mkH []⟩) ?_
        replace H0:=bindV_some H0
        obtain ⟨rhat,a_4,H0⟩:=H0
        refine lok_rtg E0 a_4 (⟨135,mkS [(2,.x (.one (.p (.val (.int .u64 (bShl .u64 y (IntKind.u64.wrap y1))))))),(8,.x (.one (.p (.val (.int .u64 (IntKind.u64.wrap y1)))))),(9,.x (.one (.p (.val (.int .u64 (bShr .u64 (bShl .u64 y (IntKind.u64.wrap y1)) (32:Int))))))),(10,.x (.one (.p (.val (.int .u64 (bAnd .u64 (bShl .u64 y (IntKind.u64.wrap y1)) (4294967295:Int))))))),(11,.x (.one (.p (.val (.int .u64 un32))))),(13,.x (.one (.p (.val (.int .u64 (bShr .u64 (bShl .u64 lo (IntKind.u64.wrap y1)) (32:Int))))))),(14,.x (.one (.p (.val (.int .u64 (bAnd .u64 (bShl .u64 lo (IntKind.u64.wrap y1)) (4294967295:Int))))))),(15,.x (.one (.p (.val (.int .u64 q1))))),(16,.x (.one (.p (.val (.int .u64 rhat)))))],mkH []⟩) ?_
        refine lok_join (fun x_ : Int => bits_Div64_j3 lo y y1 un32 x_ = some r_) (fun x_ => ⟨135,mkS [(2,.x (.one (.p (.val (.int .u64 (bShl .u64 y (IntKind.u64.wrap y1))))))),(8,.x (.one (.p (.val (.int .u64 (IntKind.u64.wrap y1)))))),(9,.x (.one (.p (.val (.int .u64 (bShr .u64 (bShl .u64 y (IntKind.u64.wrap y1)) (32:Int))))))),(10,.x (.one (.p (.val (.int .u64 (bAnd .u64 (bShl .u64 y (IntKind.u64.wrap y1)) (4294967295:Int))))))),(11,.x (.one (.p (.val (.int .u64 un32))))),(13,.x (.one (.p (.val (.int .u64 (bShr .u64 (bShl .u64 lo (IntKind.u64.wrap y1)) (32:Int))))))),(14,.x (.one (.p (.val (.int .u64 (bAnd .u64 (bShl .u64 lo (IntKind.u64.wrap y1)) (4294967295:Int))))))),(15,.x (.one (.p (.val (.int .u64 x_)))))],mkH []⟩) ?hybits_Div64_j3 ?hxbits_Div64_j3
        case hybits_Div64_j3 =>
          rintro q11 H0
          try dsimp only at H0 ⊢
          unfold bits_Div64_j3 at H0
          replace H0:=bindV_some H0
          obtain ⟨un21,a_5,H0⟩:=H0
          refine lok_rtg E0 a_5 (⟨135,mkS [(2,.x (.one (.p (.val (.int .u64 (bShl .u64 y (IntKind.u64.wrap y1))))))),(8,.x (.one (.p (.val (.int .u64 (IntKind.u64.wrap y1)))))),(9,.x (.one (.p (.val (.int .u64 (bShr .u64 (bShl .u64 y (IntKind.u64.wrap y1)) (32:Int))))))),(10,.x (.one (.p (.val (.int .u64 (bAnd .u64 (bShl .u64 y (IntKind.u64.wrap y1)) (4294967295:Int))))))),(14,.x (.one (.p (.val (.int .u64 (bAnd .u64 (bShl .u64 lo (IntKind.u64.wrap y1)) (4294967295:Int))))))),(15,.x (.one (.p (.val (.int .u64 q11))))),(17,.x (.one (.p (.val (.int .u64 un21)))))],mkH []⟩) ?_
          replace H0:=req_some H0
          obtain ⟨q_15,H0⟩:=H0
          replace H0:=bindV_some H0
          obtain ⟨q0,a_6,H0⟩:=H0
          refine lok_rtg E0 a_6 (⟨135,mkS [(2,.x (.one (.p (.val (.int .u64 (bShl .u64 y (IntKind.u64.wrap y1))))))),(8,.x (.one (.p (.val (.int .u64 (IntKind.u64.wrap y1)))))),(9,.x (.one (.p (.val (.int .u64 (bShr .u64 (bShl .u64 y (IntKind.u64.wrap y1)) (32:Int))))))),(10,.x (.one (.p (.val (.int .u64 (bAnd .u64 (bShl .u64 y (IntKind.u64.wrap y1)) (4294967295:Int))))))),(14,.x (.one (.p (.val (.int .u64 (bAnd .u64 (bShl .u64 lo (IntKind.u64.wrap y1)) (4294967295:Int))))))),(15,.x (.one (.p (.val (.int .u64 q11))))),(17,.x (.one (.p (.val (.int .u64 un21))))),(18,.x (.one (.p (.val (.int .u64 q0)))))],mkH []⟩) ?_
          replace H0:=bindV_some H0
          obtain ⟨rhat1,a_7,H0⟩:=H0
          refine lok_rtg E0 a_7 (⟨135,mkS [(2,.x (.one (.p (.val (.int .u64 (bShl .u64 y (IntKind.u64.wrap y1))))))),(8,.x (.one (.p (.val (.int .u64 (IntKind.u64.wrap y1)))))),(9,.x (.one (.p (.val (.int .u64 (bShr .u64 (bShl .u64 y (IntKind.u64.wrap y1)) (32:Int))))))),(10,.x (.one (.p (.val (.int .u64 (bAnd .u64 (bShl .u64 y (IntKind.u64.wrap y1)) (4294967295:Int))))))),(14,.x (.one (.p (.val (.int .u64 (bAnd .u64 (bShl .u64 lo (IntKind.u64.wrap y1)) (4294967295:Int))))))),(15,.x (.one (.p (.val (.int .u64 q11))))),(16,.x (.one (.p (.val (.int .u64 rhat1))))),(17,.x (.one (.p (.val (.int .u64 un21))))),(18,.x (.one (.p (.val (.int .u64 q0)))))],mkH []⟩) ?_
          refine lok_join (fun x_ : Int => bits_Div64_j1 lo y y1 q11 un21 x_ = some r_) (fun x_ => ⟨135,mkS [(2,.x (.one (.p (.val (.int .u64 (bShl .u64 y (IntKind.u64.wrap y1))))))),(8,.x (.one (.p (.val (.int .u64 (IntKind.u64.wrap y1)))))),(14,.x (.one (.p (.val (.int .u64 (bAnd .u64 (bShl .u64 lo (IntKind.u64.wrap y1)) (4294967295:Int))))))),(15,.x (.one (.p (.val (.int .u64 q11))))),(17,.x (.one (.p (.val (.int .u64 un21))))),(18,.x (.one (.p (.val (.int .u64 x_)))))],mkH []⟩) ?hybits_Div64_j1 ?hxbits_Div64_j1
          case hybits_Div64_j1 =>
            rintro q01 H0
            try dsimp only at H0 ⊢
            unfold bits_Div64_j1 at H0
            replace H0:=req_some H0
            obtain ⟨q_10,H0⟩:=H0
            replace H0:=bindV_some H0
            obtain ⟨quo,a_8,H0⟩:=H0
            replace H0:=bindV_some H0
            obtain ⟨rem,a_9,H0⟩:=H0
            refine lok_rtg E0 (And.intro a_8 a_9) (⟨135,mkS [(6,.x (.one (.p (.val (.int .u64 quo))))),(7,.x (.one (.p (.val (.int .u64 rem)))))],mkH []⟩) ?_
            refine lok_ret ?_
            obtain rfl:=Option.some.inj H0
            try simp only [thenL,blockL]
            exact fin_au _ (.inr rfl) [] (⟨135,mkS [(6,.x (.one (.p (.val (.int .u64 quo))))),(7,.x (.one (.p (.val (.int .u64 rem)))))],mkH []⟩) rfl rfl imp_au
          case hxbits_Div64_j1 =>
            refine lok_block ?_
            replace H0:=bind_some H0
            obtain ⟨v_11,hv_11,H0⟩:=H0
            refine lok_iter (fun x_ => ⟨135,mkS [(2,.x (.one (.p (.val (.int .u64 (bShl .u64 y (IntKind.u64.wrap y1))))))),(8,.x (.one (.p (.val (.int .u64 (IntKind.u64.wrap y1)))))),(9,.x (.one (.p (.val (.int .u64 (bShr .u64 (bShl .u64 y (IntKind.u64.wrap y1)) (32:Int))))))),(10,.x (.one (.p (.val (.int .u64 (bAnd .u64 (bShl .u64 y (IntKind.u64.wrap y1)) (4294967295:Int))))))),(14,.x (.one (.p (.val (.int .u64 (bAnd .u64 (bShl .u64 lo (IntKind.u64.wrap y1)) (4294967295:Int))))))),(15,.x (.one (.p (.val (.int .u64 q11))))),(16,.x (.one (.p (.val (.int .u64 x_.1))))),(17,.x (.one (.p (.val (.int .u64 un21))))),(18,.x (.one (.p (.val (.int .u64 x_.2)))))],mkH []⟩) hv_11 imp_au ?_
            · rintro ⟨rhat2,q02⟩ o_1 H1 k_1
              unfold bits_Div64_l2 at H1
              try dsimp only at H1 ⊢
              refine lok_seq ?_
              refine lok_rt E0 (⟨135,mkS [(2,.x (.one (.p (.val (.int .u64 (bShl .u64 y (IntKind.u64.wrap y1))))))),(8,.x (.one (.p (.val (.int .u64 (IntKind.u64.wrap y1)))))),(9,.x (.one (.p (.val (.int .u64 (bShr .u64 (bShl .u64 y (IntKind.u64.wrap y1)) (32:Int))))))),(10,.x (.one (.p (.val (.int .u64 (bAnd .u64 (bShl .u64 y (IntKind.u64.wrap y1)) (4294967295:Int))))))),(14,.x (.one (.p (.val (.int .u64 (bAnd .u64 (bShl .u64 lo (IntKind.u64.wrap y1)) (4294967295:Int))))))),(15,.x (.one (.p (.val (.int .u64 q11))))),(16,.x (.one (.p (.val (.int .u64 rhat2))))),(17,.x (.one (.p (.val (.int .u64 un21))))),(18,.x (.one (.p (.val (.int .u64 q02))))),(113,.x (.one (.p (.val (.bool ((decide ((4294967296:Int) ≤ q02)) || (decide ((IntKind.u64.wrap ((IntKind.u64.wrap ((4294967296:Int) * rhat2)) + (bAnd .u64 (bShl .u64 lo (IntKind.u64.wrap y1)) (4294967295:Int)))) < (IntKind.u64.wrap (q02 * (bAnd .u64 (bShl .u64 y (IntKind.u64.wrap y1)) (4294967295:Int))))))))))))],mkH []⟩) ?_
              refine lok_c ((decide ((4294967296:Int) ≤ q02)) || (decide ((IntKind.u64.wrap ((IntKind.u64.wrap ((4294967296:Int) * rhat2)) + (bAnd .u64 (bShl .u64 lo (IntKind.u64.wrap y1)) (4294967295:Int)))) < (IntKind.u64.wrap (q02 * (bAnd .u64 (bShl .u64 y (IntKind.u64.wrap y1)) (4294967295:Int))))))) ?_ ?_
              · intro b_14
                replace H1:=cpos H1 b_14
                refine lok_skip ?_
                try simp only [thenL,blockL,↓reduceIte,reduceCtorEq]
                refine lok_block ?_
                refine lok_rt E0 (⟨135,mkS [(2,.x (.one (.p (.val (.int .u64 (bShl .u64 y (IntKind.u64.wrap y1))))))),(8,.x (.one (.p (.val (.int .u64 (IntKind.u64.wrap y1)))))),(9,.x (.one (.p (.val (.int .u64 (bShr .u64 (bShl .u64 y (IntKind.u64.wrap y1)) (32:Int))))))),(10,.x (.one (.p (.val (.int .u64 (bAnd .u64 (bShl .u64 y (IntKind.u64.wrap y1)) (4294967295:Int))))))),(14,.x (.one (.p (.val (.int .u64 (bAnd .u64 (bShl .u64 lo (IntKind.u64.wrap y1)) (4294967295:Int))))))),(15,.x (.one (.p (.val (.int .u64 q11))))),(16,.x (.one (.p (.val (.int .u64 rhat2))))),(17,.x (.one (.p (.val (.int .u64 un21))))),(18,.x (.one (.p (.val (.int .u64 (IntKind.u64.wrap (q02 - (1:Int))))))))],mkH []⟩) ?_
                replace H1:=bindV_some H1
                obtain ⟨rhat3,a_12,H1⟩:=H1
                refine lok_rtg E0 a_12 (⟨135,mkS [(2,.x (.one (.p (.val (.int .u64 (bShl .u64 y (IntKind.u64.wrap y1))))))),(8,.x (.one (.p (.val (.int .u64 (IntKind.u64.wrap y1)))))),(9,.x (.one (.p (.val (.int .u64 (bShr .u64 (bShl .u64 y (IntKind.u64.wrap y1)) (32:Int))))))),(10,.x (.one (.p (.val (.int .u64 (bAnd .u64 (bShl .u64 y (IntKind.u64.wrap y1)) (4294967295:Int))))))),(14,.x (.one (.p (.val (.int .u64 (bAnd .u64 (bShl .u64 lo (IntKind.u64.wrap y1)) (4294967295:Int))))))),(15,.x (.one (.p (.val (.int .u64 q11))))),(16,.x (.one (.p (.val (.int .u64 rhat3))))),(17,.x (.one (.p (.val (.int .u64 un21))))),(18,.x (.one (.p (.val (.int .u64 (IntKind.u64.wrap (q02 - (1:Int))))))))],mkH []⟩) ?_
                refine lok_rt E0 (⟨135,mkS [(2,.x (.one (.p (.val (.int .u64 (bShl .u64 y (IntKind.u64.wrap y1))))))),(8,.x (.one (.p (.val (.int .u64 (IntKind.u64.wrap y1)))))),(9,.x (.one (.p (.val (.int .u64 (bShr .u64 (bShl .u64 y (IntKind.u64.wrap y1)) (32:Int))))))),(10,.x (.one (.p (.val (.int .u64 (bAnd .u64 (bShl .u64 y (IntKind.u64.wrap y1)) (4294967295:Int))))))),(14,.x (.one (.p (.val (.int .u64 (bAnd .u64 (bShl .u64 lo (IntKind.u64.wrap y1)) (4294967295:Int))))))),(15,.x (.one (.p (.val (.int .u64 q11))))),(16,.x (.one (.p (.val (.int .u64 rhat3))))),(17,.x (.one (.p (.val (.int .u64 un21))))),(18,.x (.one (.p (.val (.int .u64 (IntKind.u64.wrap (q02 - (1:Int)))))))),(120,.x (.one (.p (.val (.bool (decide ((4294967296:Int) ≤ rhat3)))))))],mkH []⟩) ?_
                refine lok_c (decide ((4294967296:Int) ≤ rhat3)) ?_ ?_
                · intro b_13
                  replace H1:=cpos H1 b_13
                  refine lok_exit ?_
                  try simp only [thenL,blockL,↓reduceIte,reduceCtorEq]
                  have e_1:=k_1 _ (Option.some.inj H1).symm
                  subst e_1
                  try dsimp only at H0
                  try simp only [thenL,blockL,↓reduceIte,reduceCtorEq]
                  exact ⟨(IntKind.u64.wrap (q02 - (1:Int))),H0,imp_au⟩
                · intro b_13
                  replace H1:=cneg H1 b_13
                  refine lok_skip ?_
                  try simp only [thenL,blockL,↓reduceIte,reduceCtorEq]
                  exact ⟨(rhat3,(IntKind.u64.wrap (q02 - (1:Int)))),(Option.some.inj H1).symm,imp_au⟩
              · intro b_14
                replace H1:=cneg H1 b_14
                refine lok_exit ?_
                try simp only [thenL,blockL,↓reduceIte,reduceCtorEq]
                have e_1:=k_1 _ (Option.some.inj H1).symm
                subst e_1
                try dsimp only at H0
                try simp only [thenL,blockL,↓reduceIte,reduceCtorEq]
                exact ⟨q02,H0,imp_au⟩
        case hxbits_Div64_j3 =>
          refine lok_block ?_
          replace H0:=bind_some H0
          obtain ⟨v_16,hv_16,H0⟩:=H0
          refine lok_iter (fun x_ => ⟨135,mkS [(2,.x (.one (.p (.val (.int .u64 (bShl .u64 y (IntKind.u64.wrap y1))))))),(8,.x (.one (.p (.val (.int .u64 (IntKind.u64.wrap y1)))))),(9,.x (.one (.p (.val (.int .u64 (bShr .u64 (bShl .u64 y (IntKind.u64.wrap y1)) (32:Int))))))),(10,.x (.one (.p (.val (.int .u64 (bAnd .u64 (bShl .u64 y (IntKind.u64.wrap y1)) (4294967295:Int))))))),(11,.x (.one (.p (.val (.int .u64 un32))))),(13,.x (.one (.p (.val (.int .u64 (bShr .u64 (bShl .u64 lo (IntKind.u64.wrap y1)) (32:Int))))))),(14,.x (.one (.p (.val (.int .u64 (bAnd .u64 (bShl .u64 lo (IntKind.u64.wrap y1)) (4294967295:Int))))))),(15,.x (.one (.p (.val (.int .u64 x_.1))))),(16,.x (.one (.p (.val (.int .u64 x_.2)))))],mkH []⟩) hv_16 imp_au ?_
          · rintro ⟨q12,rhat4⟩ o_1 H1 k_1
            unfold bits_Div64_l4 at H1
            try dsimp only at H1 ⊢
            refine lok_seq ?_
            refine lok_rt E0 (⟨135,mkS [(2,.x (.one (.p (.val (.int .u64 (bShl .u64 y (IntKind.u64.wrap y1))))))),(8,.x (.one (.p (.val (.int .u64 (IntKind.u64.wrap y1)))))),(9,.x (.one (.p (.val (.int .u64 (bShr .u64 (bShl .u64 y (IntKind.u64.wrap y1)) (32:Int))))))),(10,.x (.one (.p (.val (.int .u64 (bAnd .u64 (bShl .u64 y (IntKind.u64.wrap y1)) (4294967295:Int))))))),(11,.x (.one (.p (.val (.int .u64 un32))))),(13,.x (.one (.p (.val (.int .u64 (bShr .u64 (bShl .u64 lo (IntKind.u64.wrap y1)) (32:Int))))))),(14,.x (.one (.p (.val (.int .u64 (bAnd .u64 (bShl .u64 lo (IntKind.u64.wrap y1)) (4294967295:Int))))))),(15,.x (.one (.p (.val (.int .u64 q12))))),(16,.x (.one (.p (.val (.int .u64 rhat4))))),(78,.x (.one (.p (.val (.bool ((decide ((4294967296:Int) ≤ q12)) || (decide ((IntKind.u64.wrap ((IntKind.u64.wrap ((4294967296:Int) * rhat4)) + (bShr .u64 (bShl .u64 lo (IntKind.u64.wrap y1)) (32:Int)))) < (IntKind.u64.wrap (q12 * (bAnd .u64 (bShl .u64 y (IntKind.u64.wrap y1)) (4294967295:Int))))))))))))],mkH []⟩) ?_
            refine lok_c ((decide ((4294967296:Int) ≤ q12)) || (decide ((IntKind.u64.wrap ((IntKind.u64.wrap ((4294967296:Int) * rhat4)) + (bShr .u64 (bShl .u64 lo (IntKind.u64.wrap y1)) (32:Int)))) < (IntKind.u64.wrap (q12 * (bAnd .u64 (bShl .u64 y (IntKind.u64.wrap y1)) (4294967295:Int))))))) ?_ ?_
            · intro b_19
              replace H1:=cpos H1 b_19
              refine lok_skip ?_
              try simp only [thenL,blockL,↓reduceIte,reduceCtorEq]
              refine lok_block ?_
              refine lok_rt E0 (⟨135,mkS [(2,.x (.one (.p (.val (.int .u64 (bShl .u64 y (IntKind.u64.wrap y1))))))),(8,.x (.one (.p (.val (.int .u64 (IntKind.u64.wrap y1)))))),(9,.x (.one (.p (.val (.int .u64 (bShr .u64 (bShl .u64 y (IntKind.u64.wrap y1)) (32:Int))))))),(10,.x (.one (.p (.val (.int .u64 (bAnd .u64 (bShl .u64 y (IntKind.u64.wrap y1)) (4294967295:Int))))))),(11,.x (.one (.p (.val (.int .u64 un32))))),(13,.x (.one (.p (.val (.int .u64 (bShr .u64 (bShl .u64 lo (IntKind.u64.wrap y1)) (32:Int))))))),(14,.x (.one (.p (.val (.int .u64 (bAnd .u64 (bShl .u64 lo (IntKind.u64.wrap y1)) (4294967295:Int))))))),(15,.x (.one (.p (.val (.int .u64 (IntKind.u64.wrap (q12 - (1:Int)))))))),(16,.x (.one (.p (.val (.int .u64 rhat4)))))],mkH []⟩) ?_
              replace H1:=bindV_some H1
              obtain ⟨rhat5,a_17,H1⟩:=H1
              refine lok_rtg E0 a_17 (⟨135,mkS [(2,.x (.one (.p (.val (.int .u64 (bShl .u64 y (IntKind.u64.wrap y1))))))),(8,.x (.one (.p (.val (.int .u64 (IntKind.u64.wrap y1)))))),(9,.x (.one (.p (.val (.int .u64 (bShr .u64 (bShl .u64 y (IntKind.u64.wrap y1)) (32:Int))))))),(10,.x (.one (.p (.val (.int .u64 (bAnd .u64 (bShl .u64 y (IntKind.u64.wrap y1)) (4294967295:Int))))))),(11,.x (.one (.p (.val (.int .u64 un32))))),(13,.x (.one (.p (.val (.int .u64 (bShr .u64 (bShl .u64 lo (IntKind.u64.wrap y1)) (32:Int))))))),(14,.x (.one (.p (.val (.int .u64 (bAnd .u64 (bShl .u64 lo (IntKind.u64.wrap y1)) (4294967295:Int))))))),(15,.x (.one (.p (.val (.int .u64 (IntKind.u64.wrap (q12 - (1:Int)))))))),(16,.x (.one (.p (.val (.int .u64 rhat5)))))],mkH []⟩) ?_
              refine lok_rt E0 (⟨135,mkS [(2,.x (.one (.p (.val (.int .u64 (bShl .u64 y (IntKind.u64.wrap y1))))))),(8,.x (.one (.p (.val (.int .u64 (IntKind.u64.wrap y1)))))),(9,.x (.one (.p (.val (.int .u64 (bShr .u64 (bShl .u64 y (IntKind.u64.wrap y1)) (32:Int))))))),(10,.x (.one (.p (.val (.int .u64 (bAnd .u64 (bShl .u64 y (IntKind.u64.wrap y1)) (4294967295:Int))))))),(11,.x (.one (.p (.val (.int .u64 un32))))),(13,.x (.one (.p (.val (.int .u64 (bShr .u64 (bShl .u64 lo (IntKind.u64.wrap y1)) (32:Int))))))),(14,.x (.one (.p (.val (.int .u64 (bAnd .u64 (bShl .u64 lo (IntKind.u64.wrap y1)) (4294967295:Int))))))),(15,.x (.one (.p (.val (.int .u64 (IntKind.u64.wrap (q12 - (1:Int)))))))),(16,.x (.one (.p (.val (.int .u64 rhat5))))),(85,.x (.one (.p (.val (.bool (decide ((4294967296:Int) ≤ rhat5)))))))],mkH []⟩) ?_
              refine lok_c (decide ((4294967296:Int) ≤ rhat5)) ?_ ?_
              · intro b_18
                replace H1:=cpos H1 b_18
                refine lok_exit ?_
                try simp only [thenL,blockL,↓reduceIte,reduceCtorEq]
                have e_1:=k_1 _ (Option.some.inj H1).symm
                subst e_1
                try dsimp only at H0
                try simp only [thenL,blockL,↓reduceIte,reduceCtorEq]
                exact ⟨(IntKind.u64.wrap (q12 - (1:Int))),H0,imp_au⟩
              · intro b_18
                replace H1:=cneg H1 b_18
                refine lok_skip ?_
                try simp only [thenL,blockL,↓reduceIte,reduceCtorEq]
                exact ⟨((IntKind.u64.wrap (q12 - (1:Int))),rhat5),(Option.some.inj H1).symm,imp_au⟩
            · intro b_19
              replace H1:=cneg H1 b_19
              refine lok_exit ?_
              try simp only [thenL,blockL,↓reduceIte,reduceCtorEq]
              have e_1:=k_1 _ (Option.some.inj H1).symm
              subst e_1
              try dsimp only at H0
              try simp only [thenL,blockL,↓reduceIte,reduceCtorEq]
              exact ⟨q12,H0,imp_au⟩
    case hxbits_Div64_j5 =>
      refine lok_rt E0 (⟨135,mkS [(0,.x (.one (.p (.val (.int .u64 hi))))),(1,.x (.one (.p (.val (.int .u64 lo))))),(2,.x (.one (.p (.val (.int .u64 y))))),(24,.x (.one (.p (.val (.bool (decide (y ≤ hi)))))))],mkH []⟩) ?_
      refine lok_c (decide (y ≤ hi)) ?_ ?_
      · intro b_26
        replace H0:=cpos H0 b_26
        cases H0
      · intro b_26
        replace H0:=cneg H0 b_26
        refine lok_skip ?_
        try simp only [thenL,blockL,↓reduceIte,reduceCtorEq]
        exact ⟨(),H0,imp_au⟩
  case hxbits_Div64_j6 =>
    refine lok_rt E0 (⟨135,mkS [(0,.x (.one (.p (.val (.int .u64 hi))))),(1,.x (.one (.p (.val (.int .u64 lo))))),(2,.x (.one (.p (.val (.int .u64 y))))),(20,.x (.one (.p (.val (.bool (y == (0:Int)))))))],mkH []⟩) ?_
    refine lok_c (y == (0:Int)) ?_ ?_
    · intro b_27
      replace H0:=cpos H0 b_27
      cases H0
    · intro b_27
      replace H0:=cneg H0 b_27
      refine lok_skip ?_
      try simp only [thenL,blockL,↓reduceIte,reduceCtorEq]
      exact ⟨(),H0,imp_au⟩
theorem ok_bits_Rem64 (hi:Int) (lo:Int) (y:Int) (r_:Int) (H0 : bits_Rem64 hi lo y = some r_) : CallOK Try.prog 104 [.one (.p (.val (.int .u64 hi))),.one (.p (.val (.int .u64 lo))),.one (.p (.val (.int .u64 y)))] [] [.one (.p (.val (.int .u64 r_)))] []:=by
  refine callOK (n:=19) (rs:=[.tmp 6]) (nb:=0) (V:=[]) Try.func104 rfl (by kernel_rfl) rfl rfl rfl rfl (Nat.le_of_ble_eq_true rfl) (by decide) ?_
  unfold bits_Rem64 at H0
  refine lok_rt E0 (⟨19,mkS [(0,.x (.one (.p (.val (.int .u64 hi))))),(1,.x (.one (.p (.val (.int .u64 lo))))),(2,.x (.one (.p (.val (.int .u64 y)))))],mkH []⟩) ?_
  replace H0:=req_some H0
  obtain ⟨q_1,H0⟩:=H0
  replace H0:=bind_some H0
  obtain ⟨⟨y1,y2⟩,h_0,H0⟩:=H0
  try dsimp only at H0
  refine lok_rt (Env.of E0 [⟨some 15,105,[.one (.p (.val (.int .u64 (Int.tmod hi y)))),.one (.p (.val (.int .u64 lo))),.one (.p (.val (.int .u64 y)))],[],[.one (.p (.val (.int .u64 y1))),.one (.p (.val (.int .u64 y2)))],[],True,fun _ => ok_bits_Div64 (Int.tmod hi y) lo y (y1,y2) h_0,[]⟩]) (⟨19,mkS [(8,.x (.one (.p (.val (.int .u64 y2)))))],mkH []⟩) ?_
  refine lok_rt E0 (⟨19,mkS [(6,.x (.one (.p (.val (.int .u64 y2)))))],mkH []⟩) ?_
  refine lok_ret ?_
  obtain rfl:=Option.some.inj H0
  try simp only [thenL,blockL]
  exact fin_au _ (.inr rfl) [] (⟨19,mkS [(6,.x (.one (.p (.val (.int .u64 y2)))))],mkH []⟩) rfl rfl imp_au
theorem ok_ratio_wide_mod (a : ratio_wide) (d:Int) (r_:Int) (H0 : ratio_wide_mod a d = some r_) : CallOK Try.prog 82 [.agg [.p (.val (.int .u64 a.hi)),.p (.val (.int .u64 a.lo))],.one (.p (.val (.int .u64 d)))] [] [.one (.p (.val (.int .u64 r_)))] []:=by
  refine callOK (n:=11) (rs:=[.tmp 4]) (nb:=0) (V:=[]) Try.func82 rfl (by kernel_rfl) rfl rfl rfl rfl (Nat.le_of_ble_eq_true rfl) (by decide) ?_
  unfold ratio_wide_mod at H0
  refine lok_rt E0 (⟨11,mkS [(1,.x (.one (.p (.val (.int .u64 d))))),(2,.x (.one (.ptr 102 0)))],mkH [(102,.var [.p (.val (.int .u64 a.hi)),.p (.val (.int .u64 a.lo))])]⟩) ?_
  replace H0:=bind_some H0
  obtain ⟨y,h_0,H0⟩:=H0
  refine lok_rt (Env.of E0 [⟨some 10,104,[.one (.p (.val (.int .u64 a.hi))),.one (.p (.val (.int .u64 a.lo))),.one (.p (.val (.int .u64 d)))],[],[.one (.p (.val (.int .u64 y)))],[],True,fun _ => ok_bits_Rem64 a.hi a.lo d y h_0,[]⟩]) (⟨11,mkS [(4,.x (.one (.p (.val (.int .u64 y)))))],mkH []⟩) ?_
  refine lok_ret ?_
  obtain rfl:=Option.some.inj H0
  try simp only [thenL,blockL]
  exact fin_au _ (.inr rfl) [] (⟨11,mkS [(4,.x (.one (.p (.val (.int .u64 y)))))],mkH []⟩) rfl rfl imp_au
theorem ok_ratio_fitted (neg : Bool) (num : ratio_wide) (den : ratio_wide) (r_ : api_Ratio × Int) (H0 : ratio_fitted neg num den = some r_) : CallOK Try.prog 83 [.one (.p (.val (.bool neg))),.agg [.p (.val (.int .u64 num.hi)),.p (.val (.int .u64 num.lo))],.agg [.p (.val (.int .u64 den.hi)),.p (.val (.int .u64 den.lo))]] [] [.agg [.p (pi r_.1.Num),.p (pi r_.1.Den)],.one (.p (pi r_.2))] []:=by
  refine callOK (n:=39) (rs:=[.cell 6 36,.tmp 7]) (nb:=0) (V:=[]) Try.func83 rfl (by kernel_rfl) rfl rfl rfl rfl (Nat.le_of_ble_eq_true rfl) (by decide) ?_
  unfold ratio_fitted at H0
  refine lok_rt E0 (⟨39,mkS [(0,.x (.one (.p (.val (.bool neg))))),(4,.x (.one (.ptr 104 0))),(5,.x (.one (.ptr 105 0))),(6,.x (.one (.ptr 106 0)))],mkH [(104,.var [.p (.val (.int .u64 num.hi)),.p (.val (.int .u64 num.lo))]),(105,.var [.p (.val (.int .u64 den.hi)),.p (.val (.int .u64 den.lo))]),(106,.var [.p (pi (0:Int)),.p (pi (0:Int))])]⟩) ?_
  refine lok_seq ?_
  refine lok_rt E0 (⟨39,mkS [(0,.x (.one (.p (.val (.bool neg))))),(4,.x (.one (.ptr 104 0))),(5,.x (.one (.ptr 105 0))),(6,.x (.one (.ptr 106 0))),(26,.x (.one (.p (.val (.bool ((((num.hi != (0:Int)) || (den.hi != (0:Int))) || (decide ((1152921504606846976:Int) < num.lo))) || (decide ((1152921504606846976:Int) < den.lo))))))))],mkH [(104,.var [.p (.val (.int .u64 num.hi)),.p (.val (.int .u64 num.lo))]),(105,.var [.p (.val (.int .u64 den.hi)),.p (.val (.int .u64 den.lo))]),(106,.var [.p (pi (0:Int)),.p (pi (0:Int))])]⟩) ?_
  refine lok_c ((((num.hi != (0:Int)) || (den.hi != (0:Int))) || (decide ((1152921504606846976:Int) < num.lo))) || (decide ((1152921504606846976:Int) < den.lo))) ?_ ?_
  · intro b_1
    replace H0:=cpos H0 b_1
    refine lok_rt E0 (⟨39,mkS [(6,.x (.one (.ptr 106 0))),(7,.x (.one (.p (pi (6:Int)))))],mkH [(106,.var [.p (pi (0:Int)),.p (pi (0:Int))])]⟩) ?_
    refine lok_ret ?_
    obtain rfl:=Option.some.inj H0
    try simp only [thenL,blockL]
    exact fin_au _ (.inr rfl) [] (⟨39,mkS [(6,.x (.one (.ptr 106 0))),(7,.x (.one (.p (pi (6:Int)))))],mkH [(106,.var [.p (pi (0:Int)),.p (pi (0:Int))])]⟩) rfl rfl imp_au
  · intro b_1
    replace H0:=cneg H0 b_1
    refine lok_skip ?_
    try simp only [thenL,blockL,↓reduceIte,reduceCtorEq]
    refine lok_rt E0 (⟨39,mkS [(0,.x (.one (.p (.val (.bool neg))))),(5,.x (.one (.ptr 105 0))),(6,.x (.one (.ptr 106 0))),(8,.x (.one (.p (pi (IntKind.i64.wrap num.lo)))))],mkH [(105,.var [.p (.val (.int .u64 den.hi)),.p (.val (.int .u64 den.lo))]),(106,.var [.p (pi (0:Int)),.p (pi (0:Int))])]⟩) ?_
    refine lok_join (fun x_ : Int => ratio_fitted_j1 den x_ = some r_) (fun x_ => ⟨39,mkS [(5,.x (.one (.ptr 105 0))),(6,.x (.one (.ptr 106 0))),(8,.x (.one (.p (pi x_))))],mkH [(105,.var [.p (.val (.int .u64 den.hi)),.p (.val (.int .u64 den.lo))]),(106,.var [.p (pi (0:Int)),.p (pi (0:Int))])]⟩) ?hyratio_fitted_j1 ?hxratio_fitted_j1
    case hyratio_fitted_j1 =>
      rintro n H0
      try dsimp only at H0 ⊢
      unfold ratio_fitted_j1 at H0
      refine lok_rt E0 (⟨39,mkS [(6,.x (.one (.ptr 106 0))),(7,.x (.one (.p (pi (0:Int)))))],mkH [(106,.var [.p (pi n),.p (pi (IntKind.i64.wrap den.lo))])]⟩) ?_
      refine lok_ret ?_
      obtain rfl:=Option.some.inj H0
      try simp only [thenL,blockL]
      exact fin_au _ (.inr rfl) [] (⟨39,mkS [(6,.x (.one (.ptr 106 0))),(7,.x (.one (.p (pi (0:Int)))))],mkH [(106,.var [.p (pi n),.p (pi (IntKind.i64.wrap den.lo))])]⟩) rfl rfl imp_au
    case hxratio_fitted_j1 =>
      refine lok_rt E0 (⟨39,mkS [(5,.x (.one (.ptr 105 0))),(6,.x (.one (.ptr 106 0))),(8,.x (.one (.p (pi (IntKind.i64.wrap num.lo))))),(31,.x (.one (.p (.val (.bool neg)))))],mkH [(105,.var [.p (.val (.int .u64 den.hi)),.p (.val (.int .u64 den.lo))]),(106,.var [.p (pi (0:Int)),.p (pi (0:Int))])]⟩) ?_
      refine lok_c neg ?_ ?_
      · intro b_0
        replace H0:=cpos H0 b_0
        refine lok_rl E0 (⟨39,mkS [(5,.x (.one (.ptr 105 0))),(6,.x (.one (.ptr 106 0))),(8,.x (.one (.p (pi (IntKind.i64.wrap (0 - (IntKind.i64.wrap num.lo)))))))],mkH [(105,.var [.p (.val (.int .u64 den.hi)),.p (.val (.int .u64 den.lo))]),(106,.var [.p (pi (0:Int)),.p (pi (0:Int))])]⟩) ?_
        try simp only [thenL,blockL,↓reduceIte,reduceCtorEq]
        exact ⟨(IntKind.i64.wrap (0 - (IntKind.i64.wrap num.lo))),H0,imp_au⟩
      · intro b_0
        replace H0:=cneg H0 b_0
        refine lok_skip ?_
        try simp only [thenL,blockL,↓reduceIte,reduceCtorEq]
        exact ⟨(IntKind.i64.wrap num.lo),H0,imp_au⟩
theorem ok_ratio_wide_over (a : ratio_wide) (d:Int) (r_ : ratio_wide) (H0 : ratio_wide_over a d = some r_) : CallOK Try.prog 84 [.agg [.p (.val (.int .u64 a.hi)),.p (.val (.int .u64 a.lo))],.one (.p (.val (.int .u64 d)))] [] [.agg [.p (.val (.int .u64 r_.hi)),.p (.val (.int .u64 r_.lo))]] []:=by
  refine callOK (n:=28) (rs:=[.cell 4 113]) (nb:=0) (V:=[]) Try.func84 rfl (by kernel_rfl) rfl rfl rfl rfl (Nat.le_of_ble_eq_true rfl) (by decide) ?_
  unfold ratio_wide_over at H0
  refine lok_rt E0 (⟨28,mkS [(1,.x (.one (.p (.val (.int .u64 d))))),(2,.x (.one (.ptr 102 0))),(4,.x (.one (.ptr 104 0)))],mkH [(102,.var [.p (.val (.int .u64 a.hi)),.p (.val (.int .u64 a.lo))]),(104,.var [.p (.val (.int .u64 (0:Int))),.p (.val (.int .u64 (0:Int)))])]⟩) ?_
  replace H0:=req_some H0
  obtain ⟨q_1,H0⟩:=H0
  refine lok_dt E0 9 (⟨28,mkS [(1,.x (.one (.p (.val (.int .u64 d))))),(2,.x (.one (.ptr 102 0))),(4,.x (.one (.ptr 104 0))),(5,.x (.one (.p (.val (.int .u64 (IntKind.u64.wrap (Int.tdiv a.hi d))))))),(6,.x (.one (.p (.val (.int .u64 (Int.tmod a.hi d))))))],mkH [(102,.var [.p (.val (.int .u64 a.hi)),.p (.val (.int .u64 a.lo))]),(104,.var [.p (.val (.int .u64 (0:Int))),.p (.val (.int .u64 (0:Int)))])]⟩) (by kernel_rfl) (by kernel_rfl) ?_
  replace H0:=bind_some H0
  obtain ⟨⟨y,y1⟩,h_0,H0⟩:=H0
  try dsimp only at H0
  refine lok_rt (Env.of E0 [⟨some 22,105,[.one (.p (.val (.int .u64 (Int.tmod a.hi d)))),.one (.p (.val (.int .u64 a.lo))),.one (.p (.val (.int .u64 d)))],[],[.one (.p (.val (.int .u64 y))),.one (.p (.val (.int .u64 y1)))],[],True,fun _ => ok_bits_Div64 (Int.tmod a.hi d) a.lo d (y,y1) h_0,[]⟩]) (⟨28,mkS [(4,.x (.one (.ptr 104 0))),(5,.x (.one (.p (.val (.int .u64 (IntKind.u64.wrap (Int.tdiv a.hi d))))))),(7,.x (.one (.p (.val (.int .u64 y)))))],mkH [(104,.var [.p (.val (.int .u64 (0:Int))),.p (.val (.int .u64 (0:Int)))])]⟩) ?_
  refine lok_rt E0 (⟨28,mkS [(4,.x (.one (.ptr 104 0)))],mkH [(104,.var [.p (.val (.int .u64 (IntKind.u64.wrap (Int.tdiv a.hi d)))),.p (.val (.int .u64 y))])]⟩) ?_
  refine lok_ret ?_
  obtain rfl:=Option.some.inj H0
  try simp only [thenL,blockL]
  exact fin_au _ (.inr rfl) [] (⟨28,mkS [(4,.x (.one (.ptr 104 0)))],mkH [(104,.var [.p (.val (.int .u64 (IntKind.u64.wrap (Int.tdiv a.hi d)))),.p (.val (.int .u64 y))])]⟩) rfl rfl imp_au
theorem ok_ratio_reduced (num : ratio_signed) (den:Int) (r_ : api_Ratio × Int) (H0 : ratio_reduced num den = some r_) : CallOK Try.prog 76 [.agg [.p (.val (.bool num.neg)),.p (.val (.int .u64 num.abs.hi)),.p (.val (.int .u64 num.abs.lo))],.one (.p (.val (.int .u64 den)))] [] [.agg [.p (pi r_.1.Num),.p (pi r_.1.Den)],.one (.p (pi r_.2))] []:=by
  refine callOK (n:=26) (rs:=[.cell 4 36,.tmp 5]) (nb:=0) (V:=[]) Try.func76 rfl (by kernel_rfl) rfl rfl rfl rfl (Nat.le_of_ble_eq_true rfl) (by decide) ?_
  unfold ratio_reduced at H0
  refine lok_rt E0 (⟨26,mkS [(1,.x (.one (.p (.val (.int .u64 den))))),(2,.x (.one (.ptr 102 0))),(4,.x (.one (.ptr 104 0)))],mkH [(102,.var [.p (.val (.bool num.neg)),.p (.val (.int .u64 num.abs.hi)),.p (.val (.int .u64 num.abs.lo))]),(104,.var [.p (pi (0:Int)),.p (pi (0:Int))])]⟩) ?_
  replace H0:=bind_some H0
  obtain ⟨y,h_0,H0⟩:=H0
  replace H0:=bind_some H0
  obtain ⟨y1,h_1,H0⟩:=H0
  refine lok_rt (Env.of E0 [⟨some 10,82,[.agg [.p (.val (.int .u64 num.abs.hi)),.p (.val (.int .u64 num.abs.lo))],.one (.p (.val (.int .u64 den)))],[],[.one (.p (.val (.int .u64 y)))],[],True,fun _ => ok_ratio_wide_mod num.abs den y h_0,[]⟩,
      ⟨some 12,79,[.one (.p (.val (.int .u64 y))),.one (.p (.val (.int .u64 den)))],[],[.one (.p (.val (.int .u64 y1)))],[],True,fun _ => ok_ratio_gcd y den y1 h_1,[]⟩]) (⟨26,mkS [(1,.x (.one (.p (.val (.int .u64 den))))),(2,.x (.one (.ptr 102 0))),(4,.x (.one (.ptr 104 0))),(6,.x (.one (.p (.val (.int .u64 y1)))))],mkH [(102,.var [.p (.val (.bool num.neg)),.p (.val (.int .u64 num.abs.hi)),.p (.val (.int .u64 num.abs.lo))]),(104,.var [.p (pi (0:Int)),.p (pi (0:Int))])]⟩) ?_
  replace H0:=bind_some H0
  obtain ⟨y2,h_2,H0⟩:=H0
  replace H0:=req_some H0
  obtain ⟨q_4,H0⟩:=H0
  replace H0:=bind_some H0
  obtain ⟨⟨y3,y4⟩,h_3,H0⟩:=H0
  try dsimp only at H0
  refine lok_dt (Env.of E0 [⟨some 18,84,[.agg [.p (.val (.int .u64 num.abs.hi)),.p (.val (.int .u64 num.abs.lo))],.one (.p (.val (.int .u64 y1)))],[],[.agg [.p (.val (.int .u64 y2.hi)),.p (.val (.int .u64 y2.lo))]],[],True,fun _ => ok_ratio_wide_over num.abs y1 y2 h_2,[]⟩,
      ⟨some 23,83,[.one (.p (.val (.bool num.neg))),.agg [.p (.val (.int .u64 y2.hi)),.p (.val (.int .u64 y2.lo))],.agg [.p (.val (.int .u64 (0:Int))),.p (.val (.int .u64 (IntKind.u64.wrap (Int.tdiv den y1))))]],[],[.agg [.p (pi y3.Num),.p (pi y3.Den)],.one (.p (pi y4))],[],True,fun _ => ok_ratio_fitted num.neg y2 (ratio_wide.mk (0:Int) (IntKind.u64.wrap (Int.tdiv den y1))) (y3,y4) h_3,[]⟩]) 13 (⟨26,mkS [(4,.x (.one (.ptr 104 0))),(5,.x (.one (.p (pi y4))))],mkH [(104,.var [.p (pi y3.Num),.p (pi y3.Den)])]⟩) (by kernel_rfl) (by kernel_rfl) ?_
  refine lok_ret ?_
  obtain rfl:=Option.some.inj H0
  try simp only [thenL,blockL]
  exact fin_au _ (.inr rfl) [] (⟨26,mkS [(4,.x (.one (.ptr 104 0))),(5,.x (.one (.p (pi y4))))],mkH [(104,.var [.p (pi y3.Num),.p (pi y3.Den)])]⟩) rfl rfl imp_au
end Go.LS
