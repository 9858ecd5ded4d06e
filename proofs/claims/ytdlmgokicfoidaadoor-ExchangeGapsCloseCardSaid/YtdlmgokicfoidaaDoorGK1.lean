/-
  The walks: the functions compute what the plain ones say. Condition: the plain function has a value.
-/
import Derived.Test.YtdlmgokicfoidaaDoorGK0
import Derived.Test.YtdlmgokicfoidaaDoorGD1
namespace Go.LS
open Go.Proofs
set_option linter.all false
set_option linter.unusedSimpArgs false
set_option linter.unusedVariables false
set_option maxRecDepth 200000

theorem ok_make_New (l:List Int) (r_:make_Tape) (H0:make_New l=some r_):CallOK Tryd.prog 13 [.one (.p (.sl 1 (List.map encI l)))] [] [.one (.ptr 0 0)] [some (.var [.p (.sl 1 (List.map encI r_.L)),.p (pi r_.At)])]:=by
  refine callOK (n:=11) (rs:=[.tmp 2]) (nb:=0) (V:=[]) Tryd.func13 rfl (by kernel_rfl) rfl rfl rfl rfl (Nat.le_of_ble_eq_true rfl) (by decide) ?_
  unfold make_New at H0
  refine lok_rt E0 (⟨11,mkS [(0,.x (.one (.p (.sl 1 (List.map encI l)))))],mkH []⟩) ?_
  refine lok_join (fun x_:(List Int) => make_New_j1 x_=some r_) (fun x_ => ⟨11,mkS [(0,.x (.one (.p (.sl 1 (List.map encI x_)))))],mkH []⟩) ?hymake_New_j1 ?hxmake_New_j1
  case hymake_New_j1 =>
    rintro l1 H0
    try dsimp only at H0 ⊢
    unfold make_New_j1 at H0
    refine lok_rt E0 (⟨11,mkS [(2,.x (.one (.ptr 110 0)))],mkH [(110,.var [.p (.sl 1 (List.map encI l1)),.p (pi (0:Int))])]⟩) ?_
    refine lok_ret ?_
    try obtain rfl:=Option.some.inj H0
    try simp only [thenL,blockL]
    exact fin_nu [110] _ (.inr rfl) [110] (⟨11,mkS [(2,.x (.one (.ptr 110 0)))],mkH [(110,.var [.p (.sl 1 (List.map encI l1)),.p (pi (0:Int))])]⟩) rfl rfl imp_au
  case hxmake_New_j1 =>
    refine lok_rt E0 (⟨11,mkS [(0,.x (.one (.p (.sl 1 (List.map encI l))))),(5,.x (.one (.p (.val (.bool (decide ((600:Int)<(l.length:Int))))))))],mkH []⟩) ?_
    refine lok_c (decide ((600:Int)<(l.length:Int))) ?_ ?_
    · intro b_1
      replace H0:=cpos H0 b_1
      replace H0:=req_some H0
      obtain ⟨q_0,H0⟩:=H0
      refine lok_rl E0 (⟨11,mkS [(0,.x (.one (.p (.sl 1 (List.map encI (List.take (600:Int).toNat l))))))],mkH []⟩) ?_
      try simp only [thenL,blockL,↓reduceIte,reduceCtorEq]
      exact ⟨(List.take (600:Int).toNat l),H0,imp_au⟩
    · intro b_1
      replace H0:=cneg H0 b_1
      refine lok_skip ?_
      try simp only [thenL,blockL,↓reduceIte,reduceCtorEq]
      exact ⟨l,H0,imp_au⟩
theorem ok_exchange_validHead (kind:Str) (source:Int) (number:Int) (r_:Bool) (H0:exchange_validHead kind source number=some r_):CallOK Tryd.prog 44 [.one (.p (.val (.string (bs kind)))),.one (.p (pi source)),.one (.p (pi number))] [] [.one (.p (.val (.bool r_)))] []:=by
  refine callOK (n:=46) (rs:=[.tmp 6]) (nb:=0) (V:=[]) Tryd.func44 rfl (by kernel_rfl) rfl rfl rfl rfl (Nat.le_of_ble_eq_true rfl) (by decide) ?_
  unfold exchange_validHead at H0
  refine lok_rt E0 (⟨46,mkS [(0,.x (.one (.p (.val (.string (bs kind)))))),(1,.x (.one (.p (pi source)))),(2,.x (.one (.p (pi number))))],mkH []⟩) ?_
  refine lok_seq ?_
  refine lok_rt E0 (⟨46,mkS [(0,.x (.one (.p (.val (.string (bs kind)))))),(1,.x (.one (.p (pi source)))),(2,.x (.one (.p (pi number)))),(15,.x (.one (.p (.val (.bool ((decide ((kind.length:Int)<(1:Int)))||(decide ((8:Int)<(kind.length:Int)))))))))],mkH []⟩) ?_
  refine lok_c ((decide ((kind.length:Int)<(1:Int)))||(decide ((8:Int)<(kind.length:Int)))) ?_ ?_
  · intro b_5
    replace H0:=cpos H0 b_5
    refine lok_rt E0 (⟨46,mkS [(6,.x (.one (.p (.val (.bool false)))))],mkH []⟩) ?_
    refine lok_ret ?_
    try obtain rfl:=Option.some.inj H0
    try simp only [thenL,blockL]
    exact fin_au _ (.inr rfl) [] (⟨46,mkS [(6,.x (.one (.p (.val (.bool false)))))],mkH []⟩) rfl rfl imp_au
  · intro b_5
    replace H0:=cneg H0 b_5
    refine lok_skip ?_
    try simp only [thenL,blockL,↓reduceIte,reduceCtorEq]
    refine lok_join (fun x_:Unit => exchange_validHead_j1 source number=some r_) (fun x_ => ⟨46,mkS [(1,.x (.one (.p (pi source)))),(2,.x (.one (.p (pi number))))],mkH []⟩) ?hyexchange_validHead_j1 ?hxexchange_validHead_j1
    case hyexchange_validHead_j1 =>
      rintro _ H0
      try dsimp only at H0 ⊢
      unfold exchange_validHead_j1 at H0
      refine lok_rt E0 (⟨46,mkS [(6,.x (.one (.p (.val (.bool ((((decide ((0:Int)≤source))&&(decide (source≤(99:Int))))&&(decide ((0:Int)≤number)))&&(decide (number≤(9999:Int)))))))))],mkH []⟩) ?_
      refine lok_ret ?_
      try obtain rfl:=Option.some.inj H0
      try simp only [thenL,blockL]
      exact fin_au _ (.inr rfl) [] (⟨46,mkS [(6,.x (.one (.p (.val (.bool ((((decide ((0:Int)≤source))&&(decide (source≤(99:Int))))&&(decide ((0:Int)≤number)))&&(decide (number≤(9999:Int)))))))))],mkH []⟩) rfl rfl imp_au
    case hxexchange_validHead_j1 =>
      refine lok_rt E0 (⟨46,mkS [(0,.x (.one (.p (.val (.string (bs kind)))))),(1,.x (.one (.p (pi source)))),(2,.x (.one (.p (pi number)))),(7,.x (.one (.p (pi (0:Int)))))],mkH []⟩) ?_
      refine lok_block ?_
      replace H0:=bind_some H0
      obtain ⟨v_0,hv_0,H0⟩:=H0
      refine lok_iter (fun x_ => ⟨46,mkS [(0,.x (.one (.p (.val (.string (bs kind)))))),(1,.x (.one (.p (pi source)))),(2,.x (.one (.p (pi number)))),(7,.x (.one (.p (pi x_))))],mkH []⟩) hv_0 imp_au ?_
      · rintro i o_1 H1 k_1
        unfold exchange_validHead_l2 at H1
        try dsimp only at H1 ⊢
        refine lok_seq ?_
        refine lok_rt E0 (⟨46,mkS [(0,.x (.one (.p (.val (.string (bs kind)))))),(1,.x (.one (.p (pi source)))),(2,.x (.one (.p (pi number)))),(7,.x (.one (.p (pi i)))),(19,.x (.one (.p (.val (.bool (decide (i<(kind.length:Int))))))))],mkH []⟩) ?_
        refine lok_c (decide (i<(kind.length:Int))) ?_ ?_
        · intro b_4
          replace H1:=cpos H1 b_4
          refine lok_skip ?_
          try simp only [thenL,blockL,↓reduceIte,reduceCtorEq]
          refine lok_seq ?_
          refine lok_block ?_
          replace H1:=req_some H1
          obtain ⟨⟨q_2,q_3⟩,H1⟩:=H1
          refine lok_rt E0 (⟨46,mkS [(0,.x (.one (.p (.val (.string (bs kind)))))),(1,.x (.one (.p (pi source)))),(2,.x (.one (.p (pi number)))),(7,.x (.one (.p (pi i)))),(31,.x (.one (.p (.val (.bool ((decide ((sx kind i)<(65:Int)))||(decide ((90:Int)<(sx kind i)))))))))],mkH []⟩) ?_
          refine lok_c ((decide ((sx kind i)<(65:Int)))||(decide ((90:Int)<(sx kind i)))) ?_ ?_
          · intro b_1
            replace H1:=cpos H1 b_1
            refine lok_rt E0 (⟨46,mkS [(6,.x (.one (.p (.val (.bool false)))))],mkH []⟩) ?_
            refine lok_ret ?_
            try simp only [thenL,blockL,↓reduceIte,reduceCtorEq]
            have e_1:=k_1 _ (Option.some.inj H1).symm
            subst e_1
            try dsimp only at H0
            try obtain rfl:=Option.some.inj H0
            try simp only [thenL,blockL]
            exact fin_au _ (.inr rfl) [] (⟨46,mkS [(6,.x (.one (.p (.val (.bool false)))))],mkH []⟩) rfl rfl imp_au
          · intro b_1
            replace H1:=cneg H1 b_1
            refine lok_skip ?_
            try simp only [thenL,blockL,↓reduceIte,reduceCtorEq]
            refine lok_rl E0 (⟨46,mkS [(0,.x (.one (.p (.val (.string (bs kind)))))),(1,.x (.one (.p (pi source)))),(2,.x (.one (.p (pi number)))),(7,.x (.one (.p (pi (IntKind.i64.wrap (i+(1:Int)))))))],mkH []⟩) ?_
            try simp only [thenL,blockL,↓reduceIte,reduceCtorEq]
            exact ⟨(IntKind.i64.wrap (i+(1:Int))),(Option.some.inj H1).symm,imp_au⟩
        · intro b_4
          replace H1:=cneg H1 b_4
          refine lok_exit ?_
          try simp only [thenL,blockL,↓reduceIte,reduceCtorEq]
          have e_1:=k_1 _ (Option.some.inj H1).symm
          subst e_1
          try dsimp only at H0
          try simp only [thenL,blockL,↓reduceIte,reduceCtorEq]
          exact ⟨(),H0,imp_au⟩
theorem ok_exchange_validField (field:Str) (r_:Bool) (H0:exchange_validField field=some r_):CallOK Tryd.prog 45 [.one (.p (.val (.string (bs field))))] [] [.one (.p (.val (.bool r_)))] []:=by
  refine callOK (n:=27) (rs:=[.tmp 2]) (nb:=0) (V:=[]) Tryd.func45 rfl (by kernel_rfl) rfl rfl rfl rfl (Nat.le_of_ble_eq_true rfl) (by decide) ?_
  unfold exchange_validField at H0
  refine lok_rt E0 (⟨27,mkS [(0,.x (.one (.p (.val (.string (bs field))))))],mkH []⟩) ?_
  refine lok_seq ?_
  refine lok_rt E0 (⟨27,mkS [(0,.x (.one (.p (.val (.string (bs field)))))),(7,.x (.one (.p (.val (.bool (decide ((40:Int)<(field.length:Int))))))))],mkH []⟩) ?_
  refine lok_c (decide ((40:Int)<(field.length:Int))) ?_ ?_
  · intro b_4
    replace H0:=cpos H0 b_4
    refine lok_rt E0 (⟨27,mkS [(2,.x (.one (.p (.val (.bool false)))))],mkH []⟩) ?_
    refine lok_ret ?_
    try obtain rfl:=Option.some.inj H0
    try simp only [thenL,blockL]
    exact fin_au _ (.inr rfl) [] (⟨27,mkS [(2,.x (.one (.p (.val (.bool false)))))],mkH []⟩) rfl rfl imp_au
  · intro b_4
    replace H0:=cneg H0 b_4
    refine lok_skip ?_
    try simp only [thenL,blockL,↓reduceIte,reduceCtorEq]
    refine lok_join (fun x_:Unit => exchange_validField_j1=some r_) (fun x_ => ⟨27,mkS [],mkH []⟩) ?hyexchange_validField_j1 ?hxexchange_validField_j1
    case hyexchange_validField_j1 =>
      rintro _ H0
      try dsimp only at H0 ⊢
      unfold exchange_validField_j1 at H0
      refine lok_rt E0 (⟨27,mkS [(2,.x (.one (.p (.val (.bool true)))))],mkH []⟩) ?_
      refine lok_ret ?_
      try obtain rfl:=Option.some.inj H0
      try simp only [thenL,blockL]
      exact fin_au _ (.inr rfl) [] (⟨27,mkS [(2,.x (.one (.p (.val (.bool true)))))],mkH []⟩) rfl rfl imp_au
    case hxexchange_validField_j1 =>
      refine lok_rt E0 (⟨27,mkS [(0,.x (.one (.p (.val (.string (bs field)))))),(3,.x (.one (.p (pi (0:Int)))))],mkH []⟩) ?_
      refine lok_block ?_
      replace H0:=bind_some H0
      obtain ⟨v_0,hv_0,H0⟩:=H0
      refine lok_iter (fun x_ => ⟨27,mkS [(0,.x (.one (.p (.val (.string (bs field)))))),(3,.x (.one (.p (pi x_))))],mkH []⟩) hv_0 imp_au ?_
      · rintro i o_1 H1 k_1
        unfold exchange_validField_l2 at H1
        try dsimp only at H1 ⊢
        refine lok_seq ?_
        refine lok_rt E0 (⟨27,mkS [(0,.x (.one (.p (.val (.string (bs field)))))),(3,.x (.one (.p (pi i)))),(11,.x (.one (.p (.val (.bool (decide (i<(field.length:Int))))))))],mkH []⟩) ?_
        refine lok_c (decide (i<(field.length:Int))) ?_ ?_
        · intro b_3
          replace H1:=cpos H1 b_3
          refine lok_skip ?_
          try simp only [thenL,blockL,↓reduceIte,reduceCtorEq]
          refine lok_seq ?_
          refine lok_block ?_
          replace H1:=req_some H1
          obtain ⟨q_2,H1⟩:=H1
          refine lok_rt E0 (⟨27,mkS [(0,.x (.one (.p (.val (.string (bs field)))))),(3,.x (.one (.p (pi i)))),(4,.x (.one (.p (.val (.int .u8 (sx field i))))))],mkH []⟩) ?_
          refine lok_rt E0 (⟨27,mkS [(0,.x (.one (.p (.val (.string (bs field)))))),(3,.x (.one (.p (pi i)))),(26,.x (.one (.p (.val (.bool (((sx field i) != (10:Int))&&((decide ((sx field i)<(32:Int)))||(decide ((126:Int)<(sx field i))))))))))],mkH []⟩) ?_
          refine lok_c (((sx field i) != (10:Int))&&((decide ((sx field i)<(32:Int)))||(decide ((126:Int)<(sx field i))))) ?_ ?_
          · intro b_1
            replace H1:=cpos H1 b_1
            refine lok_rt E0 (⟨27,mkS [(2,.x (.one (.p (.val (.bool false)))))],mkH []⟩) ?_
            refine lok_ret ?_
            try simp only [thenL,blockL,↓reduceIte,reduceCtorEq]
            have e_1:=k_1 _ (Option.some.inj H1).symm
            subst e_1
            try dsimp only at H0
            try obtain rfl:=Option.some.inj H0
            try simp only [thenL,blockL]
            exact fin_au _ (.inr rfl) [] (⟨27,mkS [(2,.x (.one (.p (.val (.bool false)))))],mkH []⟩) rfl rfl imp_au
          · intro b_1
            replace H1:=cneg H1 b_1
            refine lok_skip ?_
            try simp only [thenL,blockL,↓reduceIte,reduceCtorEq]
            refine lok_rl E0 (⟨27,mkS [(0,.x (.one (.p (.val (.string (bs field)))))),(3,.x (.one (.p (pi (IntKind.i64.wrap (i+(1:Int)))))))],mkH []⟩) ?_
            try simp only [thenL,blockL,↓reduceIte,reduceCtorEq]
            exact ⟨(IntKind.i64.wrap (i+(1:Int))),(Option.some.inj H1).symm,imp_au⟩
        · intro b_3
          replace H1:=cneg H1 b_3
          refine lok_exit ?_
          try simp only [thenL,blockL,↓reduceIte,reduceCtorEq]
          have e_1:=k_1 _ (Option.some.inj H1).symm
          subst e_1
          try dsimp only at H0
          try simp only [thenL,blockL,↓reduceIte,reduceCtorEq]
          exact ⟨(),H0,imp_au⟩
set_option maxHeartbeats 4000000 in
theorem ok_exchange_Valid (f:api_File) (r_:Bool) (H0:exchange_Valid f=some r_):CallOK Tryd.prog 17 [.agg [.p (.val (.string (bs f.Kind))),.p (pi f.Source),.p (pi f.Number),.p (.sl 1 (List.map encL_encS f.Rows))]] [] [.one (.p (.val (.bool r_)))] []:=by
  refine callOK (n:=47) (rs:=[.tmp 2]) (nb:=0) (V:=[]) Tryd.func17 rfl (by kernel_rfl) rfl rfl rfl rfl (Nat.le_of_ble_eq_true rfl) (by decide) ?_
  unfold exchange_Valid at H0
  refine lok_rt E0 (⟨47,mkS [(1,.x (.one (.ptr 101 0)))],mkH [(101,.var [.p (.val (.string (bs f.Kind))),.p (pi f.Source),.p (pi f.Number),.p (.sl 1 (List.map encL_encS f.Rows))])]⟩) ?_
  refine lok_seq ?_
  replace H0:=bind_some H0
  obtain ⟨y,h_0,H0⟩:=H0
  refine lok_rt (Env.of E0 [⟨some 13,44,[.one (.p (.val (.string (bs f.Kind)))),.one (.p (pi f.Source)),.one (.p (pi f.Number))],[],[.one (.p (.val (.bool y)))],[],True,fun _ => ok_exchange_validHead f.Kind f.Source f.Number y h_0,[]⟩]) (⟨47,mkS [(1,.x (.one (.ptr 101 0))),(20,.x (.one (.p (.val (.bool ((!y)||(decide ((40:Int)<(f.Rows.length:Int)))))))))],mkH [(101,.var [.p (.val (.string (bs f.Kind))),.p (pi f.Source),.p (pi f.Number),.p (.sl 1 (List.map encL_encS f.Rows))])]⟩) ?_
  refine lok_c ((!y)||(decide ((40:Int)<(f.Rows.length:Int)))) ?_ ?_
  · intro b_10
    replace H0:=cpos H0 b_10
    refine lok_rt E0 (⟨47,mkS [(2,.x (.one (.p (.val (.bool false)))))],mkH []⟩) ?_
    refine lok_ret ?_
    try obtain rfl:=Option.some.inj H0
    try simp only [thenL,blockL]
    exact fin_au _ (.inr rfl) [] (⟨47,mkS [(2,.x (.one (.p (.val (.bool false)))))],mkH []⟩) rfl rfl imp_au
  · intro b_10
    replace H0:=cneg H0 b_10
    refine lok_skip ?_
    try simp only [thenL,blockL,↓reduceIte,reduceCtorEq]
    refine lok_join (fun x_:Unit => exchange_Valid_j1=some r_) (fun x_ => ⟨47,mkS [],mkH []⟩) ?hyexchange_Valid_j1 ?hxexchange_Valid_j1
    case hyexchange_Valid_j1 =>
      rintro _ H0
      try dsimp only at H0 ⊢
      unfold exchange_Valid_j1 at H0
      refine lok_rt E0 (⟨47,mkS [(2,.x (.one (.p (.val (.bool true)))))],mkH []⟩) ?_
      refine lok_ret ?_
      try obtain rfl:=Option.some.inj H0
      try simp only [thenL,blockL]
      exact fin_au _ (.inr rfl) [] (⟨47,mkS [(2,.x (.one (.p (.val (.bool true)))))],mkH []⟩) rfl rfl imp_au
    case hxexchange_Valid_j1 =>
      refine lok_rt E0 (⟨47,mkS [(22,.x (.one (.p (.sl 1 (List.map encL_encS f.Rows))))),(23,.x (.one (.p (pi (f.Rows.length:Int))))),(24,.x (.one (.p (pi (0:Int)))))],mkH []⟩) ?_
      refine lok_block ?_
      replace H0:=bind_some H0
      obtain ⟨v_1,hv_1,H0⟩:=H0
      refine lok_iter (fun x_ => ⟨47,mkS [(22,.x (.one (.p (.sl 1 (List.map encL_encS f.Rows))))),(23,.x (.one (.p (pi (f.Rows.length:Int))))),(24,.x (.one (.p (pi x_))))],mkH []⟩) hv_1 imp_au ?_
      · rintro v o_1 H1 k_1
        unfold exchange_Valid_l4 at H1
        try dsimp only at H1 ⊢
        refine lok_rt E0 (⟨47,mkS [(22,.x (.one (.p (.sl 1 (List.map encL_encS f.Rows))))),(23,.x (.one (.p (pi (f.Rows.length:Int))))),(24,.x (.one (.p (pi v)))),(25,.x (.one (.p (.val (.bool (decide (v<(f.Rows.length:Int))))))))],mkH []⟩) ?_
        refine lok_seq ?_
        refine lok_c (decide (v<(f.Rows.length:Int))) ?_ ?_
        · intro b_9
          replace H1:=cpos H1 b_9
          refine lok_skip ?_
          try simp only [thenL,blockL,↓reduceIte,reduceCtorEq]
          refine lok_join (fun x_:Unit => exchange_Valid_j2 v=some o_1) (fun x_ => ⟨47,mkS [(22,.x (.one (.p (.sl 1 (List.map encL_encS f.Rows))))),(23,.x (.one (.p (pi (f.Rows.length:Int))))),(24,.x (.one (.p (pi v))))],mkH []⟩) ?hyexchange_Valid_j2 ?hxexchange_Valid_j2
          case hyexchange_Valid_j2 =>
            rintro _ H1
            try dsimp only at H1 ⊢
            unfold exchange_Valid_j2 at H1
            refine lok_rl E0 (⟨47,mkS [(22,.x (.one (.p (.sl 1 (List.map encL_encS f.Rows))))),(23,.x (.one (.p (pi (f.Rows.length:Int))))),(24,.x (.one (.p (pi (IntKind.i64.wrap (v+(1:Int)))))))],mkH []⟩) ?_
            try simp only [thenL,blockL,↓reduceIte,reduceCtorEq]
            exact ⟨(IntKind.i64.wrap (v+(1:Int))),(Option.some.inj H1).symm,imp_au⟩
          case hxexchange_Valid_j2 =>
            refine lok_block ?_
            replace H1:=req_some H1
            obtain ⟨q_8,H1⟩:=H1
            refine lok_rt E0 (⟨47,mkS [(4,.x (.one (.p (.sl 1 (List.map encS (ix f.Rows v)))))),(22,.x (.one (.p (.sl 1 (List.map encL_encS f.Rows))))),(23,.x (.one (.p (pi (f.Rows.length:Int))))),(24,.x (.one (.p (pi v))))],mkH []⟩) ?_
            refine lok_seq ?_
            refine lok_rt E0 (⟨47,mkS [(4,.x (.one (.p (.sl 1 (List.map encS (ix f.Rows v)))))),(22,.x (.one (.p (.sl 1 (List.map encL_encS f.Rows))))),(23,.x (.one (.p (pi (f.Rows.length:Int))))),(24,.x (.one (.p (pi v)))),(35,.x (.one (.p (.val (.bool ((decide (((ix f.Rows v).length:Int)<(1:Int)))||(decide ((8:Int)<((ix f.Rows v).length:Int)))))))))],mkH []⟩) ?_
            refine lok_c ((decide (((ix f.Rows v).length:Int)<(1:Int)))||(decide ((8:Int)<((ix f.Rows v).length:Int)))) ?_ ?_
            · intro b_7
              replace H1:=cpos H1 b_7
              refine lok_rt E0 (⟨47,mkS [(2,.x (.one (.p (.val (.bool false)))))],mkH []⟩) ?_
              refine lok_ret ?_
              try simp only [thenL,blockL,↓reduceIte,reduceCtorEq]
              have e_1:=k_1 _ (Option.some.inj H1).symm
              subst e_1
              try dsimp only at H0
              try obtain rfl:=Option.some.inj H0
              try simp only [thenL,blockL]
              exact fin_au _ (.inr rfl) [] (⟨47,mkS [(2,.x (.one (.p (.val (.bool false)))))],mkH []⟩) rfl rfl imp_au
            · intro b_7
              replace H1:=cneg H1 b_7
              refine lok_skip ?_
              try simp only [thenL,blockL,↓reduceIte,reduceCtorEq]
              refine lok_rt E0 (⟨47,mkS [(22,.x (.one (.p (.sl 1 (List.map encL_encS f.Rows))))),(23,.x (.one (.p (pi (f.Rows.length:Int))))),(24,.x (.one (.p (pi v)))),(36,.x (.one (.p (.sl 1 (List.map encS (ix f.Rows v)))))),(37,.x (.one (.p (pi ((ix f.Rows v).length:Int))))),(38,.x (.one (.p (pi (0:Int)))))],mkH []⟩) ?_
              refine lok_block ?_
              replace H1:=bind_some H1
              obtain ⟨v_2,hv_2,H1⟩:=H1
              refine lok_iter (fun x_ => ⟨47,mkS [(22,.x (.one (.p (.sl 1 (List.map encL_encS f.Rows))))),(23,.x (.one (.p (pi (f.Rows.length:Int))))),(24,.x (.one (.p (pi v)))),(36,.x (.one (.p (.sl 1 (List.map encS (ix f.Rows v)))))),(37,.x (.one (.p (pi ((ix f.Rows v).length:Int))))),(38,.x (.one (.p (pi x_))))],mkH []⟩) hv_2 imp_au ?_
              · rintro v1 o_2 H2 k_2
                unfold exchange_Valid_l3 at H2
                try dsimp only at H2 ⊢
                refine lok_rt E0 (⟨47,mkS [(22,.x (.one (.p (.sl 1 (List.map encL_encS f.Rows))))),(23,.x (.one (.p (pi (f.Rows.length:Int))))),(24,.x (.one (.p (pi v)))),(36,.x (.one (.p (.sl 1 (List.map encS (ix f.Rows v)))))),(37,.x (.one (.p (pi ((ix f.Rows v).length:Int))))),(38,.x (.one (.p (pi v1)))),(39,.x (.one (.p (.val (.bool (decide (v1<((ix f.Rows v).length:Int))))))))],mkH []⟩) ?_
                refine lok_seq ?_
                refine lok_c (decide (v1<((ix f.Rows v).length:Int))) ?_ ?_
                · intro b_6
                  replace H2:=cpos H2 b_6
                  refine lok_skip ?_
                  try simp only [thenL,blockL,↓reduceIte,reduceCtorEq]
                  refine lok_seq ?_
                  refine lok_block ?_
                  replace H2:=req_some H2
                  obtain ⟨q_5,H2⟩:=H2
                  refine lok_rt E0 (⟨47,mkS [(6,.x (.one (.p (.val (.string (bs (ix (ix f.Rows v) v1))))))),(22,.x (.one (.p (.sl 1 (List.map encL_encS f.Rows))))),(23,.x (.one (.p (pi (f.Rows.length:Int))))),(24,.x (.one (.p (pi v)))),(36,.x (.one (.p (.sl 1 (List.map encS (ix f.Rows v)))))),(37,.x (.one (.p (pi ((ix f.Rows v).length:Int))))),(38,.x (.one (.p (pi v1))))],mkH []⟩) ?_
                  replace H2:=bind_some H2
                  obtain ⟨y1,h_3,H2⟩:=H2
                  refine lok_rt (Env.of E0 [⟨some 43,45,[.one (.p (.val (.string (bs (ix (ix f.Rows v) v1)))))],[],[.one (.p (.val (.bool y1)))],[],True,fun _ => ok_exchange_validField (ix (ix f.Rows v) v1) y1 h_3,[]⟩]) (⟨47,mkS [(22,.x (.one (.p (.sl 1 (List.map encL_encS f.Rows))))),(23,.x (.one (.p (pi (f.Rows.length:Int))))),(24,.x (.one (.p (pi v)))),(36,.x (.one (.p (.sl 1 (List.map encS (ix f.Rows v)))))),(37,.x (.one (.p (pi ((ix f.Rows v).length:Int))))),(38,.x (.one (.p (pi v1)))),(44,.x (.one (.p (.val (.bool (!y1))))))],mkH []⟩) ?_
                  refine lok_c (!y1) ?_ ?_
                  · intro b_4
                    replace H2:=cpos H2 b_4
                    refine lok_rt E0 (⟨47,mkS [(2,.x (.one (.p (.val (.bool false)))))],mkH []⟩) ?_
                    refine lok_ret ?_
                    try simp only [thenL,blockL,↓reduceIte,reduceCtorEq]
                    have e_2:=k_2 _ (Option.some.inj H2).symm
                    subst e_2
                    try dsimp only at H1
                    try simp only [thenL,blockL,↓reduceIte,reduceCtorEq]
                    have e_1:=k_1 _ (Option.some.inj H1).symm
                    subst e_1
                    try dsimp only at H0
                    try obtain rfl:=Option.some.inj H0
                    try simp only [thenL,blockL]
                    exact fin_au _ (.inr rfl) [] (⟨47,mkS [(2,.x (.one (.p (.val (.bool false)))))],mkH []⟩) rfl rfl imp_au
                  · intro b_4
                    replace H2:=cneg H2 b_4
                    refine lok_skip ?_
                    try simp only [thenL,blockL,↓reduceIte,reduceCtorEq]
                    refine lok_rl E0 (⟨47,mkS [(22,.x (.one (.p (.sl 1 (List.map encL_encS f.Rows))))),(23,.x (.one (.p (pi (f.Rows.length:Int))))),(24,.x (.one (.p (pi v)))),(36,.x (.one (.p (.sl 1 (List.map encS (ix f.Rows v)))))),(37,.x (.one (.p (pi ((ix f.Rows v).length:Int))))),(38,.x (.one (.p (pi (IntKind.i64.wrap (v1+(1:Int)))))))],mkH []⟩) ?_
                    try simp only [thenL,blockL,↓reduceIte,reduceCtorEq]
                    exact ⟨(IntKind.i64.wrap (v1+(1:Int))),(Option.some.inj H2).symm,imp_au⟩
                · intro b_6
                  replace H2:=cneg H2 b_6
                  refine lok_exit ?_
                  try simp only [thenL,blockL,↓reduceIte,reduceCtorEq]
                  have e_2:=k_2 _ (Option.some.inj H2).symm
                  subst e_2
                  try dsimp only at H1
                  try simp only [thenL,blockL,↓reduceIte,reduceCtorEq]
                  exact ⟨(),H1,imp_au⟩
        · intro b_9
          replace H1:=cneg H1 b_9
          refine lok_exit ?_
          try simp only [thenL,blockL,↓reduceIte,reduceCtorEq]
          have e_1:=k_1 _ (Option.some.inj H1).symm
          subst e_1
          try dsimp only at H0
          try simp only [thenL,blockL,↓reduceIte,reduceCtorEq]
          exact ⟨(),H0,imp_au⟩
theorem ok_exchange_Check (s:Str) (r_:Int) (H0:exchange_Check s=some r_):CallOK Tryd.prog 27 [.one (.p (.val (.string (bs s))))] [] [.one (.p (pi r_))] []:=by
  refine callOK (n:=23) (rs:=[.tmp 2]) (nb:=0) (V:=[]) Tryd.func27 rfl (by kernel_rfl) rfl rfl rfl rfl (Nat.le_of_ble_eq_true rfl) (by decide) ?_
  unfold exchange_Check at H0
  refine lok_rt E0 (⟨23,mkS [(0,.x (.one (.p (.val (.string (bs s))))))],mkH []⟩) ?_
  refine lok_rt E0 (⟨23,mkS [(0,.x (.one (.p (.val (.string (bs s)))))),(3,.x (.one (.p (pi (0:Int)))))],mkH []⟩) ?_
  refine lok_join (fun x_:Int => exchange_Check_j1 x_=some r_) (fun x_ => ⟨23,mkS [(3,.x (.one (.p (pi x_))))],mkH []⟩) ?hyexchange_Check_j1 ?hxexchange_Check_j1
  case hyexchange_Check_j1 =>
    rintro sum H0
    try dsimp only at H0 ⊢
    unfold exchange_Check_j1 at H0
    refine lok_rt E0 (⟨23,mkS [(2,.x (.one (.p (pi sum))))],mkH []⟩) ?_
    refine lok_ret ?_
    try obtain rfl:=Option.some.inj H0
    try simp only [thenL,blockL]
    exact fin_au _ (.inr rfl) [] (⟨23,mkS [(2,.x (.one (.p (pi sum))))],mkH []⟩) rfl rfl imp_au
  case hxexchange_Check_j1 =>
    refine lok_rt E0 (⟨23,mkS [(0,.x (.one (.p (.val (.string (bs s)))))),(3,.x (.one (.p (pi (0:Int))))),(4,.x (.one (.p (pi (0:Int)))))],mkH []⟩) ?_
    refine lok_block ?_
    replace H0:=bind_some H0
    obtain ⟨v_0,hv_0,H0⟩:=H0
    refine lok_iter (fun x_ => ⟨23,mkS [(0,.x (.one (.p (.val (.string (bs s)))))),(3,.x (.one (.p (pi x_.1)))),(4,.x (.one (.p (pi x_.2))))],mkH []⟩) hv_0 imp_au ?_
    · rintro ⟨sum1,i⟩ o_1 H1 k_1
      unfold exchange_Check_l2 at H1
      try dsimp only at H1 ⊢
      refine lok_seq ?_
      refine lok_rt E0 (⟨23,mkS [(0,.x (.one (.p (.val (.string (bs s)))))),(3,.x (.one (.p (pi sum1)))),(4,.x (.one (.p (pi i)))),(8,.x (.one (.p (.val (.bool (decide (i<(s.length:Int))))))))],mkH []⟩) ?_
      refine lok_c (decide (i<(s.length:Int))) ?_ ?_
      · intro b_3
        replace H1:=cpos H1 b_3
        refine lok_skip ?_
        try simp only [thenL,blockL,↓reduceIte,reduceCtorEq]
        refine lok_seq ?_
        refine lok_block ?_
        replace H1:=req_some H1
        obtain ⟨q_2,H1⟩:=H1
        replace H1:=bindV_some H1
        obtain ⟨sum3,a_1,H1⟩:=H1
        refine lok_rlg E0 a_1 (⟨23,mkS [(0,.x (.one (.p (.val (.string (bs s)))))),(3,.x (.one (.p (pi sum3)))),(4,.x (.one (.p (pi i))))],mkH []⟩) ?_
        try simp only [thenL,blockL,↓reduceIte,reduceCtorEq]
        refine lok_rl E0 (⟨23,mkS [(0,.x (.one (.p (.val (.string (bs s)))))),(3,.x (.one (.p (pi sum3)))),(4,.x (.one (.p (pi (IntKind.i64.wrap (i+(1:Int)))))))],mkH []⟩) ?_
        try simp only [thenL,blockL,↓reduceIte,reduceCtorEq]
        exact ⟨(sum3,(IntKind.i64.wrap (i+(1:Int)))),(Option.some.inj H1).symm,imp_au⟩
      · intro b_3
        replace H1:=cneg H1 b_3
        refine lok_exit ?_
        try simp only [thenL,blockL,↓reduceIte,reduceCtorEq]
        have e_1:=k_1 _ (Option.some.inj H1).symm
        subst e_1
        try dsimp only at H0
        try simp only [thenL,blockL,↓reduceIte,reduceCtorEq]
        exact ⟨sum1,H0,imp_au⟩
theorem ok_exchange_Format (f:api_File) (r_:Str × Int) (H0:exchange_Format f=some r_):CallOK Tryd.prog 15 [.agg [.p (.val (.string (bs f.Kind))),.p (pi f.Source),.p (pi f.Number),.p (.sl 1 (List.map encL_encS f.Rows))]] [] [.one (.p (.val (.string (bs r_.1)))),.one (.p (pi r_.2))] []:=by
  unfold exchange_Format at H0
  replace H0:=req_some H0
  obtain ⟨⟨q1,q2,q3,q4,q5,q6⟩,H0⟩:=H0
  replace H0:=bind_some H0
  obtain ⟨y,h1,H0⟩:=H0
  replace H0:=bind_some H0
  obtain ⟨y1,h2,H0⟩:=H0
  replace H0:=req_some H0
  obtain ⟨q7,H0⟩:=H0
  obtain rfl:=Option.some.inj H0
  refine callOK_read2 Tryd.func15 rfl (by kernel_rfl) rfl rfl fun w S vs ht hs hr => ?_
  obtain ⟨rv,hvs,hrows⟩:=format_args hs hr
  subst hvs
  have hk:(bs f.Kind).data.toList=f.Kind:=bs_toList _
  have hlt:∀ w1:World,RowKit.Below w.heap.size w w1→∀ b o,S b o→b<w1.heap.size:=fun w1 hb b o h => Nat.lt_of_lt_of_le (hs b o h) hb.size
  refine (Tryd.format_walk (bs f.Kind) f.Source f.Number rv w y y1 (by simpa [bs,ByteArray.size] using q1) q2 q3 q7 (itoa_len _ q2) (itoa_len _ q3) (itoa_len _ q7) f.Rows hrows (itoa_len _ ⟨by omega,by omega⟩) q4 q5 q6
    (fun w1 hb => calls_of_ok Tryd.func17 rfl (by kernel_rfl) (ok_exchange_Valid f y h1) w1 S _ (tabOK_below ht hb) (hlt w1 hb) (repLs_below hb hs rfl hr))
    (fun n w1 hn hb => calls_of_ok Tryd.func38 rfl (by kernel_rfl) (ok_strconv_Itoa n _ (by unfold strconv_Itoa; exact if_pos hn)) w1 S _ (tabOK_below ht hb) (hlt w1 hb) (repLs_cons (.p (.val _ rfl)) repLs_nil))
    (fun w1 hb => calls_of_ok Tryd.func27 rfl (by kernel_rfl) (ok_exchange_Check _ y1 (by rw [hk]; exact h2)) w1 S _ (tabOK_below ht hb) (hlt w1 hb) (repLs_cons (.p (.val _ rfl)) repLs_nil))).mono ?_
  rintro e w' ⟨rfl,h⟩
  refine ⟨?_,h⟩
  rw [hk]
  unfold fmtRes
  cases y with
  | false => rfl
  | true =>
    simp only [Bool.true_eq_false,if_false]
    split <;> rfl
theorem ok_exchange_numberOf (text:Str) (r_:Int × Bool) (H0:exchange_numberOf text=some r_):CallOK Tryd.prog 65 [.one (.p (.val (.string (bs text))))] [] [.one (.p (pi r_.1)),.one (.p (.val (.bool r_.2)))] []:=by
  refine callOK (n:=49) (rs:=[.tmp 2,.tmp 3]) (nb:=0) (V:=[]) Tryd.func65 rfl (by kernel_rfl) rfl rfl rfl rfl (Nat.le_of_ble_eq_true rfl) (by decide) ?_
  unfold exchange_numberOf at H0
  refine lok_rt E0 (⟨49,mkS [(0,.x (.one (.p (.val (.string (bs text))))))],mkH []⟩) ?_
  refine lok_seq ?_
  replace H0:=req_some H0
  obtain ⟨q_8,H0⟩:=H0
  refine lok_rt E0 (⟨49,mkS [(0,.x (.one (.p (.val (.string (bs text)))))),(23,.x (.one (.p (.val (.bool (((decide ((text.length:Int)<(1:Int)))||(decide ((4:Int)<(text.length:Int))))||((decide ((1:Int)<(text.length:Int)))&&((sx text (0:Int))==(48:Int)))))))))],mkH []⟩) ?_
  refine lok_c (((decide ((text.length:Int)<(1:Int)))||(decide ((4:Int)<(text.length:Int))))||((decide ((1:Int)<(text.length:Int)))&&((sx text (0:Int))==(48:Int)))) ?_ ?_
  · intro b_7
    replace H0:=cpos H0 b_7
    refine lok_rt E0 (⟨49,mkS [(2,.x (.one (.p (pi (0:Int))))),(3,.x (.one (.p (.val (.bool false)))))],mkH []⟩) ?_
    refine lok_ret ?_
    try obtain rfl:=Option.some.inj H0
    try simp only [thenL,blockL]
    exact fin_au _ (.inr rfl) [] (⟨49,mkS [(2,.x (.one (.p (pi (0:Int))))),(3,.x (.one (.p (.val (.bool false)))))],mkH []⟩) rfl rfl imp_au
  · intro b_7
    replace H0:=cneg H0 b_7
    refine lok_skip ?_
    try simp only [thenL,blockL,↓reduceIte,reduceCtorEq]
    refine lok_rt E0 (⟨49,mkS [(0,.x (.one (.p (.val (.string (bs text)))))),(4,.x (.one (.p (pi (0:Int)))))],mkH []⟩) ?_
    refine lok_join (fun x_:Int => exchange_numberOf_j1 x_=some r_) (fun x_ => ⟨49,mkS [(4,.x (.one (.p (pi x_))))],mkH []⟩) ?hyexchange_numberOf_j1 ?hxexchange_numberOf_j1
    case hyexchange_numberOf_j1 =>
      rintro n H0
      try dsimp only at H0 ⊢
      unfold exchange_numberOf_j1 at H0
      refine lok_rt E0 (⟨49,mkS [(2,.x (.one (.p (pi n)))),(3,.x (.one (.p (.val (.bool true)))))],mkH []⟩) ?_
      refine lok_ret ?_
      try obtain rfl:=Option.some.inj H0
      try simp only [thenL,blockL]
      exact fin_au _ (.inr rfl) [] (⟨49,mkS [(2,.x (.one (.p (pi n)))),(3,.x (.one (.p (.val (.bool true)))))],mkH []⟩) rfl rfl imp_au
    case hxexchange_numberOf_j1 =>
      refine lok_rt E0 (⟨49,mkS [(0,.x (.one (.p (.val (.string (bs text)))))),(4,.x (.one (.p (pi (0:Int))))),(5,.x (.one (.p (pi (0:Int)))))],mkH []⟩) ?_
      refine lok_block ?_
      replace H0:=bind_some H0
      obtain ⟨v_0,hv_0,H0⟩:=H0
      refine lok_iter (fun x_ => ⟨49,mkS [(0,.x (.one (.p (.val (.string (bs text)))))),(4,.x (.one (.p (pi x_.1)))),(5,.x (.one (.p (pi x_.2))))],mkH []⟩) hv_0 imp_au ?_
      · rintro ⟨n1,i⟩ o_1 H1 k_1
        unfold exchange_numberOf_l2 at H1
        try dsimp only at H1 ⊢
        refine lok_seq ?_
        refine lok_rt E0 (⟨49,mkS [(0,.x (.one (.p (.val (.string (bs text)))))),(4,.x (.one (.p (pi n1)))),(5,.x (.one (.p (pi i)))),(27,.x (.one (.p (.val (.bool (decide (i<(text.length:Int))))))))],mkH []⟩) ?_
        refine lok_c (decide (i<(text.length:Int))) ?_ ?_
        · intro b_6
          replace H1:=cpos H1 b_6
          refine lok_skip ?_
          try simp only [thenL,blockL,↓reduceIte,reduceCtorEq]
          refine lok_seq ?_
          refine lok_block ?_
          refine lok_seq ?_
          replace H1:=req_some H1
          obtain ⟨⟨q_4,q_5⟩,H1⟩:=H1
          refine lok_rt E0 (⟨49,mkS [(0,.x (.one (.p (.val (.string (bs text)))))),(4,.x (.one (.p (pi n1)))),(5,.x (.one (.p (pi i)))),(39,.x (.one (.p (.val (.bool ((decide ((sx text i)<(48:Int)))||(decide ((57:Int)<(sx text i)))))))))],mkH []⟩) ?_
          refine lok_c ((decide ((sx text i)<(48:Int)))||(decide ((57:Int)<(sx text i)))) ?_ ?_
          · intro b_3
            replace H1:=cpos H1 b_3
            refine lok_rt E0 (⟨49,mkS [(2,.x (.one (.p (pi (0:Int))))),(3,.x (.one (.p (.val (.bool false)))))],mkH []⟩) ?_
            refine lok_ret ?_
            try simp only [thenL,blockL,↓reduceIte,reduceCtorEq]
            have e_1:=k_1 _ (Option.some.inj H1).symm
            subst e_1
            try dsimp only at H0
            try obtain rfl:=Option.some.inj H0
            try simp only [thenL,blockL]
            exact fin_au _ (.inr rfl) [] (⟨49,mkS [(2,.x (.one (.p (pi (0:Int))))),(3,.x (.one (.p (.val (.bool false)))))],mkH []⟩) rfl rfl imp_au
          · intro b_3
            replace H1:=cneg H1 b_3
            refine lok_skip ?_
            try simp only [thenL,blockL,↓reduceIte,reduceCtorEq]
            replace H1:=req_some H1
            obtain ⟨q_2,H1⟩:=H1
            replace H1:=bindV_some H1
            obtain ⟨n3,a_1,H1⟩:=H1
            refine lok_rlg E0 a_1 (⟨49,mkS [(0,.x (.one (.p (.val (.string (bs text)))))),(4,.x (.one (.p (pi n3)))),(5,.x (.one (.p (pi i))))],mkH []⟩) ?_
            try simp only [thenL,blockL,↓reduceIte,reduceCtorEq]
            refine lok_rl E0 (⟨49,mkS [(0,.x (.one (.p (.val (.string (bs text)))))),(4,.x (.one (.p (pi n3)))),(5,.x (.one (.p (pi (IntKind.i64.wrap (i+(1:Int)))))))],mkH []⟩) ?_
            try simp only [thenL,blockL,↓reduceIte,reduceCtorEq]
            exact ⟨(n3,(IntKind.i64.wrap (i+(1:Int)))),(Option.some.inj H1).symm,imp_au⟩
        · intro b_6
          replace H1:=cneg H1 b_6
          refine lok_exit ?_
          try simp only [thenL,blockL,↓reduceIte,reduceCtorEq]
          have e_1:=k_1 _ (Option.some.inj H1).symm
          subst e_1
          try dsimp only at H0
          try simp only [thenL,blockL,↓reduceIte,reduceCtorEq]
          exact ⟨n1,H0,imp_au⟩
theorem ok_exchange_header (line:Str) (r_:api_File × Bool) (H0:exchange_header line=some r_):CallOK Tryd.prog 49 [.one (.p (.val (.string (bs line))))] [] [.agg [.p (.val (.string (bs r_.1.Kind))),.p (pi r_.1.Source),.p (pi r_.1.Number),.p .nil],.one (.p (.val (.bool r_.2)))] []:=by
  refine callOK (n:=55) (rs:=[.cell 2 25,.tmp 3]) (nb:=0) (V:=[]) Tryd.func49 rfl (by kernel_rfl) rfl rfl rfl rfl (Nat.le_of_ble_eq_true rfl) (by decide) ?_
  unfold exchange_header at H0
  refine lok_rt E0 (⟨55,mkS [(0,.x (.one (.p (.val (.string (bs line)))))),(2,.x (.one (.ptr 102 0)))],mkH [(102,.var [.p (.val (.string (bs ([]:Str)))),.p (pi (0:Int)),.p (pi (0:Int)),.p .nil])]⟩) ?_
  replace H0:=bind_some H0
  obtain ⟨y,h_0,H0⟩:=H0
  refine lok_rt (Env.of E0 [⟨some 9,64,[.one (.p (.val (.string (bs line)))),.one (.p (.val (.string (bs ([124]:Str)))))],[],[.one (.p (.sl 1 (List.map encS y)))],[],True,fun _ => ok_strings_Split line ([124]:Str) y h_0,[]⟩]) (⟨55,mkS [(2,.x (.one (.ptr 102 0))),(4,.x (.one (.p (.sl 1 (List.map encS y)))))],mkH [(102,.var [.p (.val (.string (bs ([]:Str)))),.p (pi (0:Int)),.p (pi (0:Int)),.p .nil])]⟩) ?_
  refine lok_seq ?_
  replace H0:=req_some H0
  obtain ⟨q_11,H0⟩:=H0
  refine lok_rt E0 (⟨55,mkS [(2,.x (.one (.ptr 102 0))),(4,.x (.one (.p (.sl 1 (List.map encS y))))),(18,.x (.one (.p (.val (.bool (((y.length:Int) != (4:Int))||(!((ix y (0:Int))==([70,73,76,69]:Str)))))))))],mkH [(102,.var [.p (.val (.string (bs ([]:Str)))),.p (pi (0:Int)),.p (pi (0:Int)),.p .nil])]⟩) ?_
  refine lok_c (((y.length:Int) != (4:Int))||(!((ix y (0:Int))==([70,73,76,69]:Str)))) ?_ ?_
  · intro b_10
    replace H0:=cpos H0 b_10
    refine lok_rt E0 (⟨55,mkS [(2,.x (.one (.ptr 102 0))),(3,.x (.one (.p (.val (.bool false)))))],mkH [(102,.var [.p (.val (.string (bs ([]:Str)))),.p (pi (0:Int)),.p (pi (0:Int)),.p .nil])]⟩) ?_
    refine lok_ret ?_
    try obtain rfl:=Option.some.inj H0
    try simp only [thenL,blockL]
    exact fin_au _ (.inr rfl) [] (⟨55,mkS [(2,.x (.one (.ptr 102 0))),(3,.x (.one (.p (.val (.bool false)))))],mkH [(102,.var [.p (.val (.string (bs ([]:Str)))),.p (pi (0:Int)),.p (pi (0:Int)),.p .nil])]⟩) rfl rfl imp_au
  · intro b_10
    replace H0:=cneg H0 b_10
    refine lok_skip ?_
    try simp only [thenL,blockL,↓reduceIte,reduceCtorEq]
    replace H0:=req_some H0
    obtain ⟨q_9,H0⟩:=H0
    replace H0:=bind_some H0
    obtain ⟨⟨y1,y2⟩,h_1,H0⟩:=H0
    try dsimp only at H0
    refine lok_rt (Env.of E0 [⟨some 24,65,[.one (.p (.val (.string (bs (ix y (2:Int))))))],[],[.one (.p (pi y1)),.one (.p (.val (.bool y2)))],[],True,fun _ => ok_exchange_numberOf (ix y (2:Int)) (y1,y2) h_1,[]⟩]) (⟨55,mkS [(2,.x (.one (.ptr 102 0))),(4,.x (.one (.p (.sl 1 (List.map encS y))))),(5,.x (.one (.p (pi y1)))),(6,.x (.one (.p (.val (.bool y2)))))],mkH [(102,.var [.p (.val (.string (bs ([]:Str)))),.p (pi (0:Int)),.p (pi (0:Int)),.p .nil])]⟩) ?_
    refine lok_seq ?_
    refine lok_rt E0 (⟨55,mkS [(2,.x (.one (.ptr 102 0))),(4,.x (.one (.p (.sl 1 (List.map encS y))))),(5,.x (.one (.p (pi y1)))),(28,.x (.one (.p (.val (.bool (!y2))))))],mkH [(102,.var [.p (.val (.string (bs ([]:Str)))),.p (pi (0:Int)),.p (pi (0:Int)),.p .nil])]⟩) ?_
    refine lok_c (!y2) ?_ ?_
    · intro b_8
      replace H0:=cpos H0 b_8
      refine lok_rt E0 (⟨55,mkS [(2,.x (.one (.ptr 102 0))),(3,.x (.one (.p (.val (.bool false)))))],mkH [(102,.var [.p (.val (.string (bs ([]:Str)))),.p (pi (0:Int)),.p (pi (0:Int)),.p .nil])]⟩) ?_
      refine lok_ret ?_
      try obtain rfl:=Option.some.inj H0
      try simp only [thenL,blockL]
      exact fin_au _ (.inr rfl) [] (⟨55,mkS [(2,.x (.one (.ptr 102 0))),(3,.x (.one (.p (.val (.bool false)))))],mkH [(102,.var [.p (.val (.string (bs ([]:Str)))),.p (pi (0:Int)),.p (pi (0:Int)),.p .nil])]⟩) rfl rfl imp_au
    · intro b_8
      replace H0:=cneg H0 b_8
      refine lok_skip ?_
      try simp only [thenL,blockL,↓reduceIte,reduceCtorEq]
      replace H0:=req_some H0
      obtain ⟨q_7,H0⟩:=H0
      replace H0:=bind_some H0
      obtain ⟨⟨y3,y4⟩,h_2,H0⟩:=H0
      try dsimp only at H0
      refine lok_rt (Env.of E0 [⟨some 34,65,[.one (.p (.val (.string (bs (ix y (3:Int))))))],[],[.one (.p (pi y3)),.one (.p (.val (.bool y4)))],[],True,fun _ => ok_exchange_numberOf (ix y (3:Int)) (y3,y4) h_2,[]⟩]) (⟨55,mkS [(2,.x (.one (.ptr 102 0))),(4,.x (.one (.p (.sl 1 (List.map encS y))))),(5,.x (.one (.p (pi y1)))),(6,.x (.one (.p (.val (.bool y4))))),(7,.x (.one (.p (pi y3))))],mkH [(102,.var [.p (.val (.string (bs ([]:Str)))),.p (pi (0:Int)),.p (pi (0:Int)),.p .nil])]⟩) ?_
      refine lok_seq ?_
      replace H0:=req_some H0
      obtain ⟨⟨q_5,q_6⟩,H0⟩:=H0
      refine lok_rt (Env.of E0 [⟨some 45,44,[.one (.p (.val (.string (bs (ix y (1:Int)))))),.one (.p (pi y1)),.one (.p (pi y3))],[],[.one (.p (.val (.bool ((exchange_validHead (ix y (1:Int)) y1 y3).getD default))))],[],(exchange_validHead (ix y (1:Int)) y1 y3).isSome=true,fun h => ok_exchange_validHead (ix y (1:Int)) y1 y3 _ (isSome_get h),[]⟩]) (⟨55,mkS [(2,.x (.one (.ptr 102 0))),(4,.x (.one (.p (.sl 1 (List.map encS y))))),(5,.x (.one (.p (pi y1)))),(7,.x (.one (.p (pi y3)))),(47,.x (.one (.p (.val (.bool ((!y4)||(!((exchange_validHead (ix y (1:Int)) y1 y3).getD default))))))))],mkH [(102,.var [.p (.val (.string (bs ([]:Str)))),.p (pi (0:Int)),.p (pi (0:Int)),.p .nil])]⟩) ?_
      refine lok_c ((!y4)||(!((exchange_validHead (ix y (1:Int)) y1 y3).getD default))) ?_ ?_
      · intro b_4
        replace H0:=cpos H0 b_4
        refine lok_rt E0 (⟨55,mkS [(2,.x (.one (.ptr 102 0))),(3,.x (.one (.p (.val (.bool false)))))],mkH [(102,.var [.p (.val (.string (bs ([]:Str)))),.p (pi (0:Int)),.p (pi (0:Int)),.p .nil])]⟩) ?_
        refine lok_ret ?_
        try obtain rfl:=Option.some.inj H0
        try simp only [thenL,blockL]
        exact fin_au _ (.inr rfl) [] (⟨55,mkS [(2,.x (.one (.ptr 102 0))),(3,.x (.one (.p (.val (.bool false)))))],mkH [(102,.var [.p (.val (.string (bs ([]:Str)))),.p (pi (0:Int)),.p (pi (0:Int)),.p .nil])]⟩) rfl rfl imp_au
      · intro b_4
        replace H0:=cneg H0 b_4
        refine lok_skip ?_
        try simp only [thenL,blockL,↓reduceIte,reduceCtorEq]
        replace H0:=req_some H0
        obtain ⟨q_3,H0⟩:=H0
        refine lok_rt E0 (⟨55,mkS [(2,.x (.one (.ptr 102 0))),(3,.x (.one (.p (.val (.bool true)))))],mkH [(102,.var [.p (.val (.string (bs (ix y (1:Int))))),.p (pi y1),.p (pi y3),.p .nil])]⟩) ?_
        refine lok_ret ?_
        try obtain rfl:=Option.some.inj H0
        try simp only [thenL,blockL]
        exact fin_au _ (.inr rfl) [] (⟨55,mkS [(2,.x (.one (.ptr 102 0))),(3,.x (.one (.p (.val (.bool true)))))],mkH [(102,.var [.p (.val (.string (bs (ix y (1:Int))))),.p (pi y1),.p (pi y3),.p .nil])]⟩) rfl rfl imp_au
theorem ok_exchange_trailer (line:Str) (r_:Int × Int × Bool) (H0:exchange_trailer line=some r_):CallOK Tryd.prog 50 [.one (.p (.val (.string (bs line))))] [] [.one (.p (pi r_.1)),.one (.p (pi r_.2.1)),.one (.p (.val (.bool r_.2.2)))] []:=by
  refine callOK (n:=39) (rs:=[.tmp 2,.tmp 3,.tmp 4]) (nb:=0) (V:=[]) Tryd.func50 rfl (by kernel_rfl) rfl rfl rfl rfl (Nat.le_of_ble_eq_true rfl) (by decide) ?_
  unfold exchange_trailer at H0
  refine lok_rt E0 (⟨39,mkS [(0,.x (.one (.p (.val (.string (bs line))))))],mkH []⟩) ?_
  replace H0:=bind_some H0
  obtain ⟨y,h_0,H0⟩:=H0
  refine lok_rt (Env.of E0 [⟨some 10,64,[.one (.p (.val (.string (bs line)))),.one (.p (.val (.string (bs ([124]:Str)))))],[],[.one (.p (.sl 1 (List.map encS y)))],[],True,fun _ => ok_strings_Split line ([124]:Str) y h_0,[]⟩]) (⟨39,mkS [(5,.x (.one (.p (.sl 1 (List.map encS y)))))],mkH []⟩) ?_
  refine lok_seq ?_
  replace H0:=req_some H0
  obtain ⟨q_7,H0⟩:=H0
  refine lok_rt E0 (⟨39,mkS [(5,.x (.one (.p (.sl 1 (List.map encS y))))),(19,.x (.one (.p (.val (.bool (((y.length:Int) != (3:Int))||(!((ix y (0:Int))==([69,78,68]:Str)))))))))],mkH []⟩) ?_
  refine lok_c (((y.length:Int) != (3:Int))||(!((ix y (0:Int))==([69,78,68]:Str)))) ?_ ?_
  · intro b_6
    replace H0:=cpos H0 b_6
    refine lok_rt E0 (⟨39,mkS [(2,.x (.one (.p (pi (0:Int))))),(3,.x (.one (.p (pi (0:Int))))),(4,.x (.one (.p (.val (.bool false)))))],mkH []⟩) ?_
    refine lok_ret ?_
    try obtain rfl:=Option.some.inj H0
    try simp only [thenL,blockL]
    exact fin_au _ (.inr rfl) [] (⟨39,mkS [(2,.x (.one (.p (pi (0:Int))))),(3,.x (.one (.p (pi (0:Int))))),(4,.x (.one (.p (.val (.bool false)))))],mkH []⟩) rfl rfl imp_au
  · intro b_6
    replace H0:=cneg H0 b_6
    refine lok_skip ?_
    try simp only [thenL,blockL,↓reduceIte,reduceCtorEq]
    replace H0:=req_some H0
    obtain ⟨q_5,H0⟩:=H0
    replace H0:=bind_some H0
    obtain ⟨⟨y1,y2⟩,h_1,H0⟩:=H0
    try dsimp only at H0
    refine lok_rt (Env.of E0 [⟨some 24,65,[.one (.p (.val (.string (bs (ix y (1:Int))))))],[],[.one (.p (pi y1)),.one (.p (.val (.bool y2)))],[],True,fun _ => ok_exchange_numberOf (ix y (1:Int)) (y1,y2) h_1,[]⟩]) (⟨39,mkS [(5,.x (.one (.p (.sl 1 (List.map encS y))))),(6,.x (.one (.p (pi y1)))),(7,.x (.one (.p (.val (.bool y2)))))],mkH []⟩) ?_
    refine lok_seq ?_
    refine lok_rt E0 (⟨39,mkS [(5,.x (.one (.p (.sl 1 (List.map encS y))))),(6,.x (.one (.p (pi y1)))),(28,.x (.one (.p (.val (.bool (!y2))))))],mkH []⟩) ?_
    refine lok_c (!y2) ?_ ?_
    · intro b_4
      replace H0:=cpos H0 b_4
      refine lok_rt E0 (⟨39,mkS [(2,.x (.one (.p (pi (0:Int))))),(3,.x (.one (.p (pi (0:Int))))),(4,.x (.one (.p (.val (.bool false)))))],mkH []⟩) ?_
      refine lok_ret ?_
      try obtain rfl:=Option.some.inj H0
      try simp only [thenL,blockL]
      exact fin_au _ (.inr rfl) [] (⟨39,mkS [(2,.x (.one (.p (pi (0:Int))))),(3,.x (.one (.p (pi (0:Int))))),(4,.x (.one (.p (.val (.bool false)))))],mkH []⟩) rfl rfl imp_au
    · intro b_4
      replace H0:=cneg H0 b_4
      refine lok_skip ?_
      try simp only [thenL,blockL,↓reduceIte,reduceCtorEq]
      replace H0:=req_some H0
      obtain ⟨q_3,H0⟩:=H0
      replace H0:=bind_some H0
      obtain ⟨⟨y3,y4⟩,h_2,H0⟩:=H0
      try dsimp only at H0
      refine lok_rt (Env.of E0 [⟨some 33,65,[.one (.p (.val (.string (bs (ix y (2:Int))))))],[],[.one (.p (pi y3)),.one (.p (.val (.bool y4)))],[],True,fun _ => ok_exchange_numberOf (ix y (2:Int)) (y3,y4) h_2,[]⟩]) (⟨39,mkS [(6,.x (.one (.p (pi y1)))),(7,.x (.one (.p (.val (.bool y4))))),(8,.x (.one (.p (pi y3))))],mkH []⟩) ?_
      refine lok_rt E0 (⟨39,mkS [(2,.x (.one (.p (pi y1)))),(3,.x (.one (.p (pi y3)))),(4,.x (.one (.p (.val (.bool y4)))))],mkH []⟩) ?_
      refine lok_ret ?_
      try obtain rfl:=Option.some.inj H0
      try simp only [thenL,blockL]
      exact fin_au _ (.inr rfl) [] (⟨39,mkS [(2,.x (.one (.p (pi y1)))),(3,.x (.one (.p (pi y3)))),(4,.x (.one (.p (.val (.bool y4)))))],mkH []⟩) rfl rfl imp_au
set_option maxHeartbeats 4000000 in
theorem ok_exchange_fieldsOf (line:Str) (r_:(List Str) × Bool) (H0:exchange_fieldsOf line=some r_):CallOK Tryd.prog 51 [.one (.p (.val (.string (bs line))))] [] [.one (.p (.sl 1 (List.map encS r_.1))),.one (.p (.val (.bool r_.2)))] []:=by
  refine callOK (n:=52) (rs:=[.tmp 2,.tmp 3]) (nb:=0) (V:=[]) Tryd.func51 rfl (by kernel_rfl) rfl rfl rfl rfl (Nat.le_of_ble_eq_true rfl) (by decide) ?_
  unfold exchange_fieldsOf at H0
  refine lok_rt E0 (⟨52,mkS [(0,.x (.one (.p (.val (.string (bs line))))))],mkH []⟩) ?_
  replace H0:=bind_some H0
  obtain ⟨y,h_0,H0⟩:=H0
  refine lok_rt (Env.of E0 [⟨some 11,64,[.one (.p (.val (.string (bs line)))),.one (.p (.val (.string (bs ([124]:Str)))))],[],[.one (.p (.sl 1 (List.map encS y)))],[],True,fun _ => ok_strings_Split line ([124]:Str) y h_0,[]⟩]) (⟨52,mkS [(4,.x (.one (.p (.sl 1 (List.map encS y)))))],mkH []⟩) ?_
  refine lok_seq ?_
  replace H0:=req_some H0
  obtain ⟨q_10,H0⟩:=H0
  refine lok_rt E0 (⟨52,mkS [(4,.x (.one (.p (.sl 1 (List.map encS y))))),(26,.x (.one (.p (.val (.bool (((!((ix y (0:Int))==([82,79,87]:Str)))||(decide ((y.length:Int)<(2:Int))))||(decide ((8:Int)<(IntKind.i64.wrap ((y.length:Int)-(1:Int)))))))))))],mkH []⟩) ?_
  refine lok_c (((!((ix y (0:Int))==([82,79,87]:Str)))||(decide ((y.length:Int)<(2:Int))))||(decide ((8:Int)<(IntKind.i64.wrap ((y.length:Int)-(1:Int)))))) ?_ ?_
  · intro b_9
    replace H0:=cpos H0 b_9
    refine lok_rt E0 (⟨52,mkS [(2,.x (.one (.vw 102))),(3,.x (.one (.p (.val (.bool false)))))],mkH [(102,.arr 1 (List.map encS ([]:List Str)))]⟩) ?_
    refine lok_ret ?_
    try obtain rfl:=Option.some.inj H0
    try simp only [thenL,blockL]
    exact fin_au _ (.inr rfl) [] (⟨52,mkS [(2,.x (.one (.p (.sl 1 (List.map encS ([]:List Str)))))),(3,.x (.one (.p (.val (.bool false)))))],mkH []⟩) rfl rfl (Imp.trans (imp_frz 102 1 (List.map encS ([]:List Str))) imp_au)
  · intro b_9
    replace H0:=cneg H0 b_9
    refine lok_skip ?_
    try simp only [thenL,blockL,↓reduceIte,reduceCtorEq]
    refine lok_rt E0 (⟨52,mkS [(4,.x (.one (.p (.sl 1 (List.map encS y))))),(5,.x (.one (.vw 105)))],mkH [(105,.arr 1 (List.map encS ([]:List Str)))]⟩) ?_
    refine lok_join (fun x_:(List Str) => exchange_fieldsOf_j1 x_=some r_) (fun x_ => ⟨52,mkS [(5,.x (.one (.vw 105)))],mkH [(105,.arr 1 (List.map encS x_))]⟩) ?hyexchange_fieldsOf_j1 ?hxexchange_fieldsOf_j1
    case hyexchange_fieldsOf_j1 =>
      rintro row H0
      try dsimp only at H0 ⊢
      unfold exchange_fieldsOf_j1 at H0
      refine lok_rt E0 (⟨52,mkS [(2,.x (.one (.vw 105))),(3,.x (.one (.p (.val (.bool true)))))],mkH [(105,.arr 1 (List.map encS row))]⟩) ?_
      refine lok_ret ?_
      try obtain rfl:=Option.some.inj H0
      try simp only [thenL,blockL]
      exact fin_au _ (.inr rfl) [] (⟨52,mkS [(2,.x (.one (.p (.sl 1 (List.map encS row))))),(3,.x (.one (.p (.val (.bool true)))))],mkH []⟩) rfl rfl (Imp.trans (imp_frz 105 1 (List.map encS row)) imp_au)
    case hxexchange_fieldsOf_j1 =>
      replace H0:=req_some H0
      obtain ⟨q_8,H0⟩:=H0
      refine lok_rt E0 (⟨52,mkS [(5,.x (.one (.vw 105))),(28,.x (.one (.p (.sl 1 (List.map encS (List.drop (1:Int).toNat y)))))),(29,.x (.one (.p (pi ((List.drop (1:Int).toNat y).length:Int))))),(30,.x (.one (.p (pi (0:Int)))))],mkH [(105,.arr 1 (List.map encS ([]:List Str)))]⟩) ?_
      refine lok_block ?_
      replace H0:=bind_some H0
      obtain ⟨v_1,hv_1,H0⟩:=H0
      refine lok_iter (fun x_ => ⟨52,mkS [(5,.x (.one (.vw 105))),(28,.x (.one (.p (.sl 1 (List.map encS (List.drop (1:Int).toNat y)))))),(29,.x (.one (.p (pi ((List.drop (1:Int).toNat y).length:Int))))),(30,.x (.one (.p (pi x_.1))))],mkH [(105,.arr 1 (List.map encS x_.2))]⟩) hv_1 imp_au ?_
      · rintro ⟨v,row1⟩ o_1 H1 k_1
        unfold exchange_fieldsOf_l2 at H1
        try dsimp only at H1 ⊢
        refine lok_rt E0 (⟨52,mkS [(5,.x (.one (.vw 105))),(28,.x (.one (.p (.sl 1 (List.map encS (List.drop (1:Int).toNat y)))))),(29,.x (.one (.p (pi ((List.drop (1:Int).toNat y).length:Int))))),(30,.x (.one (.p (pi v)))),(31,.x (.one (.p (.val (.bool (decide (v<((List.drop (1:Int).toNat y).length:Int))))))))],mkH [(105,.arr 1 (List.map encS row1))]⟩) ?_
        refine lok_seq ?_
        refine lok_c (decide (v<((List.drop (1:Int).toNat y).length:Int))) ?_ ?_
        · intro b_7
          replace H1:=cpos H1 b_7
          refine lok_skip ?_
          try simp only [thenL,blockL,↓reduceIte,reduceCtorEq]
          refine lok_seq ?_
          refine lok_block ?_
          replace H1:=req_some H1
          obtain ⟨q_6,H1⟩:=H1
          refine lok_rt E0 (⟨52,mkS [(5,.x (.one (.vw 105))),(7,.x (.one (.p (.val (.string (bs (ix (List.drop (1:Int).toNat y) v))))))),(28,.x (.one (.p (.sl 1 (List.map encS (List.drop (1:Int).toNat y)))))),(29,.x (.one (.p (pi ((List.drop (1:Int).toNat y).length:Int))))),(30,.x (.one (.p (pi v))))],mkH [(105,.arr 1 (List.map encS row1))]⟩) ?_
          replace H1:=bind_some H1
          obtain ⟨⟨y1,y2⟩,h_2,H1⟩:=H1
          try dsimp only at H1
          refine lok_rt (Env.of E0 [⟨some 36,66,[.one (.p (.val (.string (bs (ix (List.drop (1:Int).toNat y) v)))))],[],[.one (.p (.val (.string (bs y1)))),.one (.p (.val (.bool y2)))],[],True,fun _ => ok_exchange_unescape (ix (List.drop (1:Int).toNat y) v) (y1,y2) h_2,[]⟩]) (⟨52,mkS [(5,.x (.one (.vw 105))),(8,.x (.one (.p (.val (.string (bs y1)))))),(9,.x (.one (.p (.val (.bool y2))))),(28,.x (.one (.p (.sl 1 (List.map encS (List.drop (1:Int).toNat y)))))),(29,.x (.one (.p (pi ((List.drop (1:Int).toNat y).length:Int))))),(30,.x (.one (.p (pi v))))],mkH [(105,.arr 1 (List.map encS row1))]⟩) ?_
          refine lok_seq ?_
          replace H1:=req_some H1
          obtain ⟨q_5,H1⟩:=H1
          refine lok_rt (Env.of E0 [⟨some 43,45,[.one (.p (.val (.string (bs y1))))],[],[.one (.p (.val (.bool ((exchange_validField y1).getD default))))],[],(exchange_validField y1).isSome=true,fun h => ok_exchange_validField y1 _ (isSome_get h),[]⟩]) (⟨52,mkS [(5,.x (.one (.vw 105))),(8,.x (.one (.p (.val (.string (bs y1)))))),(28,.x (.one (.p (.sl 1 (List.map encS (List.drop (1:Int).toNat y)))))),(29,.x (.one (.p (pi ((List.drop (1:Int).toNat y).length:Int))))),(30,.x (.one (.p (pi v)))),(45,.x (.one (.p (.val (.bool ((!y2)||(!((exchange_validField y1).getD default))))))))],mkH [(105,.arr 1 (List.map encS row1))]⟩) ?_
          refine lok_c ((!y2)||(!((exchange_validField y1).getD default))) ?_ ?_
          · intro b_4
            replace H1:=cpos H1 b_4
            refine lok_rt E0 (⟨52,mkS [(2,.x (.one (.vw 102))),(3,.x (.one (.p (.val (.bool false)))))],mkH [(102,.arr 1 (List.map encS ([]:List Str)))]⟩) ?_
            refine lok_ret ?_
            try simp only [thenL,blockL,↓reduceIte,reduceCtorEq]
            have e_1:=k_1 _ (Option.some.inj H1).symm
            subst e_1
            try dsimp only at H0
            try obtain rfl:=Option.some.inj H0
            try simp only [thenL,blockL]
            exact fin_au _ (.inr rfl) [] (⟨52,mkS [(2,.x (.one (.p (.sl 1 (List.map encS ([]:List Str)))))),(3,.x (.one (.p (.val (.bool false)))))],mkH []⟩) rfl rfl (Imp.trans (imp_frz 102 1 (List.map encS ([]:List Str))) imp_au)
          · intro b_4
            replace H1:=cneg H1 b_4
            refine lok_skip ?_
            try simp only [thenL,blockL,↓reduceIte,reduceCtorEq]
            replace H1:=req_some H1
            obtain ⟨q_3,H1⟩:=H1
            refine lok_rl E0 (⟨52,mkS [(5,.x (.one (.vw 105))),(28,.x (.one (.p (.sl 1 (List.map encS (List.drop (1:Int).toNat y)))))),(29,.x (.one (.p (pi ((List.drop (1:Int).toNat y).length:Int))))),(30,.x (.one (.p (pi v))))],mkH [(105,.arr 1 (List.map encS (row1 ++ [y1])))]⟩) ?_
            try simp only [thenL,blockL,↓reduceIte,reduceCtorEq]
            refine lok_rl E0 (⟨52,mkS [(5,.x (.one (.vw 105))),(28,.x (.one (.p (.sl 1 (List.map encS (List.drop (1:Int).toNat y)))))),(29,.x (.one (.p (pi ((List.drop (1:Int).toNat y).length:Int))))),(30,.x (.one (.p (pi (IntKind.i64.wrap (v+(1:Int)))))))],mkH [(105,.arr 1 (List.map encS (row1 ++ [y1])))]⟩) ?_
            try simp only [thenL,blockL,↓reduceIte,reduceCtorEq]
            exact ⟨((IntKind.i64.wrap (v+(1:Int))),(row1 ++ [y1])),(Option.some.inj H1).symm,imp_au⟩
        · intro b_7
          replace H1:=cneg H1 b_7
          refine lok_exit ?_
          try simp only [thenL,blockL,↓reduceIte,reduceCtorEq]
          have e_1:=k_1 _ (Option.some.inj H1).symm
          subst e_1
          try dsimp only at H0
          try simp only [thenL,blockL,↓reduceIte,reduceCtorEq]
          exact ⟨row1,H0,imp_au⟩
set_option maxHeartbeats 4000000 in
theorem ok_exchange_Parse (s:Str) (r_:api_File × Int) (H0:exchange_Parse s=some r_):CallOK Tryd.prog 21 [.one (.p (.val (.string (bs s))))] [] [.agg [.p (.val (.string (bs r_.1.Kind))),.p (pi r_.1.Source),.p (pi r_.1.Number),.p (.sl 1 (List.map encL_encS r_.1.Rows))],.one (.p (pi r_.2))] []:=by
  refine callOK (n:=117) (rs:=[.cell 2 25,.tmp 3]) (nb:=0) (V:=[]) Tryd.func21 rfl (by kernel_rfl) rfl rfl rfl rfl (Nat.le_of_ble_eq_true rfl) (by decide) ?_
  unfold exchange_Parse at H0
  refine lok_rt E0 (⟨117,mkS [(0,.x (.one (.p (.val (.string (bs s)))))),(2,.x (.one (.ptr 102 0)))],mkH [(102,.var [.p (.val (.string (bs ([]:Str)))),.p (pi (0:Int)),.p (pi (0:Int)),.p .nil])]⟩) ?_
  refine lok_seq ?_
  refine lok_rt E0 (⟨117,mkS [(0,.x (.one (.p (.val (.string (bs s)))))),(2,.x (.one (.ptr 102 0))),(17,.x (.one (.p (.val (.bool (decide ((8192:Int)<(s.length:Int))))))))],mkH [(102,.var [.p (.val (.string (bs ([]:Str)))),.p (pi (0:Int)),.p (pi (0:Int)),.p .nil])]⟩) ?_
  refine lok_c (decide ((8192:Int)<(s.length:Int))) ?_ ?_
  · intro b_23
    replace H0:=cpos H0 b_23
    refine lok_rt E0 (⟨117,mkS [(2,.x (.one (.ptr 102 0))),(3,.x (.one (.p (pi (3:Int)))))],mkH [(102,.var [.p (.val (.string (bs ([]:Str)))),.p (pi (0:Int)),.p (pi (0:Int)),.p .nil])]⟩) ?_
    refine lok_ret ?_
    try obtain rfl:=Option.some.inj H0
    try simp only [thenL,blockL]
    exact fin_au _ (.inr rfl) [] (⟨117,mkS [(2,.x (.one (.ptr 102 0))),(3,.x (.one (.p (pi (3:Int)))))],mkH [(102,.var [.p (.val (.string (bs ([]:Str)))),.p (pi (0:Int)),.p (pi (0:Int)),.p (.sl 1 (List.map encL_encS ([]:List (List Str))))])]⟩) rfl rfl imp_au
  · intro b_23
    replace H0:=cneg H0 b_23
    refine lok_skip ?_
    try simp only [thenL,blockL,↓reduceIte,reduceCtorEq]
    refine lok_seq ?_
    replace H0:=req_some H0
    obtain ⟨q_22,H0⟩:=H0
    refine lok_rt E0 (⟨117,mkS [(0,.x (.one (.p (.val (.string (bs s)))))),(2,.x (.one (.ptr 102 0))),(29,.x (.one (.p (.val (.bool (((s.length:Int)==(0:Int))||((sx s (IntKind.i64.wrap ((s.length:Int)-(1:Int)))) != (10:Int))))))))],mkH [(102,.var [.p (.val (.string (bs ([]:Str)))),.p (pi (0:Int)),.p (pi (0:Int)),.p .nil])]⟩) ?_
    refine lok_c (((s.length:Int)==(0:Int))||((sx s (IntKind.i64.wrap ((s.length:Int)-(1:Int)))) != (10:Int))) ?_ ?_
    · intro b_21
      replace H0:=cpos H0 b_21
      refine lok_rt E0 (⟨117,mkS [(2,.x (.one (.ptr 102 0))),(3,.x (.one (.p (pi (7:Int)))))],mkH [(102,.var [.p (.val (.string (bs ([]:Str)))),.p (pi (0:Int)),.p (pi (0:Int)),.p .nil])]⟩) ?_
      refine lok_ret ?_
      try obtain rfl:=Option.some.inj H0
      try simp only [thenL,blockL]
      exact fin_au _ (.inr rfl) [] (⟨117,mkS [(2,.x (.one (.ptr 102 0))),(3,.x (.one (.p (pi (7:Int)))))],mkH [(102,.var [.p (.val (.string (bs ([]:Str)))),.p (pi (0:Int)),.p (pi (0:Int)),.p (.sl 1 (List.map encL_encS ([]:List (List Str))))])]⟩) rfl rfl imp_au
    · intro b_21
      replace H0:=cneg H0 b_21
      refine lok_skip ?_
      try simp only [thenL,blockL,↓reduceIte,reduceCtorEq]
      refine lok_rt E0 (⟨117,mkS [(0,.x (.one (.p (.val (.string (bs s)))))),(2,.x (.one (.ptr 102 0))),(4,.x (.one (.ptr 104 0)))],mkH [(102,.var [.p (.val (.string (bs ([]:Str)))),.p (pi (0:Int)),.p (pi (0:Int)),.p .nil]),(104,.var [.p .nil])]⟩) ?_
      replace H0:=req_some H0
      obtain ⟨q_19,H0⟩:=H0
      replace H0:=bindV_some H0
      obtain ⟨all,a_20,H0⟩:=H0
      refine lok_lines q_19 a_20 rfl rfl rfl rfl (st':=⟨117,mkS [(0,.x (.one (.p (.val (.string (bs s)))))),(2,.x (.one (.ptr 102 0))),(4,.x (.one (.ptr 104 0)))],mkH [(102,.var [.p (.val (.string (bs ([]:Str)))),.p (pi (0:Int)),.p (pi (0:Int)),.p .nil]),(104,.var [.p (.sl 1 (List.map encS all))])]⟩) imp_au ?_
      refine lok_seq ?_
      refine lok_rt E0 (⟨117,mkS [(0,.x (.one (.p (.val (.string (bs s)))))),(2,.x (.one (.ptr 102 0))),(4,.x (.one (.ptr 104 0))),(40,.x (.one (.p (.val (.bool (decide ((all.length:Int)<(2:Int))))))))],mkH [(102,.var [.p (.val (.string (bs ([]:Str)))),.p (pi (0:Int)),.p (pi (0:Int)),.p .nil]),(104,.var [.p (.sl 1 (List.map encS all))])]⟩) ?_
      refine lok_c (decide ((all.length:Int)<(2:Int))) ?_ ?_
      · intro b_18
        replace H0:=cpos H0 b_18
        refine lok_rt E0 (⟨117,mkS [(2,.x (.one (.ptr 102 0))),(3,.x (.one (.p (pi (7:Int)))))],mkH [(102,.var [.p (.val (.string (bs ([]:Str)))),.p (pi (0:Int)),.p (pi (0:Int)),.p .nil])]⟩) ?_
        refine lok_ret ?_
        try obtain rfl:=Option.some.inj H0
        try simp only [thenL,blockL]
        exact fin_au _ (.inr rfl) [] (⟨117,mkS [(2,.x (.one (.ptr 102 0))),(3,.x (.one (.p (pi (7:Int)))))],mkH [(102,.var [.p (.val (.string (bs ([]:Str)))),.p (pi (0:Int)),.p (pi (0:Int)),.p (.sl 1 (List.map encL_encS ([]:List (List Str))))])]⟩) rfl rfl imp_au
      · intro b_18
        replace H0:=cneg H0 b_18
        refine lok_skip ?_
        try simp only [thenL,blockL,↓reduceIte,reduceCtorEq]
        replace H0:=req_some H0
        obtain ⟨q_17,H0⟩:=H0
        replace H0:=bind_some H0
        obtain ⟨⟨y,y1⟩,h_0,H0⟩:=H0
        try dsimp only at H0
        refine lok_rt (Env.of E0 [⟨some 46,49,[.one (.p (.val (.string (bs (ix all (0:Int))))))],[],[.agg [.p (.val (.string (bs y.Kind))),.p (pi y.Source),.p (pi y.Number),.p .nil],.one (.p (.val (.bool y1)))],[],True,fun _ => ok_exchange_header (ix all (0:Int)) (y,y1) h_0,[]⟩]) (⟨117,mkS [(0,.x (.one (.p (.val (.string (bs s)))))),(2,.x (.one (.ptr 102 0))),(4,.x (.one (.ptr 104 0))),(6,.x (.one (.ptr 106 0))),(7,.x (.one (.p (.val (.bool y1)))))],mkH [(102,.var [.p (.val (.string (bs ([]:Str)))),.p (pi (0:Int)),.p (pi (0:Int)),.p .nil]),(104,.var [.p (.sl 1 (List.map encS all))]),(106,.var [.p (.val (.string (bs y.Kind))),.p (pi y.Source),.p (pi y.Number),.p .nil])]⟩) ?_
        refine lok_seq ?_
        refine lok_rt E0 (⟨117,mkS [(0,.x (.one (.p (.val (.string (bs s)))))),(2,.x (.one (.ptr 102 0))),(4,.x (.one (.ptr 104 0))),(6,.x (.one (.ptr 106 0))),(50,.x (.one (.p (.val (.bool (!y1))))))],mkH [(102,.var [.p (.val (.string (bs ([]:Str)))),.p (pi (0:Int)),.p (pi (0:Int)),.p .nil]),(104,.var [.p (.sl 1 (List.map encS all))]),(106,.var [.p (.val (.string (bs y.Kind))),.p (pi y.Source),.p (pi y.Number),.p .nil])]⟩) ?_
        refine lok_c (!y1) ?_ ?_
        · intro b_16
          replace H0:=cpos H0 b_16
          refine lok_rt E0 (⟨117,mkS [(2,.x (.one (.ptr 102 0))),(3,.x (.one (.p (pi (20:Int)))))],mkH [(102,.var [.p (.val (.string (bs ([]:Str)))),.p (pi (0:Int)),.p (pi (0:Int)),.p .nil])]⟩) ?_
          refine lok_ret ?_
          try obtain rfl:=Option.some.inj H0
          try simp only [thenL,blockL]
          exact fin_au _ (.inr rfl) [] (⟨117,mkS [(2,.x (.one (.ptr 102 0))),(3,.x (.one (.p (pi (20:Int)))))],mkH [(102,.var [.p (.val (.string (bs ([]:Str)))),.p (pi (0:Int)),.p (pi (0:Int)),.p (.sl 1 (List.map encL_encS ([]:List (List Str))))])]⟩) rfl rfl imp_au
        · intro b_16
          replace H0:=cneg H0 b_16
          refine lok_skip ?_
          try simp only [thenL,blockL,↓reduceIte,reduceCtorEq]
          replace H0:=req_some H0
          obtain ⟨q_15,H0⟩:=H0
          refine lok_rt E0 (⟨117,mkS [(0,.x (.one (.p (.val (.string (bs s)))))),(2,.x (.one (.ptr 102 0))),(4,.x (.one (.ptr 104 0))),(6,.x (.one (.ptr 106 0))),(8,.x (.one (.p (.val (.string (bs (ix all (IntKind.i64.wrap ((all.length:Int)-(1:Int))))))))))],mkH [(102,.var [.p (.val (.string (bs ([]:Str)))),.p (pi (0:Int)),.p (pi (0:Int)),.p .nil]),(104,.var [.p (.sl 1 (List.map encS all))]),(106,.var [.p (.val (.string (bs y.Kind))),.p (pi y.Source),.p (pi y.Number),.p .nil])]⟩) ?_
          replace H0:=bind_some H0
          obtain ⟨⟨y2,y3,y4⟩,h_1,H0⟩:=H0
          try dsimp only at H0
          refine lok_rt (Env.of E0 [⟨some 60,50,[.one (.p (.val (.string (bs (ix all (IntKind.i64.wrap ((all.length:Int)-(1:Int))))))))],[],[.one (.p (pi y2)),.one (.p (pi y3)),.one (.p (.val (.bool y4)))],[],True,fun _ => ok_exchange_trailer (ix all (IntKind.i64.wrap ((all.length:Int)-(1:Int)))) (y2,y3,y4) h_1,[]⟩]) (⟨117,mkS [(0,.x (.one (.p (.val (.string (bs s)))))),(2,.x (.one (.ptr 102 0))),(4,.x (.one (.ptr 104 0))),(6,.x (.one (.ptr 106 0))),(7,.x (.one (.p (.val (.bool y4))))),(8,.x (.one (.p (.val (.string (bs (ix all (IntKind.i64.wrap ((all.length:Int)-(1:Int)))))))))),(9,.x (.one (.p (pi y2)))),(10,.x (.one (.p (pi y3))))],mkH [(102,.var [.p (.val (.string (bs ([]:Str)))),.p (pi (0:Int)),.p (pi (0:Int)),.p .nil]),(104,.var [.p (.sl 1 (List.map encS all))]),(106,.var [.p (.val (.string (bs y.Kind))),.p (pi y.Source),.p (pi y.Number),.p .nil])]⟩) ?_
          refine lok_seq ?_
          refine lok_rt E0 (⟨117,mkS [(0,.x (.one (.p (.val (.string (bs s)))))),(2,.x (.one (.ptr 102 0))),(4,.x (.one (.ptr 104 0))),(6,.x (.one (.ptr 106 0))),(8,.x (.one (.p (.val (.string (bs (ix all (IntKind.i64.wrap ((all.length:Int)-(1:Int)))))))))),(9,.x (.one (.p (pi y2)))),(10,.x (.one (.p (pi y3)))),(65,.x (.one (.p (.val (.bool (!y4))))))],mkH [(102,.var [.p (.val (.string (bs ([]:Str)))),.p (pi (0:Int)),.p (pi (0:Int)),.p .nil]),(104,.var [.p (.sl 1 (List.map encS all))]),(106,.var [.p (.val (.string (bs y.Kind))),.p (pi y.Source),.p (pi y.Number),.p .nil])]⟩) ?_
          refine lok_c (!y4) ?_ ?_
          · intro b_14
            replace H0:=cpos H0 b_14
            refine lok_rt E0 (⟨117,mkS [(2,.x (.one (.ptr 102 0))),(3,.x (.one (.p (pi (21:Int)))))],mkH [(102,.var [.p (.val (.string (bs ([]:Str)))),.p (pi (0:Int)),.p (pi (0:Int)),.p .nil])]⟩) ?_
            refine lok_ret ?_
            try obtain rfl:=Option.some.inj H0
            try simp only [thenL,blockL]
            exact fin_au _ (.inr rfl) [] (⟨117,mkS [(2,.x (.one (.ptr 102 0))),(3,.x (.one (.p (pi (21:Int)))))],mkH [(102,.var [.p (.val (.string (bs ([]:Str)))),.p (pi (0:Int)),.p (pi (0:Int)),.p (.sl 1 (List.map encL_encS ([]:List (List Str))))])]⟩) rfl rfl imp_au
          · intro b_14
            replace H0:=cneg H0 b_14
            refine lok_skip ?_
            try simp only [thenL,blockL,↓reduceIte,reduceCtorEq]
            refine lok_join (fun x_:(List (List Str)) => exchange_Parse_j1 s all y y2 y3 x_=some r_) (fun x_ => ⟨117,mkS [(0,.x (.one (.p (.val (.string (bs s)))))),(2,.x (.one (.ptr 102 0))),(6,.x (.one (.ptr 106 0))),(8,.x (.one (.p (.val (.string (bs (ix all (IntKind.i64.wrap ((all.length:Int)-(1:Int)))))))))),(9,.x (.one (.p (pi y2)))),(10,.x (.one (.p (pi y3))))],mkH [(102,.var [.p (.val (.string (bs ([]:Str)))),.p (pi (0:Int)),.p (pi (0:Int)),.p .nil]),(106,.var [.p (.val (.string (bs y.Kind))),.p (pi y.Source),.p (pi y.Number),.vw 189]),(189,.arr 1 (List.map encL_encS x_))]⟩) ?hyexchange_Parse_j1 ?hxexchange_Parse_j1
            case hyexchange_Parse_j1 =>
              rintro w H0
              try dsimp only at H0 ⊢
              unfold exchange_Parse_j1 at H0
              refine lok_seq ?_
              refine lok_rt E0 (⟨117,mkS [(0,.x (.one (.p (.val (.string (bs s)))))),(2,.x (.one (.ptr 102 0))),(6,.x (.one (.ptr 106 0))),(8,.x (.one (.p (.val (.string (bs (ix all (IntKind.i64.wrap ((all.length:Int)-(1:Int)))))))))),(10,.x (.one (.p (pi y3)))),(102,.x (.one (.p (.val (.bool ((y2 != (w.length:Int))||(decide ((40:Int)<(w.length:Int)))))))))],mkH [(102,.var [.p (.val (.string (bs ([]:Str)))),.p (pi (0:Int)),.p (pi (0:Int)),.p .nil]),(106,.var [.p (.val (.string (bs y.Kind))),.p (pi y.Source),.p (pi y.Number),.vw 189]),(189,.arr 1 (List.map encL_encS w))]⟩) ?_
              refine lok_c ((y2 != (w.length:Int))||(decide ((40:Int)<(w.length:Int)))) ?_ ?_
              · intro b_5
                replace H0:=cpos H0 b_5
                refine lok_rt E0 (⟨117,mkS [(2,.x (.one (.ptr 102 0))),(3,.x (.one (.p (pi (22:Int)))))],mkH [(102,.var [.p (.val (.string (bs ([]:Str)))),.p (pi (0:Int)),.p (pi (0:Int)),.p .nil])]⟩) ?_
                refine lok_ret ?_
                try obtain rfl:=Option.some.inj H0
                try simp only [thenL,blockL]
                exact fin_au _ (.inr rfl) [] (⟨117,mkS [(2,.x (.one (.ptr 102 0))),(3,.x (.one (.p (pi (22:Int)))))],mkH [(102,.var [.p (.val (.string (bs ([]:Str)))),.p (pi (0:Int)),.p (pi (0:Int)),.p (.sl 1 (List.map encL_encS ([]:List (List Str))))])]⟩) rfl rfl imp_au
              · intro b_5
                replace H0:=cneg H0 b_5
                refine lok_skip ?_
                try simp only [thenL,blockL,↓reduceIte,reduceCtorEq]
                refine lok_seq ?_
                replace H0:=req_some H0
                obtain ⟨q_4,H0⟩:=H0
                replace H0:=bind_some H0
                obtain ⟨y5,h_2,H0⟩:=H0
                refine lok_rt (Env.of E0 [⟨some 113,27,[.one (.p (.val (.string (bs (List.take (IntKind.i64.wrap ((IntKind.i64.wrap ((s.length:Int)-((ix all (IntKind.i64.wrap ((all.length:Int)-(1:Int)))).length:Int)))-(1:Int))).toNat s)))))],[],[.one (.p (pi y5))],[],True,fun _ => ok_exchange_Check (List.take (IntKind.i64.wrap ((IntKind.i64.wrap ((s.length:Int)-((ix all (IntKind.i64.wrap ((all.length:Int)-(1:Int)))).length:Int)))-(1:Int))).toNat s) y5 h_2,[]⟩]) (⟨117,mkS [(2,.x (.one (.ptr 102 0))),(6,.x (.one (.ptr 106 0))),(114,.x (.one (.p (.val (.bool (y3 != y5))))))],mkH [(102,.var [.p (.val (.string (bs ([]:Str)))),.p (pi (0:Int)),.p (pi (0:Int)),.p .nil]),(106,.var [.p (.val (.string (bs y.Kind))),.p (pi y.Source),.p (pi y.Number),.vw 189]),(189,.arr 1 (List.map encL_encS w))]⟩) ?_
                refine lok_c (y3 != y5) ?_ ?_
                · intro b_3
                  replace H0:=cpos H0 b_3
                  refine lok_rt E0 (⟨117,mkS [(2,.x (.one (.ptr 102 0))),(3,.x (.one (.p (pi (23:Int)))))],mkH [(102,.var [.p (.val (.string (bs ([]:Str)))),.p (pi (0:Int)),.p (pi (0:Int)),.p .nil])]⟩) ?_
                  refine lok_ret ?_
                  try obtain rfl:=Option.some.inj H0
                  try simp only [thenL,blockL]
                  exact fin_au _ (.inr rfl) [] (⟨117,mkS [(2,.x (.one (.ptr 102 0))),(3,.x (.one (.p (pi (23:Int)))))],mkH [(102,.var [.p (.val (.string (bs ([]:Str)))),.p (pi (0:Int)),.p (pi (0:Int)),.p (.sl 1 (List.map encL_encS ([]:List (List Str))))])]⟩) rfl rfl imp_au
                · intro b_3
                  replace H0:=cneg H0 b_3
                  refine lok_skip ?_
                  try simp only [thenL,blockL,↓reduceIte,reduceCtorEq]
                  refine lok_rt E0 (⟨117,mkS [(2,.x (.one (.ptr 102 0))),(3,.x (.one (.p (pi (0:Int)))))],mkH [(102,.var [.p (.val (.string (bs y.Kind))),.p (pi y.Source),.p (pi y.Number),.vw 189]),(189,.arr 1 (List.map encL_encS w))]⟩) ?_
                  refine lok_ret ?_
                  try obtain rfl:=Option.some.inj H0
                  try simp only [thenL,blockL]
                  exact fin_au _ (.inr rfl) [] (⟨117,mkS [(2,.x (.one (.ptr 102 0))),(3,.x (.one (.p (pi (0:Int)))))],mkH [(102,.var [.p (.val (.string (bs y.Kind))),.p (pi y.Source),.p (pi y.Number),.p (.sl 1 (List.map encL_encS w))])]⟩) rfl rfl (Imp.trans (imp_frz 189 1 (List.map encL_encS w)) imp_au)
            case hxexchange_Parse_j1 =>
              replace H0:=req_some H0
              obtain ⟨q_13,H0⟩:=H0
              replace H0:=bindV_some H0
              obtain ⟨v,a_6,H0⟩:=H0
              refine lok_rtg E0 a_6 (⟨117,mkS [(0,.x (.one (.p (.val (.string (bs s)))))),(2,.x (.one (.ptr 102 0))),(6,.x (.one (.ptr 106 0))),(8,.x (.one (.p (.val (.string (bs (ix all (IntKind.i64.wrap ((all.length:Int)-(1:Int)))))))))),(9,.x (.one (.p (pi y2)))),(10,.x (.one (.p (pi y3)))),(71,.x (.one (.p (.sl 1 (List.map encS v))))),(72,.x (.one (.p (pi (v.length:Int))))),(73,.x (.one (.p (pi (0:Int)))))],mkH [(102,.var [.p (.val (.string (bs ([]:Str)))),.p (pi (0:Int)),.p (pi (0:Int)),.p .nil]),(106,.var [.p (.val (.string (bs y.Kind))),.p (pi y.Source),.p (pi y.Number),.p .nil])]⟩) ?_
              refine lok_block ?_
              replace H0:=bind_some H0
              obtain ⟨v_7,hv_7,H0⟩:=H0
              refine lok_iter (fun x_ => ⟨117,mkS [(0,.x (.one (.p (.val (.string (bs s)))))),(2,.x (.one (.ptr 102 0))),(6,.x (.one (.ptr 106 0))),(8,.x (.one (.p (.val (.string (bs (ix all (IntKind.i64.wrap ((all.length:Int)-(1:Int)))))))))),(9,.x (.one (.p (pi y2)))),(10,.x (.one (.p (pi y3)))),(71,.x (.one (.p (.sl 1 (List.map encS v))))),(72,.x (.one (.p (pi (v.length:Int))))),(73,.x (.one (.p (pi x_.1))))],mkH [(102,.var [.p (.val (.string (bs ([]:Str)))),.p (pi (0:Int)),.p (pi (0:Int)),.p .nil]),(106,.var [.p (.val (.string (bs y.Kind))),.p (pi y.Source),.p (pi y.Number),.vw 189]),(189,.arr 1 (List.map encL_encS x_.2))]⟩) hv_7 imp_au ?_
              · rintro ⟨v1,w1⟩ o_1 H1 k_1
                unfold exchange_Parse_l2 at H1
                try dsimp only at H1 ⊢
                refine lok_rt E0 (⟨117,mkS [(0,.x (.one (.p (.val (.string (bs s)))))),(2,.x (.one (.ptr 102 0))),(6,.x (.one (.ptr 106 0))),(8,.x (.one (.p (.val (.string (bs (ix all (IntKind.i64.wrap ((all.length:Int)-(1:Int)))))))))),(9,.x (.one (.p (pi y2)))),(10,.x (.one (.p (pi y3)))),(71,.x (.one (.p (.sl 1 (List.map encS v))))),(72,.x (.one (.p (pi (v.length:Int))))),(73,.x (.one (.p (pi v1)))),(74,.x (.one (.p (.val (.bool (decide (v1<(v.length:Int))))))))],mkH [(102,.var [.p (.val (.string (bs ([]:Str)))),.p (pi (0:Int)),.p (pi (0:Int)),.p .nil]),(106,.var [.p (.val (.string (bs y.Kind))),.p (pi y.Source),.p (pi y.Number),.vw 189]),(189,.arr 1 (List.map encL_encS w1))]⟩) ?_
                refine lok_seq ?_
                refine lok_c (decide (v1<(v.length:Int))) ?_ ?_
                · intro b_12
                  replace H1:=cpos H1 b_12
                  refine lok_skip ?_
                  try simp only [thenL,blockL,↓reduceIte,reduceCtorEq]
                  refine lok_seq ?_
                  refine lok_block ?_
                  replace H1:=req_some H1
                  obtain ⟨q_11,H1⟩:=H1
                  refine lok_rt E0 (⟨117,mkS [(0,.x (.one (.p (.val (.string (bs s)))))),(2,.x (.one (.ptr 102 0))),(6,.x (.one (.ptr 106 0))),(8,.x (.one (.p (.val (.string (bs (ix all (IntKind.i64.wrap ((all.length:Int)-(1:Int)))))))))),(9,.x (.one (.p (pi y2)))),(10,.x (.one (.p (pi y3)))),(12,.x (.one (.p (.val (.string (bs (ix v v1))))))),(71,.x (.one (.p (.sl 1 (List.map encS v))))),(72,.x (.one (.p (pi (v.length:Int))))),(73,.x (.one (.p (pi v1))))],mkH [(102,.var [.p (.val (.string (bs ([]:Str)))),.p (pi (0:Int)),.p (pi (0:Int)),.p .nil]),(106,.var [.p (.val (.string (bs y.Kind))),.p (pi y.Source),.p (pi y.Number),.vw 189]),(189,.arr 1 (List.map encL_encS w1))]⟩) ?_
                  replace H1:=bind_some H1
                  obtain ⟨⟨y6,y7⟩,h_8,H1⟩:=H1
                  try dsimp only at H1
                  refine lok_rt (Env.of E0 [⟨some 79,51,[.one (.p (.val (.string (bs (ix v v1)))))],[],[.one (.p (.sl 1 (List.map encS y6))),.one (.p (.val (.bool y7)))],[],True,fun _ => ok_exchange_fieldsOf (ix v v1) (y6,y7) h_8,[]⟩]) (⟨117,mkS [(0,.x (.one (.p (.val (.string (bs s)))))),(2,.x (.one (.ptr 102 0))),(6,.x (.one (.ptr 106 0))),(8,.x (.one (.p (.val (.string (bs (ix all (IntKind.i64.wrap ((all.length:Int)-(1:Int)))))))))),(9,.x (.one (.p (pi y2)))),(10,.x (.one (.p (pi y3)))),(13,.x (.one (.p (.sl 1 (List.map encS y6))))),(14,.x (.one (.p (.val (.bool y7))))),(71,.x (.one (.p (.sl 1 (List.map encS v))))),(72,.x (.one (.p (pi (v.length:Int))))),(73,.x (.one (.p (pi v1))))],mkH [(102,.var [.p (.val (.string (bs ([]:Str)))),.p (pi (0:Int)),.p (pi (0:Int)),.p .nil]),(106,.var [.p (.val (.string (bs y.Kind))),.p (pi y.Source),.p (pi y.Number),.vw 189]),(189,.arr 1 (List.map encL_encS w1))]⟩) ?_
                  refine lok_seq ?_
                  refine lok_rt E0 (⟨117,mkS [(0,.x (.one (.p (.val (.string (bs s)))))),(2,.x (.one (.ptr 102 0))),(6,.x (.one (.ptr 106 0))),(8,.x (.one (.p (.val (.string (bs (ix all (IntKind.i64.wrap ((all.length:Int)-(1:Int)))))))))),(9,.x (.one (.p (pi y2)))),(10,.x (.one (.p (pi y3)))),(13,.x (.one (.p (.sl 1 (List.map encS y6))))),(71,.x (.one (.p (.sl 1 (List.map encS v))))),(72,.x (.one (.p (pi (v.length:Int))))),(73,.x (.one (.p (pi v1)))),(83,.x (.one (.p (.val (.bool (!y7))))))],mkH [(102,.var [.p (.val (.string (bs ([]:Str)))),.p (pi (0:Int)),.p (pi (0:Int)),.p .nil]),(106,.var [.p (.val (.string (bs y.Kind))),.p (pi y.Source),.p (pi y.Number),.vw 189]),(189,.arr 1 (List.map encL_encS w1))]⟩) ?_
                  refine lok_c (!y7) ?_ ?_
                  · intro b_10
                    replace H1:=cpos H1 b_10
                    refine lok_rt E0 (⟨117,mkS [(2,.x (.one (.ptr 102 0))),(3,.x (.one (.p (pi (7:Int)))))],mkH [(102,.var [.p (.val (.string (bs ([]:Str)))),.p (pi (0:Int)),.p (pi (0:Int)),.p .nil])]⟩) ?_
                    refine lok_ret ?_
                    try simp only [thenL,blockL,↓reduceIte,reduceCtorEq]
                    have e_1:=k_1 _ (Option.some.inj H1).symm
                    subst e_1
                    try dsimp only at H0
                    try obtain rfl:=Option.some.inj H0
                    try simp only [thenL,blockL]
                    exact fin_au _ (.inr rfl) [] (⟨117,mkS [(2,.x (.one (.ptr 102 0))),(3,.x (.one (.p (pi (7:Int)))))],mkH [(102,.var [.p (.val (.string (bs ([]:Str)))),.p (pi (0:Int)),.p (pi (0:Int)),.p (.sl 1 (List.map encL_encS ([]:List (List Str))))])]⟩) rfl rfl imp_au
                  · intro b_10
                    replace H1:=cneg H1 b_10
                    refine lok_skip ?_
                    try simp only [thenL,blockL,↓reduceIte,reduceCtorEq]
                    replace H1:=req_some H1
                    obtain ⟨q_9,H1⟩:=H1
                    refine lok_rl E0 (⟨117,mkS [(0,.x (.one (.p (.val (.string (bs s)))))),(2,.x (.one (.ptr 102 0))),(6,.x (.one (.ptr 106 0))),(8,.x (.one (.p (.val (.string (bs (ix all (IntKind.i64.wrap ((all.length:Int)-(1:Int)))))))))),(9,.x (.one (.p (pi y2)))),(10,.x (.one (.p (pi y3)))),(71,.x (.one (.p (.sl 1 (List.map encS v))))),(72,.x (.one (.p (pi (v.length:Int))))),(73,.x (.one (.p (pi v1))))],mkH [(102,.var [.p (.val (.string (bs ([]:Str)))),.p (pi (0:Int)),.p (pi (0:Int)),.p .nil]),(106,.var [.p (.val (.string (bs y.Kind))),.p (pi y.Source),.p (pi y.Number),.vw 189]),(189,.arr 1 (List.map encL_encS (w1 ++ [y6])))]⟩) ?_
                    try simp only [thenL,blockL,↓reduceIte,reduceCtorEq]
                    refine lok_rl E0 (⟨117,mkS [(0,.x (.one (.p (.val (.string (bs s)))))),(2,.x (.one (.ptr 102 0))),(6,.x (.one (.ptr 106 0))),(8,.x (.one (.p (.val (.string (bs (ix all (IntKind.i64.wrap ((all.length:Int)-(1:Int)))))))))),(9,.x (.one (.p (pi y2)))),(10,.x (.one (.p (pi y3)))),(71,.x (.one (.p (.sl 1 (List.map encS v))))),(72,.x (.one (.p (pi (v.length:Int))))),(73,.x (.one (.p (pi (IntKind.i64.wrap (v1+(1:Int)))))))],mkH [(102,.var [.p (.val (.string (bs ([]:Str)))),.p (pi (0:Int)),.p (pi (0:Int)),.p .nil]),(106,.var [.p (.val (.string (bs y.Kind))),.p (pi y.Source),.p (pi y.Number),.vw 189]),(189,.arr 1 (List.map encL_encS (w1 ++ [y6])))]⟩) ?_
                    try simp only [thenL,blockL,↓reduceIte,reduceCtorEq]
                    exact ⟨((IntKind.i64.wrap (v1+(1:Int))),(w1 ++ [y6])),(Option.some.inj H1).symm,imp_au⟩
                · intro b_12
                  replace H1:=cneg H1 b_12
                  refine lok_exit ?_
                  try simp only [thenL,blockL,↓reduceIte,reduceCtorEq]
                  have e_1:=k_1 _ (Option.some.inj H1).symm
                  subst e_1
                  try dsimp only at H0
                  try simp only [thenL,blockL,↓reduceIte,reduceCtorEq]
                  exact ⟨w1,H0,imp_au⟩
set_option maxHeartbeats 4000000 in
theorem ok_law03_same (a:api_File) (b:api_File) (r_:Bool) (H0:law03_same a b=some r_):CallOK Tryd.prog 22 [.agg [.p (.val (.string (bs a.Kind))),.p (pi a.Source),.p (pi a.Number),.p (.sl 1 (List.map encL_encS a.Rows))],.agg [.p (.val (.string (bs b.Kind))),.p (pi b.Source),.p (pi b.Number),.p (.sl 1 (List.map encL_encS b.Rows))]] [] [.one (.p (.val (.bool r_)))] []:=by
  refine callOK (n:=82) (rs:=[.tmp 4]) (nb:=0) (V:=[]) Tryd.func22 rfl (by kernel_rfl) rfl rfl rfl rfl (Nat.le_of_ble_eq_true rfl) (by decide) ?_
  unfold law03_same at H0
  refine lok_rt E0 (⟨82,mkS [(2,.x (.one (.ptr 102 0))),(3,.x (.one (.ptr 103 0)))],mkH [(102,.var [.p (.val (.string (bs a.Kind))),.p (pi a.Source),.p (pi a.Number),.p (.sl 1 (List.map encL_encS a.Rows))]),(103,.var [.p (.val (.string (bs b.Kind))),.p (pi b.Source),.p (pi b.Number),.p (.sl 1 (List.map encL_encS b.Rows))])]⟩) ?_
  refine lok_seq ?_
  refine lok_rt E0 (⟨82,mkS [(2,.x (.one (.ptr 102 0))),(3,.x (.one (.ptr 103 0))),(34,.x (.one (.p (.val (.bool ((((!(a.Kind==b.Kind))||(a.Source != b.Source))||(a.Number != b.Number))||((a.Rows.length:Int) != (b.Rows.length:Int))))))))],mkH [(102,.var [.p (.val (.string (bs a.Kind))),.p (pi a.Source),.p (pi a.Number),.p (.sl 1 (List.map encL_encS a.Rows))]),(103,.var [.p (.val (.string (bs b.Kind))),.p (pi b.Source),.p (pi b.Number),.p (.sl 1 (List.map encL_encS b.Rows))])]⟩) ?_
  refine lok_c ((((!(a.Kind==b.Kind))||(a.Source != b.Source))||(a.Number != b.Number))||((a.Rows.length:Int) != (b.Rows.length:Int))) ?_ ?_
  · intro b_13
    replace H0:=cpos H0 b_13
    refine lok_rt E0 (⟨82,mkS [(4,.x (.one (.p (.val (.bool false)))))],mkH []⟩) ?_
    refine lok_ret ?_
    try obtain rfl:=Option.some.inj H0
    try simp only [thenL,blockL]
    exact fin_au _ (.inr rfl) [] (⟨82,mkS [(4,.x (.one (.p (.val (.bool false)))))],mkH []⟩) rfl rfl imp_au
  · intro b_13
    replace H0:=cneg H0 b_13
    refine lok_skip ?_
    try simp only [thenL,blockL,↓reduceIte,reduceCtorEq]
    refine lok_join (fun x_:Unit => law03_same_j1=some r_) (fun x_ => ⟨82,mkS [],mkH []⟩) ?hylaw03_same_j1 ?hxlaw03_same_j1
    case hylaw03_same_j1 =>
      rintro _ H0
      try dsimp only at H0 ⊢
      unfold law03_same_j1 at H0
      refine lok_rt E0 (⟨82,mkS [(4,.x (.one (.p (.val (.bool true)))))],mkH []⟩) ?_
      refine lok_ret ?_
      try obtain rfl:=Option.some.inj H0
      try simp only [thenL,blockL]
      exact fin_au _ (.inr rfl) [] (⟨82,mkS [(4,.x (.one (.p (.val (.bool true)))))],mkH []⟩) rfl rfl imp_au
    case hxlaw03_same_j1 =>
      refine lok_rt E0 (⟨82,mkS [(2,.x (.one (.ptr 102 0))),(3,.x (.one (.ptr 103 0))),(5,.x (.one (.p (pi (0:Int)))))],mkH [(102,.var [.p (.val (.string (bs a.Kind))),.p (pi a.Source),.p (pi a.Number),.p (.sl 1 (List.map encL_encS a.Rows))]),(103,.var [.p (.val (.string (bs b.Kind))),.p (pi b.Source),.p (pi b.Number),.p (.sl 1 (List.map encL_encS b.Rows))])]⟩) ?_
      refine lok_block ?_
      replace H0:=bind_some H0
      obtain ⟨v_0,hv_0,H0⟩:=H0
      refine lok_iter (fun x_ => ⟨82,mkS [(2,.x (.one (.ptr 102 0))),(3,.x (.one (.ptr 103 0))),(5,.x (.one (.p (pi x_))))],mkH [(102,.var [.p (.val (.string (bs a.Kind))),.p (pi a.Source),.p (pi a.Number),.p (.sl 1 (List.map encL_encS a.Rows))]),(103,.var [.p (.val (.string (bs b.Kind))),.p (pi b.Source),.p (pi b.Number),.p (.sl 1 (List.map encL_encS b.Rows))])]⟩) hv_0 imp_au ?_
      · rintro i o_1 H1 k_1
        unfold law03_same_l4 at H1
        try dsimp only at H1 ⊢
        refine lok_seq ?_
        refine lok_rt E0 (⟨82,mkS [(2,.x (.one (.ptr 102 0))),(3,.x (.one (.ptr 103 0))),(5,.x (.one (.p (pi i)))),(39,.x (.one (.p (.val (.bool (decide (i<(a.Rows.length:Int))))))))],mkH [(102,.var [.p (.val (.string (bs a.Kind))),.p (pi a.Source),.p (pi a.Number),.p (.sl 1 (List.map encL_encS a.Rows))]),(103,.var [.p (.val (.string (bs b.Kind))),.p (pi b.Source),.p (pi b.Number),.p (.sl 1 (List.map encL_encS b.Rows))])]⟩) ?_
        refine lok_c (decide (i<(a.Rows.length:Int))) ?_ ?_
        · intro b_12
          replace H1:=cpos H1 b_12
          refine lok_skip ?_
          try simp only [thenL,blockL,↓reduceIte,reduceCtorEq]
          refine lok_join (fun x_:Unit => law03_same_j2 i=some o_1) (fun x_ => ⟨82,mkS [(2,.x (.one (.ptr 102 0))),(3,.x (.one (.ptr 103 0))),(5,.x (.one (.p (pi i))))],mkH [(102,.var [.p (.val (.string (bs a.Kind))),.p (pi a.Source),.p (pi a.Number),.p (.sl 1 (List.map encL_encS a.Rows))]),(103,.var [.p (.val (.string (bs b.Kind))),.p (pi b.Source),.p (pi b.Number),.p (.sl 1 (List.map encL_encS b.Rows))])]⟩) ?hylaw03_same_j2 ?hxlaw03_same_j2
          case hylaw03_same_j2 =>
            rintro _ H1
            try dsimp only at H1 ⊢
            unfold law03_same_j2 at H1
            refine lok_rl E0 (⟨82,mkS [(2,.x (.one (.ptr 102 0))),(3,.x (.one (.ptr 103 0))),(5,.x (.one (.p (pi (IntKind.i64.wrap (i+(1:Int)))))))],mkH [(102,.var [.p (.val (.string (bs a.Kind))),.p (pi a.Source),.p (pi a.Number),.p (.sl 1 (List.map encL_encS a.Rows))]),(103,.var [.p (.val (.string (bs b.Kind))),.p (pi b.Source),.p (pi b.Number),.p (.sl 1 (List.map encL_encS b.Rows))])]⟩) ?_
            try simp only [thenL,blockL,↓reduceIte,reduceCtorEq]
            exact ⟨(IntKind.i64.wrap (i+(1:Int))),(Option.some.inj H1).symm,imp_au⟩
          case hxlaw03_same_j2 =>
            refine lok_block ?_
            refine lok_seq ?_
            replace H1:=req_some H1
            obtain ⟨⟨q_10,q_11⟩,H1⟩:=H1
            refine lok_dt E0 12 (⟨82,mkS [(2,.x (.one (.ptr 102 0))),(3,.x (.one (.ptr 103 0))),(5,.x (.one (.p (pi i)))),(54,.x (.one (.p (.val (.bool (((ix a.Rows i).length:Int) != ((ix b.Rows i).length:Int)))))))],mkH [(102,.var [.p (.val (.string (bs a.Kind))),.p (pi a.Source),.p (pi a.Number),.p (.sl 1 (List.map encL_encS a.Rows))]),(103,.var [.p (.val (.string (bs b.Kind))),.p (pi b.Source),.p (pi b.Number),.p (.sl 1 (List.map encL_encS b.Rows))])]⟩) (by kernel_rfl) (by kernel_rfl) ?_
            refine lok_c (((ix a.Rows i).length:Int) != ((ix b.Rows i).length:Int)) ?_ ?_
            · intro b_9
              replace H1:=cpos H1 b_9
              refine lok_rt E0 (⟨82,mkS [(4,.x (.one (.p (.val (.bool false)))))],mkH []⟩) ?_
              refine lok_ret ?_
              try simp only [thenL,blockL,↓reduceIte,reduceCtorEq]
              have e_1:=k_1 _ (Option.some.inj H1).symm
              subst e_1
              try dsimp only at H0
              try obtain rfl:=Option.some.inj H0
              try simp only [thenL,blockL]
              exact fin_au _ (.inr rfl) [] (⟨82,mkS [(4,.x (.one (.p (.val (.bool false)))))],mkH []⟩) rfl rfl imp_au
            · intro b_9
              replace H1:=cneg H1 b_9
              refine lok_skip ?_
              try simp only [thenL,blockL,↓reduceIte,reduceCtorEq]
              refine lok_rt E0 (⟨82,mkS [(2,.x (.one (.ptr 102 0))),(3,.x (.one (.ptr 103 0))),(5,.x (.one (.p (pi i)))),(6,.x (.one (.p (pi (0:Int)))))],mkH [(102,.var [.p (.val (.string (bs a.Kind))),.p (pi a.Source),.p (pi a.Number),.p (.sl 1 (List.map encL_encS a.Rows))]),(103,.var [.p (.val (.string (bs b.Kind))),.p (pi b.Source),.p (pi b.Number),.p (.sl 1 (List.map encL_encS b.Rows))])]⟩) ?_
              refine lok_block ?_
              replace H1:=bind_some H1
              obtain ⟨v_1,hv_1,H1⟩:=H1
              refine lok_iter (fun x_ => ⟨82,mkS [(2,.x (.one (.ptr 102 0))),(3,.x (.one (.ptr 103 0))),(5,.x (.one (.p (pi i)))),(6,.x (.one (.p (pi x_))))],mkH [(102,.var [.p (.val (.string (bs a.Kind))),.p (pi a.Source),.p (pi a.Number),.p (.sl 1 (List.map encL_encS a.Rows))]),(103,.var [.p (.val (.string (bs b.Kind))),.p (pi b.Source),.p (pi b.Number),.p (.sl 1 (List.map encL_encS b.Rows))])]⟩) hv_1 imp_au ?_
              · rintro k o_2 H2 k_2
                unfold law03_same_l3 at H2
                try dsimp only at H2 ⊢
                refine lok_seq ?_
                replace H2:=req_some H2
                obtain ⟨q_8,H2⟩:=H2
                refine lok_rt E0 (⟨82,mkS [(2,.x (.one (.ptr 102 0))),(3,.x (.one (.ptr 103 0))),(5,.x (.one (.p (pi i)))),(6,.x (.one (.p (pi k)))),(62,.x (.one (.p (.val (.bool (decide (k<((ix a.Rows i).length:Int))))))))],mkH [(102,.var [.p (.val (.string (bs a.Kind))),.p (pi a.Source),.p (pi a.Number),.p (.sl 1 (List.map encL_encS a.Rows))]),(103,.var [.p (.val (.string (bs b.Kind))),.p (pi b.Source),.p (pi b.Number),.p (.sl 1 (List.map encL_encS b.Rows))])]⟩) ?_
                refine lok_c (decide (k<((ix a.Rows i).length:Int))) ?_ ?_
                · intro b_7
                  replace H2:=cpos H2 b_7
                  refine lok_skip ?_
                  try simp only [thenL,blockL,↓reduceIte,reduceCtorEq]
                  refine lok_seq ?_
                  refine lok_block ?_
                  replace H2:=req_some H2
                  obtain ⟨⟨q_3,q_4,q_5,q_6⟩,H2⟩:=H2
                  refine lok_dt E0 16 (⟨82,mkS [(2,.x (.one (.ptr 102 0))),(3,.x (.one (.ptr 103 0))),(5,.x (.one (.p (pi i)))),(6,.x (.one (.p (pi k)))),(81,.x (.one (.p (.val (.bool (!((ix (ix a.Rows i) k)==(ix (ix b.Rows i) k))))))))],mkH [(102,.var [.p (.val (.string (bs a.Kind))),.p (pi a.Source),.p (pi a.Number),.p (.sl 1 (List.map encL_encS a.Rows))]),(103,.var [.p (.val (.string (bs b.Kind))),.p (pi b.Source),.p (pi b.Number),.p (.sl 1 (List.map encL_encS b.Rows))])]⟩) (by kernel_rfl) (by kernel_rfl) ?_
                  refine lok_c (!((ix (ix a.Rows i) k)==(ix (ix b.Rows i) k))) ?_ ?_
                  · intro b_2
                    replace H2:=cpos H2 b_2
                    refine lok_rt E0 (⟨82,mkS [(4,.x (.one (.p (.val (.bool false)))))],mkH []⟩) ?_
                    refine lok_ret ?_
                    try simp only [thenL,blockL,↓reduceIte,reduceCtorEq]
                    have e_2:=k_2 _ (Option.some.inj H2).symm
                    subst e_2
                    try dsimp only at H1
                    try simp only [thenL,blockL,↓reduceIte,reduceCtorEq]
                    have e_1:=k_1 _ (Option.some.inj H1).symm
                    subst e_1
                    try dsimp only at H0
                    try obtain rfl:=Option.some.inj H0
                    try simp only [thenL,blockL]
                    exact fin_au _ (.inr rfl) [] (⟨82,mkS [(4,.x (.one (.p (.val (.bool false)))))],mkH []⟩) rfl rfl imp_au
                  · intro b_2
                    replace H2:=cneg H2 b_2
                    refine lok_skip ?_
                    try simp only [thenL,blockL,↓reduceIte,reduceCtorEq]
                    refine lok_rl E0 (⟨82,mkS [(2,.x (.one (.ptr 102 0))),(3,.x (.one (.ptr 103 0))),(5,.x (.one (.p (pi i)))),(6,.x (.one (.p (pi (IntKind.i64.wrap (k+(1:Int)))))))],mkH [(102,.var [.p (.val (.string (bs a.Kind))),.p (pi a.Source),.p (pi a.Number),.p (.sl 1 (List.map encL_encS a.Rows))]),(103,.var [.p (.val (.string (bs b.Kind))),.p (pi b.Source),.p (pi b.Number),.p (.sl 1 (List.map encL_encS b.Rows))])]⟩) ?_
                    try simp only [thenL,blockL,↓reduceIte,reduceCtorEq]
                    exact ⟨(IntKind.i64.wrap (k+(1:Int))),(Option.some.inj H2).symm,imp_au⟩
                · intro b_7
                  replace H2:=cneg H2 b_7
                  refine lok_exit ?_
                  try simp only [thenL,blockL,↓reduceIte,reduceCtorEq]
                  have e_2:=k_2 _ (Option.some.inj H2).symm
                  subst e_2
                  try dsimp only at H1
                  try simp only [thenL,blockL,↓reduceIte,reduceCtorEq]
                  exact ⟨(),H1,imp_au⟩
        · intro b_12
          replace H1:=cneg H1 b_12
          refine lok_exit ?_
          try simp only [thenL,blockL,↓reduceIte,reduceCtorEq]
          have e_1:=k_1 _ (Option.some.inj H1).symm
          subst e_1
          try dsimp only at H0
          try simp only [thenL,blockL,↓reduceIte,reduceCtorEq]
          exact ⟨(),H0,imp_au⟩
theorem ok_law03_awake  (r_:Bool) (H0:law03_awake=some r_):CallOK Tryd.prog 19 [] [] [.one (.p (.val (.bool r_)))] []:=by
  refine callOK (n:=40) (rs:=[.tmp 0]) (nb:=0) (V:=[]) Tryd.func19 rfl (by kernel_rfl) rfl rfl rfl rfl (Nat.le_of_ble_eq_true rfl) (by decide) ?_
  unfold law03_awake at H0
  refine lok_rt E0 (⟨40,mkS [],mkH []⟩) ?_
  refine lok_rt E0 (⟨40,mkS [(1,.x (.one (.ptr 101 0)))],mkH [(101,.var [.p (.val (.string (bs ([69,78,84,82,89]:Str)))),.p (pi (7:Int)),.p (pi (3:Int)),.fl 1 (List.map encL_encS ([[([49,50]:Str),([97,124,98]:Str)]]))])]⟩) ?_
  replace H0:=bind_some H0
  obtain ⟨⟨y,y1⟩,h_0,H0⟩:=H0
  try dsimp only at H0
  refine lok_rt (Env.of E0 [⟨some 11,15,[.agg [.p (.val (.string (bs ([69,78,84,82,89]:Str)))),.p (pi (7:Int)),.p (pi (3:Int)),.p (.sl 1 (List.map encL_encS ([[([49,50]:Str),([97,124,98]:Str)]])))]],[],[.one (.p (.val (.string (bs y)))),.one (.p (pi y1))],[],True,fun _ => ok_exchange_Format (api_File.mk ([69,78,84,82,89]:Str) (7:Int) (3:Int) ([[([49,50]:Str),([97,124,98]:Str)]])) (y,y1) h_0,[]⟩]) (⟨40,mkS [(1,.x (.one (.ptr 101 0))),(2,.x (.one (.p (.val (.string (bs y)))))),(3,.x (.one (.p (pi y1))))],mkH [(101,.var [.p (.val (.string (bs ([69,78,84,82,89]:Str)))),.p (pi (7:Int)),.p (pi (3:Int)),.fl 1 (List.map encL_encS ([[([49,50]:Str),([97,124,98]:Str)]]))])]⟩) ?_
  replace H0:=bind_some H0
  obtain ⟨⟨y2,y3⟩,h_1,H0⟩:=H0
  try dsimp only at H0
  refine lok_rt (Env.of E0 [⟨some 16,21,[.one (.p (.val (.string (bs y))))],[],[.agg [.p (.val (.string (bs y2.Kind))),.p (pi y2.Source),.p (pi y2.Number),.p (.sl 1 (List.map encL_encS y2.Rows))],.one (.p (pi y3))],[],True,fun _ => ok_exchange_Parse y (y2,y3) h_1,[]⟩]) (⟨40,mkS [(1,.x (.one (.ptr 101 0))),(2,.x (.one (.p (.val (.string (bs y)))))),(3,.x (.one (.p (pi y1)))),(4,.x (.one (.ptr 104 0))),(5,.x (.one (.p (pi y3))))],mkH [(101,.var [.p (.val (.string (bs ([69,78,84,82,89]:Str)))),.p (pi (7:Int)),.p (pi (3:Int)),.fl 1 (List.map encL_encS ([[([49,50]:Str),([97,124,98]:Str)]]))]),(104,.var [.p (.val (.string (bs y2.Kind))),.p (pi y2.Source),.p (pi y2.Number),.p (.sl 1 (List.map encL_encS y2.Rows))])]⟩) ?_
  replace H0:=req_some H0
  obtain ⟨⟨q_2,q_3⟩,H0⟩:=H0
  refine lok_rt (Env.of E0 [⟨some 28,22,[.agg [.p (.val (.string (bs ([69,78,84,82,89]:Str)))),.p (pi (7:Int)),.p (pi (3:Int)),.p (.sl 1 (List.map encL_encS ([[([49,50]:Str),([97,124,98]:Str)]])))],.agg [.p (.val (.string (bs y2.Kind))),.p (pi y2.Source),.p (pi y2.Number),.p (.sl 1 (List.map encL_encS y2.Rows))]],[],[.one (.p (.val (.bool ((law03_same (api_File.mk ([69,78,84,82,89]:Str) (7:Int) (3:Int) ([[([49,50]:Str),([97,124,98]:Str)]])) y2).getD default))))],[],(law03_same (api_File.mk ([69,78,84,82,89]:Str) (7:Int) (3:Int) ([[([49,50]:Str),([97,124,98]:Str)]])) y2).isSome=true,fun h => ok_law03_same (api_File.mk ([69,78,84,82,89]:Str) (7:Int) (3:Int) ([[([49,50]:Str),([97,124,98]:Str)]])) y2 _ (isSome_get h),[]⟩]) (⟨40,mkS [(0,.x (.one (.p (.val (.bool (((((y1==(0:Int))&&(y3==(0:Int)))&&((law03_same (api_File.mk ([69,78,84,82,89]:Str) (7:Int) (3:Int) ([[([49,50]:Str),([97,124,98]:Str)]])) y2).getD default))&&(decide ((30:Int)<(y.length:Int))))&&((List.take (30:Int).toNat y)==([70,73,76,69,124,69,78,84,82,89,124,55,124,51,10,82,79,87,124,49,50,124,97,92,112,98,10,69,78,68]:Str))))))))],mkH []⟩) ?_
  refine lok_ret ?_
  try obtain rfl:=Option.some.inj H0
  try simp only [thenL,blockL]
  exact fin_au _ (.inr rfl) [] (⟨40,mkS [(0,.x (.one (.p (.val (.bool (((((y1==(0:Int))&&(y3==(0:Int)))&&((law03_same (api_File.mk ([69,78,84,82,89]:Str) (7:Int) (3:Int) ([[([49,50]:Str),([97,124,98]:Str)]])) y2).getD default))&&(decide ((30:Int)<(y.length:Int))))&&((List.take (30:Int).toNat y)==([70,73,76,69,124,69,78,84,82,89,124,55,124,51,10,82,79,87,124,49,50,124,97,92,112,98,10,69,78,68]:Str))))))))],mkH []⟩) rfl rfl imp_au
theorem ok_make_Cut (x:Int) (n:Int) (r_:Int) (H0:make_Cut x n=some r_):CallOK Tryd.prog 20 [.one (.p (pi x)),.one (.p (pi n))] [] [.one (.p (pi r_))] []:=by
  refine callOK (n:=16) (rs:=[.tmp 4]) (nb:=0) (V:=[]) Tryd.func20 rfl (by kernel_rfl) rfl rfl rfl rfl (Nat.le_of_ble_eq_true rfl) (by decide) ?_
  unfold make_Cut at H0
  refine lok_rt E0 (⟨16,mkS [(0,.x (.one (.p (pi x)))),(1,.x (.one (.p (pi n))))],mkH []⟩) ?_
  refine lok_seq ?_
  refine lok_rt E0 (⟨16,mkS [(0,.x (.one (.p (pi x)))),(1,.x (.one (.p (pi n)))),(6,.x (.one (.p (.val (.bool (decide (n<(1:Int))))))))],mkH []⟩) ?_
  refine lok_c (decide (n<(1:Int))) ?_ ?_
  · intro b_2
    replace H0:=cpos H0 b_2
    refine lok_rt E0 (⟨16,mkS [(4,.x (.one (.p (pi (0:Int)))))],mkH []⟩) ?_
    refine lok_ret ?_
    try obtain rfl:=Option.some.inj H0
    try simp only [thenL,blockL]
    exact fin_au _ (.inr rfl) [] (⟨16,mkS [(4,.x (.one (.p (pi (0:Int)))))],mkH []⟩) rfl rfl imp_au
  · intro b_2
    replace H0:=cneg H0 b_2
    refine lok_skip ?_
    try simp only [thenL,blockL,↓reduceIte,reduceCtorEq]
    replace H0:=req_some H0
    obtain ⟨q_1,H0⟩:=H0
    refine lok_rt E0 (⟨16,mkS [(0,.x (.one (.p (pi (Int.tmod x n))))),(1,.x (.one (.p (pi n))))],mkH []⟩) ?_
    refine lok_join (fun x_:Int => make_Cut_j1 x_=some r_) (fun x_ => ⟨16,mkS [(0,.x (.one (.p (pi x_))))],mkH []⟩) ?hymake_Cut_j1 ?hxmake_Cut_j1
    case hymake_Cut_j1 =>
      rintro x1 H0
      try dsimp only at H0 ⊢
      unfold make_Cut_j1 at H0
      refine lok_rt E0 (⟨16,mkS [(4,.x (.one (.p (pi x1))))],mkH []⟩) ?_
      refine lok_ret ?_
      try obtain rfl:=Option.some.inj H0
      try simp only [thenL,blockL]
      exact fin_au _ (.inr rfl) [] (⟨16,mkS [(4,.x (.one (.p (pi x1))))],mkH []⟩) rfl rfl imp_au
    case hxmake_Cut_j1 =>
      refine lok_rt E0 (⟨16,mkS [(0,.x (.one (.p (pi (Int.tmod x n))))),(1,.x (.one (.p (pi n)))),(11,.x (.one (.p (.val (.bool (decide ((Int.tmod x n)<(0:Int))))))))],mkH []⟩) ?_
      refine lok_c (decide ((Int.tmod x n)<(0:Int))) ?_ ?_
      · intro b_0
        replace H0:=cpos H0 b_0
        refine lok_rl E0 (⟨16,mkS [(0,.x (.one (.p (pi (IntKind.i64.wrap ((Int.tmod x n)+n))))))],mkH []⟩) ?_
        try simp only [thenL,blockL,↓reduceIte,reduceCtorEq]
        exact ⟨(IntKind.i64.wrap ((Int.tmod x n)+n)),H0,imp_au⟩
      · intro b_0
        replace H0:=cneg H0 b_0
        refine lok_skip ?_
        try simp only [thenL,blockL,↓reduceIte,reduceCtorEq]
        exact ⟨(Int.tmod x n),H0,imp_au⟩
theorem ok_make_Tape_Raw (t:make_Tape) (r_:Int × make_Tape) (H0:make_Tape_Raw t=some r_):CallOK Tryd.prog 56 [.one (.ptr 0 0)] [.var [.p (.sl 1 (List.map encI t.L)),.p (pi t.At)]] [.one (.p (pi r_.1))] [some (.var [.p (.sl 1 (List.map encI r_.2.L)),.p (pi r_.2.At)])]:=by
  refine callOK (n:=31) (rs:=[.tmp 2]) (nb:=1) (V:=[0]) Tryd.func56 rfl (by kernel_rfl) rfl rfl rfl rfl (Nat.le_of_ble_eq_true rfl) (by decide) ?_
  unfold make_Tape_Raw at H0
  refine lok_rt E0 (⟨31,mkS [(0,.x (.one (.ptr 0 0)))],mkH [(0,.var [.p (.sl 1 (List.map encI t.L)),.p (pi t.At)])]⟩) ?_
  refine lok_seq ?_
  refine lok_dt E0 9 (⟨31,mkS [(0,.x (.one (.ptr 0 0))),(12,.x (.one (.p (.val (.bool (decide ((t.L.length:Int)≤t.At)))))))],mkH [(0,.var [.p (.sl 1 (List.map encI t.L)),.p (pi t.At)])]⟩) (by kernel_rfl) (by kernel_rfl) ?_
  refine lok_c (decide ((t.L.length:Int)≤t.At)) ?_ ?_
  · intro b_2
    replace H0:=cpos H0 b_2
    refine lok_rt E0 (⟨31,mkS [(2,.x (.one (.p (pi (0:Int)))))],mkH [(0,.var [.p (.sl 1 (List.map encI t.L)),.p (pi t.At)])]⟩) ?_
    refine lok_ret ?_
    try obtain rfl:=Option.some.inj H0
    try simp only [thenL,blockL]
    exact fin_au _ (.inr rfl) [0] (⟨31,mkS [(2,.x (.one (.p (pi (0:Int)))))],mkH [(0,.var [.p (.sl 1 (List.map encI t.L)),.p (pi t.At)])]⟩) rfl rfl imp_au
  · intro b_2
    replace H0:=cneg H0 b_2
    refine lok_skip ?_
    try simp only [thenL,blockL,↓reduceIte,reduceCtorEq]
    refine lok_rt E0 (⟨31,mkS [(0,.x (.one (.ptr 0 0)))],mkH [(0,.var [.p (.sl 1 (List.map encI t.L)),.p (pi (IntKind.i64.wrap (t.At+(1:Int))))])]⟩) ?_
    replace H0:=req_some H0
    obtain ⟨q_1,H0⟩:=H0
    replace H0:=bindV_some H0
    obtain ⟨v,a_0,H0⟩:=H0
    refine lok_dtg E0 9 a_0 (⟨31,mkS [(2,.x (.one (.p (pi v))))],mkH [(0,.var [.p (.sl 1 (List.map encI t.L)),.p (pi (IntKind.i64.wrap (t.At+(1:Int))))])]⟩) (by kernel_rfl) (by kernel_rfl) ?_
    refine lok_ret ?_
    try obtain rfl:=Option.some.inj H0
    try simp only [thenL,blockL]
    exact fin_au _ (.inr rfl) [0] (⟨31,mkS [(2,.x (.one (.p (pi v))))],mkH [(0,.var [.p (.sl 1 (List.map encI t.L)),.p (pi (IntKind.i64.wrap (t.At+(1:Int))))])]⟩) rfl rfl imp_au
theorem ok_make_Tape_Next (t:make_Tape) (n:Int) (r_:Int × make_Tape) (H0:make_Tape_Next t n=some r_):CallOK Tryd.prog 25 [.one (.ptr 0 0),.one (.p (pi n))] [.var [.p (.sl 1 (List.map encI t.L)),.p (pi t.At)]] [.one (.p (pi r_.1))] [some (.var [.p (.sl 1 (List.map encI r_.2.L)),.p (pi r_.2.At)])]:=by
  refine callOK (n:=9) (rs:=[.tmp 4]) (nb:=1) (V:=[0]) Tryd.func25 rfl (by kernel_rfl) rfl rfl rfl rfl (Nat.le_of_ble_eq_true rfl) (by decide) ?_
  unfold make_Tape_Next at H0
  refine lok_rt E0 (⟨9,mkS [(0,.x (.one (.ptr 0 0))),(1,.x (.one (.p (pi n))))],mkH [(0,.var [.p (.sl 1 (List.map encI t.L)),.p (pi t.At)])]⟩) ?_
  replace H0:=bind_some H0
  obtain ⟨⟨y,y1⟩,h_0,H0⟩:=H0
  try dsimp only at H0
  replace H0:=bind_some H0
  obtain ⟨y2,h_1,H0⟩:=H0
  refine lok_rt (Env.of E0 [⟨some 6,56,[.one (.ptr 0 0)],[.var [.p (.sl 1 (List.map encI t.L)),.p (pi t.At)]],[.one (.p (pi y))],[some (.var [.p (.sl 1 (List.map encI y1.L)),.p (pi y1.At)])],True,fun _ => ok_make_Tape_Raw t (y,y1) h_0,[]⟩,
      ⟨some 8,20,[.one (.p (pi y)),.one (.p (pi n))],[],[.one (.p (pi y2))],[],True,fun _ => ok_make_Cut y n y2 h_1,[]⟩]) (⟨9,mkS [(4,.x (.one (.p (pi y2))))],mkH [(0,.var [.p (.sl 1 (List.map encI y1.L)),.p (pi y1.At)])]⟩) ?_
  refine lok_ret ?_
  try obtain rfl:=Option.some.inj H0
  try simp only [thenL,blockL]
  exact fin_au _ (.inr rfl) [0] (⟨9,mkS [(4,.x (.one (.p (pi y2))))],mkH [(0,.var [.p (.sl 1 (List.map encI y1.L)),.p (pi y1.At)])]⟩) rfl rfl imp_au
theorem ok_make_Tape_Range (t:make_Tape) (low:Int) (high:Int) (r_:Int × make_Tape) (H0:make_Tape_Range t low high=some r_):CallOK Tryd.prog 24 [.one (.ptr 0 0),.one (.p (pi low)),.one (.p (pi high))] [.var [.p (.sl 1 (List.map encI t.L)),.p (pi t.At)]] [.one (.p (pi r_.1))] [some (.var [.p (.sl 1 (List.map encI r_.2.L)),.p (pi r_.2.At)])]:=by
  refine callOK (n:=15) (rs:=[.tmp 6]) (nb:=1) (V:=[0]) Tryd.func24 rfl (by kernel_rfl) rfl rfl rfl rfl (Nat.le_of_ble_eq_true rfl) (by decide) ?_
  unfold make_Tape_Range at H0
  refine lok_rt E0 (⟨15,mkS [(0,.x (.one (.ptr 0 0))),(1,.x (.one (.p (pi low)))),(2,.x (.one (.p (pi high))))],mkH [(0,.var [.p (.sl 1 (List.map encI t.L)),.p (pi t.At)])]⟩) ?_
  replace H0:=bind_some H0
  obtain ⟨⟨y,y1⟩,h_0,H0⟩:=H0
  try dsimp only at H0
  refine lok_rt (Env.of E0 [⟨some 13,25,[.one (.ptr 0 0),.one (.p (pi (IntKind.i64.wrap ((IntKind.i64.wrap (high-low))+(1:Int)))))],[.var [.p (.sl 1 (List.map encI t.L)),.p (pi t.At)]],[.one (.p (pi y))],[some (.var [.p (.sl 1 (List.map encI y1.L)),.p (pi y1.At)])],True,fun _ => ok_make_Tape_Next t (IntKind.i64.wrap ((IntKind.i64.wrap (high-low))+(1:Int))) (y,y1) h_0,[]⟩]) (⟨15,mkS [(6,.x (.one (.p (pi (IntKind.i64.wrap (low+y))))))],mkH [(0,.var [.p (.sl 1 (List.map encI y1.L)),.p (pi y1.At)])]⟩) ?_
  refine lok_ret ?_
  try obtain rfl:=Option.some.inj H0
  try simp only [thenL,blockL]
  exact fin_au _ (.inr rfl) [0] (⟨15,mkS [(6,.x (.one (.p (pi (IntKind.i64.wrap (low+y))))))],mkH [(0,.var [.p (.sl 1 (List.map encI y1.L)),.p (pi y1.At)])]⟩) rfl rfl imp_au
theorem ok_make_Tape_Text (t:make_Tape) (most:Int) (r_:Str × make_Tape) (H0:make_Tape_Text t most=some r_):CallOK Tryd.prog 34 [.one (.ptr 0 0),.one (.p (pi most))] [.var [.p (.sl 1 (List.map encI t.L)),.p (pi t.At)]] [.one (.p (.val (.string (bs r_.1))))] [some (.var [.p (.sl 1 (List.map encI r_.2.L)),.p (pi r_.2.At)])]:=by
  refine callOK (n:=24) (rs:=[.tmp 4]) (nb:=1) (V:=[0]) Tryd.func34 rfl (by kernel_rfl) rfl rfl rfl rfl (Nat.le_of_ble_eq_true rfl) (by decide) ?_
  unfold make_Tape_Text at H0
  refine lok_rt E0 (⟨24,mkS [(0,.x (.one (.ptr 0 0))),(1,.x (.one (.p (pi most))))],mkH [(0,.var [.p (.sl 1 (List.map encI t.L)),.p (pi t.At)])]⟩) ?_
  refine lok_rt E0 (⟨24,mkS [(0,.x (.one (.ptr 0 0))),(1,.x (.one (.p (pi most)))),(5,.x (.one (.p (.val (.string (bs ([]:Str)))))))],mkH [(0,.var [.p (.sl 1 (List.map encI t.L)),.p (pi t.At)])]⟩) ?_
  refine lok_join (fun x_:Str × (List Int) × Int => make_Tape_Text_j1 x_.1 x_.2.1 x_.2.2=some r_) (fun x_ => ⟨24,mkS [(5,.x (.one (.p (.val (.string (bs x_.1))))))],mkH [(0,.var [.p (.sl 1 (List.map encI x_.2.1)),.p (pi x_.2.2)])]⟩) ?hymake_Tape_Text_j1 ?hxmake_Tape_Text_j1
  case hymake_Tape_Text_j1 =>
    rintro ⟨s,t1,t2⟩ H0
    try dsimp only at H0 ⊢
    unfold make_Tape_Text_j1 at H0
    refine lok_rt E0 (⟨24,mkS [(4,.x (.one (.p (.val (.string (bs s))))))],mkH [(0,.var [.p (.sl 1 (List.map encI t1)),.p (pi t2)])]⟩) ?_
    refine lok_ret ?_
    try obtain rfl:=Option.some.inj H0
    try simp only [thenL,blockL]
    exact fin_au _ (.inr rfl) [0] (⟨24,mkS [(4,.x (.one (.p (.val (.string (bs s))))))],mkH [(0,.var [.p (.sl 1 (List.map encI t1)),.p (pi t2)])]⟩) rfl rfl imp_au
  case hxmake_Tape_Text_j1 =>
    replace H0:=bind_some H0
    obtain ⟨⟨y,y1⟩,h_0,H0⟩:=H0
    try dsimp only at H0
    refine lok_rt (Env.of E0 [⟨some 10,24,[.one (.ptr 0 0),.one (.p (pi (0:Int))),.one (.p (pi most))],[.var [.p (.sl 1 (List.map encI t.L)),.p (pi t.At)]],[.one (.p (pi y))],[some (.var [.p (.sl 1 (List.map encI y1.L)),.p (pi y1.At)])],True,fun _ => ok_make_Tape_Range t (0:Int) most (y,y1) h_0,[]⟩]) (⟨24,mkS [(0,.x (.one (.ptr 0 0))),(5,.x (.one (.p (.val (.string (bs ([]:Str))))))),(6,.x (.one (.p (pi y))))],mkH [(0,.var [.p (.sl 1 (List.map encI y1.L)),.p (pi y1.At)])]⟩) ?_
    refine lok_block ?_
    replace H0:=bind_some H0
    obtain ⟨v_1,hv_1,H0⟩:=H0
    refine lok_iter (fun x_ => ⟨24,mkS [(0,.x (.one (.ptr 0 0))),(5,.x (.one (.p (.val (.string (bs x_.1)))))),(6,.x (.one (.p (pi x_.2.1))))],mkH [(0,.var [.p (.sl 1 (List.map encI x_.2.2.1)),.p (pi x_.2.2.2)])]⟩) hv_1 imp_au ?_
    · rintro ⟨s1,i,t3,t4⟩ o_1 H1 k_1
      unfold make_Tape_Text_l2 at H1
      try dsimp only at H1 ⊢
      refine lok_seq ?_
      refine lok_rt E0 (⟨24,mkS [(0,.x (.one (.ptr 0 0))),(5,.x (.one (.p (.val (.string (bs s1)))))),(6,.x (.one (.p (pi i)))),(12,.x (.one (.p (.val (.bool (decide ((0:Int)<i)))))))],mkH [(0,.var [.p (.sl 1 (List.map encI t3)),.p (pi t4)])]⟩) ?_
      refine lok_c (decide ((0:Int)<i)) ?_ ?_
      · intro b_6
        replace H1:=cpos H1 b_6
        refine lok_skip ?_
        try simp only [thenL,blockL,↓reduceIte,reduceCtorEq]
        refine lok_seq ?_
        refine lok_block ?_
        replace H1:=bind_some H1
        obtain ⟨⟨y2,y3⟩,h_2,H1⟩:=H1
        try dsimp only at H1
        refine lok_rt (Env.of E0 [⟨some 16,25,[.one (.ptr 0 0),.one (.p (pi (12:Int)))],[.var [.p (.sl 1 (List.map encI t3)),.p (pi t4)]],[.one (.p (pi y2))],[some (.var [.p (.sl 1 (List.map encI y3.L)),.p (pi y3.At)])],True,fun _ => ok_make_Tape_Next (make_Tape.mk t3 t4) (12:Int) (y2,y3) h_2,[]⟩]) (⟨24,mkS [(0,.x (.one (.ptr 0 0))),(5,.x (.one (.p (.val (.string (bs s1)))))),(6,.x (.one (.p (pi i)))),(7,.x (.one (.p (pi y2))))],mkH [(0,.var [.p (.sl 1 (List.map encI y3.L)),.p (pi y3.At)])]⟩) ?_
        replace H1:=req_some H1
        obtain ⟨⟨q_4,q_5⟩,H1⟩:=H1
        replace H1:=bindV_some H1
        obtain ⟨s3,a_3,H1⟩:=H1
        refine lok_rlg E0 a_3 (⟨24,mkS [(0,.x (.one (.ptr 0 0))),(5,.x (.one (.p (.val (.string (bs s3)))))),(6,.x (.one (.p (pi i))))],mkH [(0,.var [.p (.sl 1 (List.map encI y3.L)),.p (pi y3.At)])]⟩) ?_
        try simp only [thenL,blockL,↓reduceIte,reduceCtorEq]
        refine lok_rl E0 (⟨24,mkS [(0,.x (.one (.ptr 0 0))),(5,.x (.one (.p (.val (.string (bs s3)))))),(6,.x (.one (.p (pi (IntKind.i64.wrap (i-(1:Int)))))))],mkH [(0,.var [.p (.sl 1 (List.map encI y3.L)),.p (pi y3.At)])]⟩) ?_
        try simp only [thenL,blockL,↓reduceIte,reduceCtorEq]
        exact ⟨(s3,(IntKind.i64.wrap (i-(1:Int))),y3.L,y3.At),(Option.some.inj H1).symm,imp_au⟩
      · intro b_6
        replace H1:=cneg H1 b_6
        refine lok_exit ?_
        try simp only [thenL,blockL,↓reduceIte,reduceCtorEq]
        have e_1:=k_1 _ (Option.some.inj H1).symm
        subst e_1
        try dsimp only at H0
        try simp only [thenL,blockL,↓reduceIte,reduceCtorEq]
        exact ⟨(s1,t3,t4),H0,imp_au⟩
theorem ok_make_Tape_One (t:make_Tape) (n:Int) (r_:Bool × make_Tape) (H0:make_Tape_One t n=some r_):CallOK Tryd.prog 35 [.one (.ptr 0 0),.one (.p (pi n))] [.var [.p (.sl 1 (List.map encI t.L)),.p (pi t.At)]] [.one (.p (.val (.bool r_.1)))] [some (.var [.p (.sl 1 (List.map encI r_.2.L)),.p (pi r_.2.At)])]:=by
  refine callOK (n:=11) (rs:=[.tmp 4]) (nb:=1) (V:=[0]) Tryd.func35 rfl (by kernel_rfl) rfl rfl rfl rfl (Nat.le_of_ble_eq_true rfl) (by decide) ?_
  unfold make_Tape_One at H0
  refine lok_rt E0 (⟨11,mkS [(0,.x (.one (.ptr 0 0))),(1,.x (.one (.p (pi n))))],mkH [(0,.var [.p (.sl 1 (List.map encI t.L)),.p (pi t.At)])]⟩) ?_
  replace H0:=bind_some H0
  obtain ⟨⟨y,y1⟩,h_0,H0⟩:=H0
  try dsimp only at H0
  refine lok_rt (Env.of E0 [⟨some 7,25,[.one (.ptr 0 0),.one (.p (pi n))],[.var [.p (.sl 1 (List.map encI t.L)),.p (pi t.At)]],[.one (.p (pi y))],[some (.var [.p (.sl 1 (List.map encI y1.L)),.p (pi y1.At)])],True,fun _ => ok_make_Tape_Next t n (y,y1) h_0,[]⟩]) (⟨11,mkS [(4,.x (.one (.p (.val (.bool (y==(IntKind.i64.wrap (n-(1:Int)))))))))],mkH [(0,.var [.p (.sl 1 (List.map encI y1.L)),.p (pi y1.At)])]⟩) ?_
  refine lok_ret ?_
  try obtain rfl:=Option.some.inj H0
  try simp only [thenL,blockL]
  exact fin_au _ (.inr rfl) [0] (⟨11,mkS [(4,.x (.one (.p (.val (.bool (y==(IntKind.i64.wrap (n-(1:Int)))))))))],mkH [(0,.var [.p (.sl 1 (List.map encI y1.L)),.p (pi y1.At)])]⟩) rfl rfl imp_au
theorem ok_make_Tape_Pick (t:make_Tape) (l:List Int) (r_:Int × make_Tape) (H0:make_Tape_Pick t l=some r_):CallOK Tryd.prog 58 [.one (.ptr 0 0),.one (.p (.sl 1 (List.map encI l)))] [.var [.p (.sl 1 (List.map encI t.L)),.p (pi t.At)]] [.one (.p (pi r_.1))] [some (.var [.p (.sl 1 (List.map encI r_.2.L)),.p (pi r_.2.At)])]:=by
  refine callOK (n:=12) (rs:=[.tmp 4]) (nb:=1) (V:=[0]) Tryd.func58 rfl (by kernel_rfl) rfl rfl rfl rfl (Nat.le_of_ble_eq_true rfl) (by decide) ?_
  unfold make_Tape_Pick at H0
  refine lok_rt E0 (⟨12,mkS [(0,.x (.one (.ptr 0 0))),(1,.x (.one (.p (.sl 1 (List.map encI l)))))],mkH [(0,.var [.p (.sl 1 (List.map encI t.L)),.p (pi t.At)])]⟩) ?_
  replace H0:=bind_some H0
  obtain ⟨⟨y,y1⟩,h_0,H0⟩:=H0
  try dsimp only at H0
  replace H0:=req_some H0
  obtain ⟨q_1,H0⟩:=H0
  refine lok_rt (Env.of E0 [⟨some 9,25,[.one (.ptr 0 0),.one (.p (pi (l.length:Int)))],[.var [.p (.sl 1 (List.map encI t.L)),.p (pi t.At)]],[.one (.p (pi y))],[some (.var [.p (.sl 1 (List.map encI y1.L)),.p (pi y1.At)])],True,fun _ => ok_make_Tape_Next t (l.length:Int) (y,y1) h_0,[]⟩]) (⟨12,mkS [(4,.x (.one (.p (pi (ix l y)))))],mkH [(0,.var [.p (.sl 1 (List.map encI y1.L)),.p (pi y1.At)])]⟩) ?_
  refine lok_ret ?_
  try obtain rfl:=Option.some.inj H0
  try simp only [thenL,blockL]
  exact fin_au _ (.inr rfl) [0] (⟨12,mkS [(4,.x (.one (.p (pi (ix l y)))))],mkH [(0,.var [.p (.sl 1 (List.map encI y1.L)),.p (pi y1.At)])]⟩) rfl rfl imp_au
theorem ok_make_Tape_Wild (t:make_Tape) (r_:Int × make_Tape) (H0:make_Tape_Wild t=some r_):CallOK Tryd.prog 36 [.one (.ptr 0 0)] [.var [.p (.sl 1 (List.map encI t.L)),.p (pi t.At)]] [.one (.p (pi r_.1))] [some (.var [.p (.sl 1 (List.map encI r_.2.L)),.p (pi r_.2.At)])]:=by
  refine callOK (n:=6) (rs:=[.tmp 2]) (nb:=1) (V:=[0]) Tryd.func36 rfl (by kernel_rfl) rfl rfl rfl rfl (Nat.le_of_ble_eq_true rfl) (by decide) ?_
  unfold make_Tape_Wild at H0
  refine lok_rt E0 (⟨6,mkS [(0,.x (.one (.ptr 0 0)))],mkH [(0,.var [.p (.sl 1 (List.map encI t.L)),.p (pi t.At)])]⟩) ?_
  replace H0:=bind_some H0
  obtain ⟨⟨y,y1⟩,h_0,H0⟩:=H0
  try dsimp only at H0
  refine lok_rt (Env.of E0 [⟨some 5,58,[.one (.ptr 0 0),.one (.p (.sl 1 (List.map encI ([(-1:Int),(0:Int),(1:Int),(2:Int),(31:Int),(32:Int),(99:Int),(100:Int),(200:Int),(201:Int),(9999:Int),(10000:Int),(1000000:Int),(1000001:Int),(1152921504606846976:Int),(1152921504606846977:Int),(-1152921504606846976:Int),(9223372036854775807:Int),(-9223372036854775808:Int)]))))],[.var [.p (.sl 1 (List.map encI t.L)),.p (pi t.At)]],[.one (.p (pi y))],[some (.var [.p (.sl 1 (List.map encI y1.L)),.p (pi y1.At)])],True,fun _ => ok_make_Tape_Pick t ([(-1:Int),(0:Int),(1:Int),(2:Int),(31:Int),(32:Int),(99:Int),(100:Int),(200:Int),(201:Int),(9999:Int),(10000:Int),(1000000:Int),(1000001:Int),(1152921504606846976:Int),(1152921504606846977:Int),(-1152921504606846976:Int),(9223372036854775807:Int),(-9223372036854775808:Int)]) (y,y1) h_0,[]⟩]) (⟨6,mkS [(2,.x (.one (.p (pi y))))],mkH [(0,.var [.p (.sl 1 (List.map encI y1.L)),.p (pi y1.At)])]⟩) ?_
  refine lok_ret ?_
  try obtain rfl:=Option.some.inj H0
  try simp only [thenL,blockL]
  exact fin_au _ (.inr rfl) [0] (⟨6,mkS [(2,.x (.one (.p (pi y))))],mkH [(0,.var [.p (.sl 1 (List.map encI y1.L)),.p (pi y1.At)])]⟩) rfl rfl imp_au
set_option maxHeartbeats 4000000 in
theorem ok_make_Tape_File (t:make_Tape) (n:Int) (r_:api_File × make_Tape) (H0:make_Tape_File t n=some r_):CallOK Tryd.prog 14 [.one (.ptr 0 0),.one (.p (pi n))] [.var [.p (.sl 1 (List.map encI t.L)),.p (pi t.At)]] [.agg [.p (.val (.string (bs r_.1.Kind))),.p (pi r_.1.Source),.p (pi r_.1.Number),.p (.sl 1 (List.map encL_encS r_.1.Rows))]] [some (.var [.p (.sl 1 (List.map encI r_.2.L)),.p (pi r_.2.At)])]:=by
  refine callOK (n:=83) (rs:=[.cell 4 25]) (nb:=1) (V:=[0]) Tryd.func14 rfl (by kernel_rfl) rfl rfl rfl rfl (Nat.le_of_ble_eq_true rfl) (by decide) ?_
  unfold make_Tape_File at H0
  refine lok_rt E0 (⟨83,mkS [(0,.x (.one (.ptr 0 0))),(1,.x (.one (.p (pi n)))),(4,.x (.one (.ptr 104 0)))],mkH [(0,.var [.p (.sl 1 (List.map encI t.L)),.p (pi t.At)]),(104,.var [.p (.val (.string (bs ([]:Str)))),.p (pi (0:Int)),.p (pi (0:Int)),.p .nil])]⟩) ?_
  replace H0:=bind_some H0
  obtain ⟨⟨y,y1⟩,h_0,H0⟩:=H0
  try dsimp only at H0
  replace H0:=req_some H0
  obtain ⟨q_26,H0⟩:=H0
  replace H0:=bind_some H0
  obtain ⟨⟨y2,y3⟩,h_1,H0⟩:=H0
  try dsimp only at H0
  replace H0:=bind_some H0
  obtain ⟨⟨y4,y5⟩,h_2,H0⟩:=H0
  try dsimp only at H0
  replace H0:=bindV_some H0
  obtain ⟨f,a_3,H0⟩:=H0
  refine lok_etg (Env.of E0 [⟨some 11,25,[.one (.ptr 0 0),.one (.p (pi (4:Int)))],[.var [.p (.sl 1 (List.map encI t.L)),.p (pi t.At)]],[.one (.p (pi y))],[some (.var [.p (.sl 1 (List.map encI y1.L)),.p (pi y1.At)])],True,fun _ => ok_make_Tape_Next t (4:Int) (y,y1) h_0,[]⟩,
      ⟨some 15,24,[.one (.ptr 0 0),.one (.p (pi (0:Int))),.one (.p (pi (3:Int)))],[.var [.p (.sl 1 (List.map encI y1.L)),.p (pi y1.At)]],[.one (.p (pi y2))],[some (.var [.p (.sl 1 (List.map encI y3.L)),.p (pi y3.At)])],True,fun _ => ok_make_Tape_Range y1 (0:Int) (3:Int) (y2,y3) h_1,[]⟩,
      ⟨some 17,24,[.one (.ptr 0 0),.one (.p (pi (0:Int))),.one (.p (pi (9:Int)))],[.var [.p (.sl 1 (List.map encI y3.L)),.p (pi y3.At)]],[.one (.p (pi y4))],[some (.var [.p (.sl 1 (List.map encI y5.L)),.p (pi y5.At)])],True,fun _ => ok_make_Tape_Range y3 (0:Int) (9:Int) (y4,y5) h_2,[]⟩]) 83 [⟨[],[],[(9,.x (.one (.fl 1 (List.map encS ([([69,78,84,82,89]:Str),([82,69,71,73,83,84,69,82]:Str),([65]:Str),([77,65,82,75,83]:Str)])))))],[],none⟩,
      ⟨[(0,.x (.one (.ptr 0 0)))],[],[(10,.x (.one (.ptr 0 0)))],[],none⟩,
      ⟨[(10,.x (.one (.ptr 0 0)))],[(0,some (.var [.p (.sl 1 (List.map encI t.L)),.p (pi t.At)]))],[(11,.x (.one (.p (pi y))))],[(0,some (.var [.p (.sl 1 (List.map encI y1.L)),.p (pi y1.At)]))],none⟩,
      ⟨[(9,.x (.one (.fl 1 (List.map encS ([([69,78,84,82,89]:Str),([82,69,71,73,83,84,69,82]:Str),([65]:Str),([77,65,82,75,83]:Str)]))))),(11,.x (.one (.p (pi y))))],[],[(12,.x (.one (.ep [.val (.string (bs (ix ([([69,78,84,82,89]:Str),([82,69,71,73,83,84,69,82]:Str),([65]:Str),([77,65,82,75,83]:Str)]) y)))])))],[],none⟩,
      ⟨[(12,.x (.one (.ep [.val (.string (bs (ix ([([69,78,84,82,89]:Str),([82,69,71,73,83,84,69,82]:Str),([65]:Str),([77,65,82,75,83]:Str)]) y)))])))],[],[(13,.x (.one (.p (.val (.string (bs (ix ([([69,78,84,82,89]:Str),([82,69,71,73,83,84,69,82]:Str),([65]:Str),([77,65,82,75,83]:Str)]) y)))))))],[],none⟩,
      ⟨[(0,.x (.one (.ptr 0 0)))],[],[(14,.x (.one (.ptr 0 0)))],[],none⟩,
      ⟨[(14,.x (.one (.ptr 0 0)))],[(0,some (.var [.p (.sl 1 (List.map encI y1.L)),.p (pi y1.At)]))],[(15,.x (.one (.p (pi y2))))],[(0,some (.var [.p (.sl 1 (List.map encI y3.L)),.p (pi y3.At)]))],none⟩,
      ⟨[(0,.x (.one (.ptr 0 0)))],[],[(16,.x (.one (.ptr 0 0)))],[],none⟩,
      ⟨[(16,.x (.one (.ptr 0 0)))],[(0,some (.var [.p (.sl 1 (List.map encI y3.L)),.p (pi y3.At)]))],[(17,.x (.one (.p (pi y4))))],[(0,some (.var [.p (.sl 1 (List.map encI y5.L)),.p (pi y5.At)]))],none⟩,
      ⟨[(13,.x (.one (.p (.val (.string (bs (ix ([([69,78,84,82,89]:Str),([82,69,71,73,83,84,69,82]:Str),([65]:Str),([77,65,82,75,83]:Str)]) y))))))),(15,.x (.one (.p (pi y2)))),(17,.x (.one (.p (pi y4))))],[],[(18,.x (.agg [.p (.val (.string (bs (ix ([([69,78,84,82,89]:Str),([82,69,71,73,83,84,69,82]:Str),([65]:Str),([77,65,82,75,83]:Str)]) y)))),.p (pi y2),.p (pi y4),.p .nil]))],[],none⟩,
      ⟨[],[(105,none)],[(5,.x (.one (.ptr 105 0)))],[(105,some (.var [.p (.val (.string (bs ([]:Str)))),.p (pi (0:Int)),.p (pi (0:Int)),.p .nil]))],some 105⟩] a_3 (⟨83,mkS [(0,.x (.one (.ptr 0 0))),(1,.x (.one (.p (pi n)))),(4,.x (.one (.ptr 104 0))),(5,.x (.one (.ptr 105 0)))],mkH [(0,.var [.p (.sl 1 (List.map encI y5.L)),.p (pi y5.At)]),(104,.var [.p (.val (.string (bs ([]:Str)))),.p (pi (0:Int)),.p (pi (0:Int)),.p .nil]),(105,.var [.p (.val (.string (bs f))),.p (pi y2),.p (pi y4),.p .nil])]⟩) (by kernel_rfl) (by kernel_rfl) (by kernel_rfl) rfl rfl rfl ?_
  refine lok_join (fun x_:(List Int) × Int × (List (List Str)) => make_Tape_File_j2 n y2 y4 f x_.1 x_.2.1 x_.2.2=some r_) (fun x_ => ⟨83,mkS [(0,.x (.one (.ptr 0 0))),(1,.x (.one (.p (pi n)))),(4,.x (.one (.ptr 104 0))),(5,.x (.one (.ptr 105 0)))],mkH [(0,.var [.p (.sl 1 (List.map encI x_.1)),.p (pi x_.2.1)]),(104,.var [.p (.val (.string (bs ([]:Str)))),.p (pi (0:Int)),.p (pi (0:Int)),.p .nil]),(105,.var [.p (.val (.string (bs f))),.p (pi y2),.p (pi y4),.vw 140]),(140,.arr 1 (List.map encL_encS x_.2.2))]⟩) ?hymake_Tape_File_j2 ?hxmake_Tape_File_j2
  case hymake_Tape_File_j2 =>
    rintro ⟨t1,t2,w⟩ H0
    try dsimp only at H0 ⊢
    unfold make_Tape_File_j2 at H0
    refine lok_join (fun x_:(List Int) × Int × Str × Int × Int × (List (List Str)) => make_Tape_File_j1 x_.1 x_.2.1 x_.2.2.1 x_.2.2.2.1 x_.2.2.2.2.1 x_.2.2.2.2.2=some r_) (fun x_ => ⟨83,mkS [(4,.x (.one (.ptr 104 0))),(5,.x (.one (.ptr 105 0)))],mkH [(0,.var [.p (.sl 1 (List.map encI x_.1)),.p (pi x_.2.1)]),(104,.var [.p (.val (.string (bs ([]:Str)))),.p (pi (0:Int)),.p (pi (0:Int)),.p .nil]),(105,.var [.p (.val (.string (bs x_.2.2.1))),.p (pi x_.2.2.2.1),.p (pi x_.2.2.2.2.1),.vw 140]),(140,.arr 1 (List.map encL_encS x_.2.2.2.2.2))]⟩) ?hymake_Tape_File_j1 ?hxmake_Tape_File_j1
    case hymake_Tape_File_j1 =>
      rintro ⟨t3,t4,f1,f2,f3,w1⟩ H0
      try dsimp only at H0 ⊢
      unfold make_Tape_File_j1 at H0
      refine lok_rt E0 (⟨83,mkS [(4,.x (.one (.ptr 104 0)))],mkH [(0,.var [.p (.sl 1 (List.map encI t3)),.p (pi t4)]),(104,.var [.p (.val (.string (bs f1))),.p (pi f2),.p (pi f3),.vw 140]),(140,.arr 1 (List.map encL_encS w1))]⟩) ?_
      refine lok_ret ?_
      try obtain rfl:=Option.some.inj H0
      try simp only [thenL,blockL]
      exact fin_au _ (.inr rfl) [0] (⟨83,mkS [(4,.x (.one (.ptr 104 0)))],mkH [(0,.var [.p (.sl 1 (List.map encI t3)),.p (pi t4)]),(104,.var [.p (.val (.string (bs f1))),.p (pi f2),.p (pi f3),.p (.sl 1 (List.map encL_encS w1))])]⟩) rfl rfl (Imp.trans (imp_frz 140 1 (List.map encL_encS w1)) imp_au)
    case hxmake_Tape_File_j1 =>
      rcases bcases (decide ((0:Int)<n)) with g_4_0 | g_4_0
      · replace H0:=cpos H0 g_4_0
        replace H0:=bind_some H0
        obtain ⟨⟨y6,y7⟩,h_4,H0⟩:=H0
        try dsimp only at H0
        refine lok_rtg (Env.of E0 [⟨some 47,35,[.one (.ptr 0 0),.one (.p (pi n))],[.var [.p (.sl 1 (List.map encI t1)),.p (pi t2)]],[.one (.p (.val (.bool y6)))],[some (.var [.p (.sl 1 (List.map encI y7.L)),.p (pi y7.At)])],True,fun _ => ok_make_Tape_One (make_Tape.mk t1 t2) n (y6,y7) h_4,[]⟩]) g_4_0 (⟨83,mkS [(0,.x (.one (.ptr 0 0))),(4,.x (.one (.ptr 104 0))),(5,.x (.one (.ptr 105 0))),(48,.x (.one (.p (.val (.bool y6)))))],mkH [(0,.var [.p (.sl 1 (List.map encI y7.L)),.p (pi y7.At)]),(104,.var [.p (.val (.string (bs ([]:Str)))),.p (pi (0:Int)),.p (pi (0:Int)),.p .nil]),(105,.var [.p (.val (.string (bs f))),.p (pi y2),.p (pi y4),.vw 140]),(140,.arr 1 (List.map encL_encS w))]⟩) ?_
        refine lok_c y6 ?_ ?_
        · intro b_17
          replace H0:=cpos H0 b_17
          replace H0:=bind_some H0
          obtain ⟨⟨y8,y9⟩,h_5,H0⟩:=H0
          try dsimp only at H0
          refine lok_rt (Env.of E0 [⟨some 50,25,[.one (.ptr 0 0),.one (.p (pi (5:Int)))],[.var [.p (.sl 1 (List.map encI y7.L)),.p (pi y7.At)]],[.one (.p (pi y8))],[some (.var [.p (.sl 1 (List.map encI y9.L)),.p (pi y9.At)])],True,fun _ => ok_make_Tape_Next y7 (5:Int) (y8,y9) h_5,[]⟩]) (⟨83,mkS [(0,.x (.one (.ptr 0 0))),(4,.x (.one (.ptr 104 0))),(5,.x (.one (.ptr 105 0))),(50,.x (.one (.p (pi y8))))],mkH [(0,.var [.p (.sl 1 (List.map encI y9.L)),.p (pi y9.At)]),(104,.var [.p (.val (.string (bs ([]:Str)))),.p (pi (0:Int)),.p (pi (0:Int)),.p .nil]),(105,.var [.p (.val (.string (bs f))),.p (pi y2),.p (pi y4),.vw 140]),(140,.arr 1 (List.map encL_encS w))]⟩) ?_
          refine lok_block ?_
          refine lok_rt E0 (⟨83,mkS [(0,.x (.one (.ptr 0 0))),(4,.x (.one (.ptr 104 0))),(5,.x (.one (.ptr 105 0))),(50,.x (.one (.p (pi y8)))),(57,.x (.one (.p (.val (.bool (y8==(0:Int)))))))],mkH [(0,.var [.p (.sl 1 (List.map encI y9.L)),.p (pi y9.At)]),(104,.var [.p (.val (.string (bs ([]:Str)))),.p (pi (0:Int)),.p (pi (0:Int)),.p .nil]),(105,.var [.p (.val (.string (bs f))),.p (pi y2),.p (pi y4),.vw 140]),(140,.arr 1 (List.map encL_encS w))]⟩) ?_
          refine lok_c (y8==(0:Int)) ?_ ?_
          · intro b_16
            replace H0:=cpos H0 b_16
            replace H0:=bind_some H0
            obtain ⟨⟨y10,y11⟩,h_6,H0⟩:=H0
            try dsimp only at H0
            replace H0:=req_some H0
            obtain ⟨q_8,H0⟩:=H0
            replace H0:=bindV_some H0
            obtain ⟨f4,a_7,H0⟩:=H0
            refine lok_rlg (Env.of E0 [⟨some 61,25,[.one (.ptr 0 0),.one (.p (pi (4:Int)))],[.var [.p (.sl 1 (List.map encI y9.L)),.p (pi y9.At)]],[.one (.p (pi y10))],[some (.var [.p (.sl 1 (List.map encI y11.L)),.p (pi y11.At)])],True,fun _ => ok_make_Tape_Next y9 (4:Int) (y10,y11) h_6,[]⟩]) a_7 (⟨83,mkS [(4,.x (.one (.ptr 104 0))),(5,.x (.one (.ptr 105 0)))],mkH [(0,.var [.p (.sl 1 (List.map encI y11.L)),.p (pi y11.At)]),(104,.var [.p (.val (.string (bs ([]:Str)))),.p (pi (0:Int)),.p (pi (0:Int)),.p .nil]),(105,.var [.p (.val (.string (bs f4))),.p (pi y2),.p (pi y4),.vw 140]),(140,.arr 1 (List.map encL_encS w))]⟩) ?_
            try simp only [thenL,blockL,↓reduceIte,reduceCtorEq]
            exact ⟨(y11.L,y11.At,f4,y2,y4,w),H0,imp_au⟩
          · intro b_16
            replace H0:=cneg H0 b_16
            refine lok_rt E0 (⟨83,mkS [(0,.x (.one (.ptr 0 0))),(4,.x (.one (.ptr 104 0))),(5,.x (.one (.ptr 105 0))),(50,.x (.one (.p (pi y8)))),(65,.x (.one (.p (.val (.bool (y8==(1:Int)))))))],mkH [(0,.var [.p (.sl 1 (List.map encI y9.L)),.p (pi y9.At)]),(104,.var [.p (.val (.string (bs ([]:Str)))),.p (pi (0:Int)),.p (pi (0:Int)),.p .nil]),(105,.var [.p (.val (.string (bs f))),.p (pi y2),.p (pi y4),.vw 140]),(140,.arr 1 (List.map encL_encS w))]⟩) ?_
            refine lok_c (y8==(1:Int)) ?_ ?_
            · intro b_15
              replace H0:=cpos H0 b_15
              replace H0:=bind_some H0
              obtain ⟨⟨y12,y13⟩,h_9,H0⟩:=H0
              try dsimp only at H0
              refine lok_rl (Env.of E0 [⟨some 68,36,[.one (.ptr 0 0)],[.var [.p (.sl 1 (List.map encI y9.L)),.p (pi y9.At)]],[.one (.p (pi y12))],[some (.var [.p (.sl 1 (List.map encI y13.L)),.p (pi y13.At)])],True,fun _ => ok_make_Tape_Wild y9 (y12,y13) h_9,[]⟩]) (⟨83,mkS [(4,.x (.one (.ptr 104 0))),(5,.x (.one (.ptr 105 0)))],mkH [(0,.var [.p (.sl 1 (List.map encI y13.L)),.p (pi y13.At)]),(104,.var [.p (.val (.string (bs ([]:Str)))),.p (pi (0:Int)),.p (pi (0:Int)),.p .nil]),(105,.var [.p (.val (.string (bs f))),.p (pi y12),.p (pi y4),.vw 140]),(140,.arr 1 (List.map encL_encS w))]⟩) ?_
              try simp only [thenL,blockL,↓reduceIte,reduceCtorEq]
              exact ⟨(y13.L,y13.At,f,y12,y4,w),H0,imp_au⟩
            · intro b_15
              replace H0:=cneg H0 b_15
              refine lok_rt E0 (⟨83,mkS [(0,.x (.one (.ptr 0 0))),(4,.x (.one (.ptr 104 0))),(5,.x (.one (.ptr 105 0))),(50,.x (.one (.p (pi y8)))),(70,.x (.one (.p (.val (.bool (y8==(2:Int)))))))],mkH [(0,.var [.p (.sl 1 (List.map encI y9.L)),.p (pi y9.At)]),(104,.var [.p (.val (.string (bs ([]:Str)))),.p (pi (0:Int)),.p (pi (0:Int)),.p .nil]),(105,.var [.p (.val (.string (bs f))),.p (pi y2),.p (pi y4),.vw 140]),(140,.arr 1 (List.map encL_encS w))]⟩) ?_
              refine lok_c (y8==(2:Int)) ?_ ?_
              · intro b_14
                replace H0:=cpos H0 b_14
                replace H0:=bind_some H0
                obtain ⟨⟨y14,y15⟩,h_10,H0⟩:=H0
                try dsimp only at H0
                refine lok_rl (Env.of E0 [⟨some 73,36,[.one (.ptr 0 0)],[.var [.p (.sl 1 (List.map encI y9.L)),.p (pi y9.At)]],[.one (.p (pi y14))],[some (.var [.p (.sl 1 (List.map encI y15.L)),.p (pi y15.At)])],True,fun _ => ok_make_Tape_Wild y9 (y14,y15) h_10,[]⟩]) (⟨83,mkS [(4,.x (.one (.ptr 104 0))),(5,.x (.one (.ptr 105 0)))],mkH [(0,.var [.p (.sl 1 (List.map encI y15.L)),.p (pi y15.At)]),(104,.var [.p (.val (.string (bs ([]:Str)))),.p (pi (0:Int)),.p (pi (0:Int)),.p .nil]),(105,.var [.p (.val (.string (bs f))),.p (pi y2),.p (pi y14),.vw 140]),(140,.arr 1 (List.map encL_encS w))]⟩) ?_
                try simp only [thenL,blockL,↓reduceIte,reduceCtorEq]
                exact ⟨(y15.L,y15.At,f,y2,y14,w),H0,imp_au⟩
              · intro b_14
                replace H0:=cneg H0 b_14
                refine lok_rt E0 (⟨83,mkS [(4,.x (.one (.ptr 104 0))),(5,.x (.one (.ptr 105 0))),(75,.x (.one (.p (.val (.bool (y8==(3:Int)))))))],mkH [(0,.var [.p (.sl 1 (List.map encI y9.L)),.p (pi y9.At)]),(104,.var [.p (.val (.string (bs ([]:Str)))),.p (pi (0:Int)),.p (pi (0:Int)),.p .nil]),(105,.var [.p (.val (.string (bs f))),.p (pi y2),.p (pi y4),.vw 140]),(140,.arr 1 (List.map encL_encS w))]⟩) ?_
                refine lok_c (y8==(3:Int)) ?_ ?_
                · intro b_13
                  replace H0:=cpos H0 b_13
                  replace H0:=req_some H0
                  obtain ⟨q_11,H0⟩:=H0
                  refine lok_rl E0 (⟨83,mkS [(4,.x (.one (.ptr 104 0))),(5,.x (.one (.ptr 105 0)))],mkH [(0,.var [.p (.sl 1 (List.map encI y9.L)),.p (pi y9.At)]),(104,.var [.p (.val (.string (bs ([]:Str)))),.p (pi (0:Int)),.p (pi (0:Int)),.p .nil]),(105,.var [.p (.val (.string (bs f))),.p (pi y2),.p (pi y4),.vw 140]),(140,.arr 1 (List.map encL_encS (w ++ [([]:List Str)])))]⟩) ?_
                  try simp only [thenL,blockL,↓reduceIte,reduceCtorEq]
                  exact ⟨(y9.L,y9.At,f,y2,y4,(w ++ [([]:List Str)])),H0,imp_au⟩
                · intro b_13
                  replace H0:=cneg H0 b_13
                  replace H0:=req_some H0
                  obtain ⟨q_12,H0⟩:=H0
                  refine lok_rl E0 (⟨83,mkS [(4,.x (.one (.ptr 104 0))),(5,.x (.one (.ptr 105 0)))],mkH [(0,.var [.p (.sl 1 (List.map encI y9.L)),.p (pi y9.At)]),(104,.var [.p (.val (.string (bs ([]:Str)))),.p (pi (0:Int)),.p (pi (0:Int)),.p .nil]),(105,.var [.p (.val (.string (bs f))),.p (pi y2),.p (pi y4),.vw 140]),(140,.arr 1 (List.map encL_encS (w ++ [[([0,255]:Str)]])))]⟩) ?_
                  try simp only [thenL,blockL,↓reduceIte,reduceCtorEq]
                  exact ⟨(y9.L,y9.At,f,y2,y4,(w ++ [[([0,255]:Str)]])),H0,imp_au⟩
        · intro b_17
          replace H0:=cneg H0 b_17
          refine lok_skip ?_
          try simp only [thenL,blockL,↓reduceIte,reduceCtorEq]
          exact ⟨(y7.L,y7.At,f,y2,y4,w),H0,imp_au⟩
      · replace H0:=cneg H0 g_4_0
        refine lok_rtg E0 g_4_0 (⟨83,mkS [(0,.x (.one (.ptr 0 0))),(4,.x (.one (.ptr 104 0))),(5,.x (.one (.ptr 105 0))),(48,.x (.one (.p (.val (.bool false)))))],mkH [(0,.var [.p (.sl 1 (List.map encI t1)),.p (pi t2)]),(104,.var [.p (.val (.string (bs ([]:Str)))),.p (pi (0:Int)),.p (pi (0:Int)),.p .nil]),(105,.var [.p (.val (.string (bs f))),.p (pi y2),.p (pi y4),.vw 140]),(140,.arr 1 (List.map encL_encS w))]⟩) ?_
        refine lok_c false ?_ ?_
        · intro h; exact absurd h (by decide)
        · intro _
          refine lok_skip ?_
          try simp only [thenL,blockL,↓reduceIte,reduceCtorEq]
          exact ⟨(t1,t2,f,y2,y4,w),H0,imp_au⟩
  case hxmake_Tape_File_j2 =>
    replace H0:=bind_some H0
    obtain ⟨⟨y16,y17⟩,h_17,H0⟩:=H0
    try dsimp only at H0
    refine lok_rt (Env.of E0 [⟨some 20,25,[.one (.ptr 0 0),.one (.p (pi (5:Int)))],[.var [.p (.sl 1 (List.map encI y5.L)),.p (pi y5.At)]],[.one (.p (pi y16))],[some (.var [.p (.sl 1 (List.map encI y17.L)),.p (pi y17.At)])],True,fun _ => ok_make_Tape_Next y5 (5:Int) (y16,y17) h_17,[]⟩]) (⟨83,mkS [(0,.x (.one (.ptr 0 0))),(1,.x (.one (.p (pi n)))),(4,.x (.one (.ptr 104 0))),(5,.x (.one (.ptr 105 0))),(6,.x (.one (.p (pi y16))))],mkH [(0,.var [.p (.sl 1 (List.map encI y17.L)),.p (pi y17.At)]),(104,.var [.p (.val (.string (bs ([]:Str)))),.p (pi (0:Int)),.p (pi (0:Int)),.p .nil]),(105,.var [.p (.val (.string (bs f))),.p (pi y2),.p (pi y4),.p .nil])]⟩) ?_
    refine lok_block ?_
    replace H0:=bind_some H0
    obtain ⟨v_18,hv_18,H0⟩:=H0
    refine lok_iter (fun x_ => ⟨83,mkS [(0,.x (.one (.ptr 0 0))),(1,.x (.one (.p (pi n)))),(4,.x (.one (.ptr 104 0))),(5,.x (.one (.ptr 105 0))),(6,.x (.one (.p (pi x_.1))))],mkH [(0,.var [.p (.sl 1 (List.map encI x_.2.1)),.p (pi x_.2.2.1)]),(104,.var [.p (.val (.string (bs ([]:Str)))),.p (pi (0:Int)),.p (pi (0:Int)),.p .nil]),(105,.var [.p (.val (.string (bs f))),.p (pi y2),.p (pi y4),.vw 140]),(140,.arr 1 (List.map encL_encS x_.2.2.2))]⟩) hv_18 imp_au ?_
    · rintro ⟨i,t5,t6,w2⟩ o_1 H1 k_1
      unfold make_Tape_File_l6 at H1
      try dsimp only at H1 ⊢
      refine lok_seq ?_
      refine lok_rt E0 (⟨83,mkS [(0,.x (.one (.ptr 0 0))),(1,.x (.one (.p (pi n)))),(4,.x (.one (.ptr 104 0))),(5,.x (.one (.ptr 105 0))),(6,.x (.one (.p (pi i)))),(22,.x (.one (.p (.val (.bool (decide ((0:Int)<i)))))))],mkH [(0,.var [.p (.sl 1 (List.map encI t5)),.p (pi t6)]),(104,.var [.p (.val (.string (bs ([]:Str)))),.p (pi (0:Int)),.p (pi (0:Int)),.p .nil]),(105,.var [.p (.val (.string (bs f))),.p (pi y2),.p (pi y4),.vw 140]),(140,.arr 1 (List.map encL_encS w2))]⟩) ?_
      refine lok_c (decide ((0:Int)<i)) ?_ ?_
      · intro b_25
        replace H1:=cpos H1 b_25
        refine lok_skip ?_
        try simp only [thenL,blockL,↓reduceIte,reduceCtorEq]
        refine lok_join (fun x_:(List Int) × Int × (List (List Str)) => make_Tape_File_j3 i x_.1 x_.2.1 x_.2.2=some o_1) (fun x_ => ⟨83,mkS [(0,.x (.one (.ptr 0 0))),(1,.x (.one (.p (pi n)))),(4,.x (.one (.ptr 104 0))),(5,.x (.one (.ptr 105 0))),(6,.x (.one (.p (pi i))))],mkH [(0,.var [.p (.sl 1 (List.map encI x_.1)),.p (pi x_.2.1)]),(104,.var [.p (.val (.string (bs ([]:Str)))),.p (pi (0:Int)),.p (pi (0:Int)),.p .nil]),(105,.var [.p (.val (.string (bs f))),.p (pi y2),.p (pi y4),.vw 140]),(140,.arr 1 (List.map encL_encS x_.2.2))]⟩) ?hymake_Tape_File_j3 ?hxmake_Tape_File_j3
        case hymake_Tape_File_j3 =>
          rintro ⟨t9,t10,w4⟩ H1
          try dsimp only at H1 ⊢
          unfold make_Tape_File_j3 at H1
          refine lok_rl E0 (⟨83,mkS [(0,.x (.one (.ptr 0 0))),(1,.x (.one (.p (pi n)))),(4,.x (.one (.ptr 104 0))),(5,.x (.one (.ptr 105 0))),(6,.x (.one (.p (pi (IntKind.i64.wrap (i-(1:Int)))))))],mkH [(0,.var [.p (.sl 1 (List.map encI t9)),.p (pi t10)]),(104,.var [.p (.val (.string (bs ([]:Str)))),.p (pi (0:Int)),.p (pi (0:Int)),.p .nil]),(105,.var [.p (.val (.string (bs f))),.p (pi y2),.p (pi y4),.vw 140]),(140,.arr 1 (List.map encL_encS w4))]⟩) ?_
          try simp only [thenL,blockL,↓reduceIte,reduceCtorEq]
          exact ⟨((IntKind.i64.wrap (i-(1:Int))),t9,t10,w4),(Option.some.inj H1).symm,imp_au⟩
        case hxmake_Tape_File_j3 =>
          refine lok_block ?_
          refine lok_rt E0 (⟨83,mkS [(0,.x (.one (.ptr 0 0))),(1,.x (.one (.p (pi n)))),(4,.x (.one (.ptr 104 0))),(5,.x (.one (.ptr 105 0))),(6,.x (.one (.p (pi i)))),(7,.x (.one (.vw 107)))],mkH [(0,.var [.p (.sl 1 (List.map encI t5)),.p (pi t6)]),(104,.var [.p (.val (.string (bs ([]:Str)))),.p (pi (0:Int)),.p (pi (0:Int)),.p .nil]),(105,.var [.p (.val (.string (bs f))),.p (pi y2),.p (pi y4),.vw 140]),(107,.arr 1 (List.map encS ([]:List Str))),(140,.arr 1 (List.map encL_encS w2))]⟩) ?_
          refine lok_join (fun x_:(List Int) × Int × (List Str) => make_Tape_File_j4 i w2 x_.1 x_.2.1 x_.2.2=some o_1) (fun x_ => ⟨83,mkS [(0,.x (.one (.ptr 0 0))),(1,.x (.one (.p (pi n)))),(4,.x (.one (.ptr 104 0))),(5,.x (.one (.ptr 105 0))),(6,.x (.one (.p (pi i)))),(7,.x (.one (.vw 107)))],mkH [(0,.var [.p (.sl 1 (List.map encI x_.1)),.p (pi x_.2.1)]),(104,.var [.p (.val (.string (bs ([]:Str)))),.p (pi (0:Int)),.p (pi (0:Int)),.p .nil]),(105,.var [.p (.val (.string (bs f))),.p (pi y2),.p (pi y4),.vw 140]),(107,.arr 1 (List.map encS x_.2.2)),(140,.arr 1 (List.map encL_encS w2))]⟩) ?hymake_Tape_File_j4 ?hxmake_Tape_File_j4
          case hymake_Tape_File_j4 =>
            rintro ⟨t11,t12,row⟩ H1
            try dsimp only at H1 ⊢
            unfold make_Tape_File_j4 at H1
            refine lok_imp (st':=⟨83,mkS [(0,.x (.one (.ptr 0 0))),(1,.x (.one (.p (pi n)))),(4,.x (.one (.ptr 104 0))),(5,.x (.one (.ptr 105 0))),(6,.x (.one (.p (pi i)))),(7,.x (.one (.p (.sl 1 (List.map encS row)))))],mkH [(0,.var [.p (.sl 1 (List.map encI t11)),.p (pi t12)]),(104,.var [.p (.val (.string (bs ([]:Str)))),.p (pi (0:Int)),.p (pi (0:Int)),.p .nil]),(105,.var [.p (.val (.string (bs f))),.p (pi y2),.p (pi y4),.vw 140]),(140,.arr 1 (List.map encL_encS w2))]⟩) (Imp.trans (imp_frz 107 1 (List.map encS row)) imp_au) ?_
            replace H1:=req_some H1
            obtain ⟨q_19,H1⟩:=H1
            refine lok_rl E0 (⟨83,mkS [(0,.x (.one (.ptr 0 0))),(1,.x (.one (.p (pi n)))),(4,.x (.one (.ptr 104 0))),(5,.x (.one (.ptr 105 0))),(6,.x (.one (.p (pi i))))],mkH [(0,.var [.p (.sl 1 (List.map encI t11)),.p (pi t12)]),(104,.var [.p (.val (.string (bs ([]:Str)))),.p (pi (0:Int)),.p (pi (0:Int)),.p .nil]),(105,.var [.p (.val (.string (bs f))),.p (pi y2),.p (pi y4),.vw 140]),(140,.arr 1 (List.map encL_encS (w2 ++ [row])))]⟩) ?_
            try simp only [thenL,blockL,↓reduceIte,reduceCtorEq]
            exact ⟨(t11,t12,(w2 ++ [row])),H1,imp_au⟩
          case hxmake_Tape_File_j4 =>
            replace H1:=bind_some H1
            obtain ⟨⟨y18,y19⟩,h_20,H1⟩:=H1
            try dsimp only at H1
            refine lok_rt (Env.of E0 [⟨some 26,24,[.one (.ptr 0 0),.one (.p (pi (1:Int))),.one (.p (pi (4:Int)))],[.var [.p (.sl 1 (List.map encI t5)),.p (pi t6)]],[.one (.p (pi y18))],[some (.var [.p (.sl 1 (List.map encI y19.L)),.p (pi y19.At)])],True,fun _ => ok_make_Tape_Range (make_Tape.mk t5 t6) (1:Int) (4:Int) (y18,y19) h_20,[]⟩]) (⟨83,mkS [(0,.x (.one (.ptr 0 0))),(1,.x (.one (.p (pi n)))),(4,.x (.one (.ptr 104 0))),(5,.x (.one (.ptr 105 0))),(6,.x (.one (.p (pi i)))),(7,.x (.one (.vw 107))),(8,.x (.one (.p (pi y18))))],mkH [(0,.var [.p (.sl 1 (List.map encI y19.L)),.p (pi y19.At)]),(104,.var [.p (.val (.string (bs ([]:Str)))),.p (pi (0:Int)),.p (pi (0:Int)),.p .nil]),(105,.var [.p (.val (.string (bs f))),.p (pi y2),.p (pi y4),.vw 140]),(107,.arr 1 (List.map encS ([]:List Str))),(140,.arr 1 (List.map encL_encS w2))]⟩) ?_
            refine lok_block ?_
            replace H1:=bind_some H1
            obtain ⟨v_21,hv_21,H1⟩:=H1
            refine lok_iter (fun x_ => ⟨83,mkS [(0,.x (.one (.ptr 0 0))),(1,.x (.one (.p (pi n)))),(4,.x (.one (.ptr 104 0))),(5,.x (.one (.ptr 105 0))),(6,.x (.one (.p (pi i)))),(7,.x (.one (.vw 107))),(8,.x (.one (.p (pi x_.1))))],mkH [(0,.var [.p (.sl 1 (List.map encI x_.2.1)),.p (pi x_.2.2.1)]),(104,.var [.p (.val (.string (bs ([]:Str)))),.p (pi (0:Int)),.p (pi (0:Int)),.p .nil]),(105,.var [.p (.val (.string (bs f))),.p (pi y2),.p (pi y4),.vw 140]),(107,.arr 1 (List.map encS x_.2.2.2)),(140,.arr 1 (List.map encL_encS w2))]⟩) hv_21 imp_au ?_
            · rintro ⟨k,t13,t14,row1⟩ o_2 H2 k_2
              unfold make_Tape_File_l5 at H2
              try dsimp only at H2 ⊢
              refine lok_seq ?_
              refine lok_rt E0 (⟨83,mkS [(0,.x (.one (.ptr 0 0))),(1,.x (.one (.p (pi n)))),(4,.x (.one (.ptr 104 0))),(5,.x (.one (.ptr 105 0))),(6,.x (.one (.p (pi i)))),(7,.x (.one (.vw 107))),(8,.x (.one (.p (pi k)))),(28,.x (.one (.p (.val (.bool (decide ((0:Int)<k)))))))],mkH [(0,.var [.p (.sl 1 (List.map encI t13)),.p (pi t14)]),(104,.var [.p (.val (.string (bs ([]:Str)))),.p (pi (0:Int)),.p (pi (0:Int)),.p .nil]),(105,.var [.p (.val (.string (bs f))),.p (pi y2),.p (pi y4),.vw 140]),(107,.arr 1 (List.map encS row1)),(140,.arr 1 (List.map encL_encS w2))]⟩) ?_
              refine lok_c (decide ((0:Int)<k)) ?_ ?_
              · intro b_24
                replace H2:=cpos H2 b_24
                refine lok_skip ?_
                try simp only [thenL,blockL,↓reduceIte,reduceCtorEq]
                refine lok_seq ?_
                refine lok_block ?_
                replace H2:=bind_some H2
                obtain ⟨⟨y20,y21⟩,h_22,H2⟩:=H2
                try dsimp only at H2
                replace H2:=req_some H2
                obtain ⟨q_23,H2⟩:=H2
                refine lok_rl (Env.of E0 [⟨some 33,34,[.one (.ptr 0 0),.one (.p (pi (6:Int)))],[.var [.p (.sl 1 (List.map encI t13)),.p (pi t14)]],[.one (.p (.val (.string (bs y20))))],[some (.var [.p (.sl 1 (List.map encI y21.L)),.p (pi y21.At)])],True,fun _ => ok_make_Tape_Text (make_Tape.mk t13 t14) (6:Int) (y20,y21) h_22,[]⟩]) (⟨83,mkS [(0,.x (.one (.ptr 0 0))),(1,.x (.one (.p (pi n)))),(4,.x (.one (.ptr 104 0))),(5,.x (.one (.ptr 105 0))),(6,.x (.one (.p (pi i)))),(7,.x (.one (.vw 107))),(8,.x (.one (.p (pi k))))],mkH [(0,.var [.p (.sl 1 (List.map encI y21.L)),.p (pi y21.At)]),(104,.var [.p (.val (.string (bs ([]:Str)))),.p (pi (0:Int)),.p (pi (0:Int)),.p .nil]),(105,.var [.p (.val (.string (bs f))),.p (pi y2),.p (pi y4),.vw 140]),(107,.arr 1 (List.map encS (row1 ++ [y20]))),(140,.arr 1 (List.map encL_encS w2))]⟩) ?_
                try simp only [thenL,blockL,↓reduceIte,reduceCtorEq]
                refine lok_rl E0 (⟨83,mkS [(0,.x (.one (.ptr 0 0))),(1,.x (.one (.p (pi n)))),(4,.x (.one (.ptr 104 0))),(5,.x (.one (.ptr 105 0))),(6,.x (.one (.p (pi i)))),(7,.x (.one (.vw 107))),(8,.x (.one (.p (pi (IntKind.i64.wrap (k-(1:Int)))))))],mkH [(0,.var [.p (.sl 1 (List.map encI y21.L)),.p (pi y21.At)]),(104,.var [.p (.val (.string (bs ([]:Str)))),.p (pi (0:Int)),.p (pi (0:Int)),.p .nil]),(105,.var [.p (.val (.string (bs f))),.p (pi y2),.p (pi y4),.vw 140]),(107,.arr 1 (List.map encS (row1 ++ [y20]))),(140,.arr 1 (List.map encL_encS w2))]⟩) ?_
                try simp only [thenL,blockL,↓reduceIte,reduceCtorEq]
                exact ⟨((IntKind.i64.wrap (k-(1:Int))),y21.L,y21.At,(row1 ++ [y20])),(Option.some.inj H2).symm,imp_au⟩
              · intro b_24
                replace H2:=cneg H2 b_24
                refine lok_exit ?_
                try simp only [thenL,blockL,↓reduceIte,reduceCtorEq]
                have e_2:=k_2 _ (Option.some.inj H2).symm
                subst e_2
                try dsimp only at H1
                try simp only [thenL,blockL,↓reduceIte,reduceCtorEq]
                exact ⟨(t13,t14,row1),H1,imp_au⟩
      · intro b_25
        replace H1:=cneg H1 b_25
        refine lok_exit ?_
        try simp only [thenL,blockL,↓reduceIte,reduceCtorEq]
        have e_1:=k_1 _ (Option.some.inj H1).symm
        subst e_1
        try dsimp only at H0
        try simp only [thenL,blockL,↓reduceIte,reduceCtorEq]
        exact ⟨(t5,t6,w2),H0,imp_au⟩
theorem ok_law03_files (s:make_Tape) (r_:(List api_File) × make_Tape) (H0:law03_files s=some r_):CallOK Tryd.prog 29 [.one (.ptr 0 0)] [.var [.p (.sl 1 (List.map encI s.L)),.p (pi s.At)]] [.one (.vw 1)] [some (.var [.p (.sl 1 (List.map encI r_.2.L)),.p (pi r_.2.At)]),some (.arr 4 (List.map enc_api_File r_.1))]:=by
  refine callOK (n:=17) (rs:=[.tmp 2]) (nb:=1) (V:=[0]) Tryd.func29 rfl (by kernel_rfl) rfl rfl rfl rfl (Nat.le_of_ble_eq_true rfl) (by decide) ?_
  unfold law03_files at H0
  refine lok_rt E0 (⟨17,mkS [(0,.x (.one (.ptr 0 0)))],mkH [(0,.var [.p (.sl 1 (List.map encI s.L)),.p (pi s.At)])]⟩) ?_
  refine lok_rt E0 (⟨17,mkS [(0,.x (.one (.ptr 0 0))),(3,.x (.one (.vw 103)))],mkH [(0,.var [.p (.sl 1 (List.map encI s.L)),.p (pi s.At)]),(103,.arr 4 (List.map enc_api_File ([]:List api_File)))]⟩) ?_
  refine lok_join (fun x_:(List Int) × Int × (List api_File) => law03_files_j1 x_.1 x_.2.1 x_.2.2=some r_) (fun x_ => ⟨17,mkS [(3,.x (.one (.vw 103)))],mkH [(0,.var [.p (.sl 1 (List.map encI x_.1)),.p (pi x_.2.1)]),(103,.arr 4 (List.map enc_api_File x_.2.2))]⟩) ?hylaw03_files_j1 ?hxlaw03_files_j1
  case hylaw03_files_j1 =>
    rintro ⟨s1,s2,out⟩ H0
    try dsimp only at H0 ⊢
    unfold law03_files_j1 at H0
    refine lok_rt E0 (⟨17,mkS [(2,.x (.one (.vw 103)))],mkH [(0,.var [.p (.sl 1 (List.map encI s1)),.p (pi s2)]),(103,.arr 4 (List.map enc_api_File out))]⟩) ?_
    refine lok_ret ?_
    try obtain rfl:=Option.some.inj H0
    try simp only [thenL,blockL]
    exact fin_nu [103] _ (.inr rfl) [0,103] (⟨17,mkS [(2,.x (.one (.vw 103)))],mkH [(0,.var [.p (.sl 1 (List.map encI s1)),.p (pi s2)]),(103,.arr 4 (List.map enc_api_File out))]⟩) rfl rfl imp_au
  case hxlaw03_files_j1 =>
    replace H0:=bind_some H0
    obtain ⟨⟨y,y1⟩,h_0,H0⟩:=H0
    try dsimp only at H0
    refine lok_rt (Env.of E0 [⟨some 6,24,[.one (.ptr 0 0),.one (.p (pi (0:Int))),.one (.p (pi (8:Int)))],[.var [.p (.sl 1 (List.map encI s.L)),.p (pi s.At)]],[.one (.p (pi y))],[some (.var [.p (.sl 1 (List.map encI y1.L)),.p (pi y1.At)])],True,fun _ => ok_make_Tape_Range s (0:Int) (8:Int) (y,y1) h_0,[]⟩]) (⟨17,mkS [(0,.x (.one (.ptr 0 0))),(3,.x (.one (.vw 103))),(4,.x (.one (.p (pi y))))],mkH [(0,.var [.p (.sl 1 (List.map encI y1.L)),.p (pi y1.At)]),(103,.arr 4 (List.map enc_api_File ([]:List api_File)))]⟩) ?_
    refine lok_block ?_
    replace H0:=bind_some H0
    obtain ⟨v_1,hv_1,H0⟩:=H0
    refine lok_iter (fun x_ => ⟨17,mkS [(0,.x (.one (.ptr 0 0))),(3,.x (.one (.vw 103))),(4,.x (.one (.p (pi x_.1))))],mkH [(0,.var [.p (.sl 1 (List.map encI x_.2.1)),.p (pi x_.2.2.1)]),(103,.arr 4 (List.map enc_api_File x_.2.2.2))]⟩) hv_1 imp_au ?_
    · rintro ⟨i,s3,s4,out1⟩ o_1 H1 k_1
      unfold law03_files_l2 at H1
      try dsimp only at H1 ⊢
      refine lok_seq ?_
      refine lok_rt E0 (⟨17,mkS [(0,.x (.one (.ptr 0 0))),(3,.x (.one (.vw 103))),(4,.x (.one (.p (pi i)))),(8,.x (.one (.p (.val (.bool (decide ((0:Int)<i)))))))],mkH [(0,.var [.p (.sl 1 (List.map encI s3)),.p (pi s4)]),(103,.arr 4 (List.map enc_api_File out1))]⟩) ?_
      refine lok_c (decide ((0:Int)<i)) ?_ ?_
      · intro b_4
        replace H1:=cpos H1 b_4
        refine lok_skip ?_
        try simp only [thenL,blockL,↓reduceIte,reduceCtorEq]
        refine lok_seq ?_
        refine lok_block ?_
        replace H1:=bind_some H1
        obtain ⟨⟨y2,y3⟩,h_2,H1⟩:=H1
        try dsimp only at H1
        replace H1:=req_some H1
        obtain ⟨q_3,H1⟩:=H1
        refine lok_rl (Env.of E0 [⟨some 13,14,[.one (.ptr 0 0),.one (.p (pi (8:Int)))],[.var [.p (.sl 1 (List.map encI s3)),.p (pi s4)]],[.agg [.p (.val (.string (bs y2.Kind))),.p (pi y2.Source),.p (pi y2.Number),.p (.sl 1 (List.map encL_encS y2.Rows))]],[some (.var [.p (.sl 1 (List.map encI y3.L)),.p (pi y3.At)])],True,fun _ => ok_make_Tape_File (make_Tape.mk s3 s4) (8:Int) (y2,y3) h_2,[]⟩]) (⟨17,mkS [(0,.x (.one (.ptr 0 0))),(3,.x (.one (.vw 103))),(4,.x (.one (.p (pi i))))],mkH [(0,.var [.p (.sl 1 (List.map encI y3.L)),.p (pi y3.At)]),(103,.arr 4 (List.map enc_api_File (out1 ++ [y2])))]⟩) ?_
        try simp only [thenL,blockL,↓reduceIte,reduceCtorEq]
        refine lok_rl E0 (⟨17,mkS [(0,.x (.one (.ptr 0 0))),(3,.x (.one (.vw 103))),(4,.x (.one (.p (pi (IntKind.i64.wrap (i-(1:Int)))))))],mkH [(0,.var [.p (.sl 1 (List.map encI y3.L)),.p (pi y3.At)]),(103,.arr 4 (List.map enc_api_File (out1 ++ [y2])))]⟩) ?_
        try simp only [thenL,blockL,↓reduceIte,reduceCtorEq]
        exact ⟨((IntKind.i64.wrap (i-(1:Int))),y3.L,y3.At,(out1 ++ [y2])),(Option.some.inj H1).symm,imp_au⟩
      · intro b_4
        replace H1:=cneg H1 b_4
        refine lok_exit ?_
        try simp only [thenL,blockL,↓reduceIte,reduceCtorEq]
        have e_1:=k_1 _ (Option.some.inj H1).symm
        subst e_1
        try dsimp only at H0
        try simp only [thenL,blockL,↓reduceIte,reduceCtorEq]
        exact ⟨(s3,s4,out1),H0,imp_au⟩
theorem ok_law03_ints (a:List Int) (b:List Int) (r_:Bool) (H0:law03_ints a b=some r_):CallOK Tryd.prog 30 [.one (.p (.sl 1 (List.map encI a))),.one (.p (.sl 1 (List.map encI b)))] [] [.one (.p (.val (.bool r_)))] []:=by
  refine callOK (n:=26) (rs:=[.tmp 4]) (nb:=0) (V:=[]) Tryd.func30 rfl (by kernel_rfl) rfl rfl rfl rfl (Nat.le_of_ble_eq_true rfl) (by decide) ?_
  unfold law03_ints at H0
  refine lok_rt E0 (⟨26,mkS [(0,.x (.one (.p (.sl 1 (List.map encI a))))),(1,.x (.one (.p (.sl 1 (List.map encI b)))))],mkH []⟩) ?_
  refine lok_seq ?_
  refine lok_rt E0 (⟨26,mkS [(0,.x (.one (.p (.sl 1 (List.map encI a))))),(1,.x (.one (.p (.sl 1 (List.map encI b))))),(10,.x (.one (.p (.val (.bool ((a.length:Int) != (b.length:Int)))))))],mkH []⟩) ?_
  refine lok_c ((a.length:Int) != (b.length:Int)) ?_ ?_
  · intro b_5
    replace H0:=cpos H0 b_5
    refine lok_rt E0 (⟨26,mkS [(4,.x (.one (.p (.val (.bool false)))))],mkH []⟩) ?_
    refine lok_ret ?_
    try obtain rfl:=Option.some.inj H0
    try simp only [thenL,blockL]
    exact fin_au _ (.inr rfl) [] (⟨26,mkS [(4,.x (.one (.p (.val (.bool false)))))],mkH []⟩) rfl rfl imp_au
  · intro b_5
    replace H0:=cneg H0 b_5
    refine lok_skip ?_
    try simp only [thenL,blockL,↓reduceIte,reduceCtorEq]
    refine lok_join (fun x_:Unit => law03_ints_j1=some r_) (fun x_ => ⟨26,mkS [],mkH []⟩) ?hylaw03_ints_j1 ?hxlaw03_ints_j1
    case hylaw03_ints_j1 =>
      rintro _ H0
      try dsimp only at H0 ⊢
      unfold law03_ints_j1 at H0
      refine lok_rt E0 (⟨26,mkS [(4,.x (.one (.p (.val (.bool true)))))],mkH []⟩) ?_
      refine lok_ret ?_
      try obtain rfl:=Option.some.inj H0
      try simp only [thenL,blockL]
      exact fin_au _ (.inr rfl) [] (⟨26,mkS [(4,.x (.one (.p (.val (.bool true)))))],mkH []⟩) rfl rfl imp_au
    case hxlaw03_ints_j1 =>
      refine lok_rt E0 (⟨26,mkS [(0,.x (.one (.p (.sl 1 (List.map encI a))))),(1,.x (.one (.p (.sl 1 (List.map encI b))))),(5,.x (.one (.p (pi (0:Int)))))],mkH []⟩) ?_
      refine lok_block ?_
      replace H0:=bind_some H0
      obtain ⟨v_0,hv_0,H0⟩:=H0
      refine lok_iter (fun x_ => ⟨26,mkS [(0,.x (.one (.p (.sl 1 (List.map encI a))))),(1,.x (.one (.p (.sl 1 (List.map encI b))))),(5,.x (.one (.p (pi x_))))],mkH []⟩) hv_0 imp_au ?_
      · rintro i o_1 H1 k_1
        unfold law03_ints_l2 at H1
        try dsimp only at H1 ⊢
        refine lok_seq ?_
        refine lok_rt E0 (⟨26,mkS [(0,.x (.one (.p (.sl 1 (List.map encI a))))),(1,.x (.one (.p (.sl 1 (List.map encI b))))),(5,.x (.one (.p (pi i)))),(14,.x (.one (.p (.val (.bool (decide (i<(a.length:Int))))))))],mkH []⟩) ?_
        refine lok_c (decide (i<(a.length:Int))) ?_ ?_
        · intro b_4
          replace H1:=cpos H1 b_4
          refine lok_skip ?_
          try simp only [thenL,blockL,↓reduceIte,reduceCtorEq]
          refine lok_seq ?_
          refine lok_block ?_
          replace H1:=req_some H1
          obtain ⟨⟨q_2,q_3⟩,H1⟩:=H1
          refine lok_dt E0 8 (⟨26,mkS [(0,.x (.one (.p (.sl 1 (List.map encI a))))),(1,.x (.one (.p (.sl 1 (List.map encI b))))),(5,.x (.one (.p (pi i)))),(25,.x (.one (.p (.val (.bool ((ix a i) != (ix b i)))))))],mkH []⟩) (by kernel_rfl) (by kernel_rfl) ?_
          refine lok_c ((ix a i) != (ix b i)) ?_ ?_
          · intro b_1
            replace H1:=cpos H1 b_1
            refine lok_rt E0 (⟨26,mkS [(4,.x (.one (.p (.val (.bool false)))))],mkH []⟩) ?_
            refine lok_ret ?_
            try simp only [thenL,blockL,↓reduceIte,reduceCtorEq]
            have e_1:=k_1 _ (Option.some.inj H1).symm
            subst e_1
            try dsimp only at H0
            try obtain rfl:=Option.some.inj H0
            try simp only [thenL,blockL]
            exact fin_au _ (.inr rfl) [] (⟨26,mkS [(4,.x (.one (.p (.val (.bool false)))))],mkH []⟩) rfl rfl imp_au
          · intro b_1
            replace H1:=cneg H1 b_1
            refine lok_skip ?_
            try simp only [thenL,blockL,↓reduceIte,reduceCtorEq]
            refine lok_rl E0 (⟨26,mkS [(0,.x (.one (.p (.sl 1 (List.map encI a))))),(1,.x (.one (.p (.sl 1 (List.map encI b))))),(5,.x (.one (.p (pi (IntKind.i64.wrap (i+(1:Int)))))))],mkH []⟩) ?_
            try simp only [thenL,blockL,↓reduceIte,reduceCtorEq]
            exact ⟨(IntKind.i64.wrap (i+(1:Int))),(Option.some.inj H1).symm,imp_au⟩
        · intro b_4
          replace H1:=cneg H1 b_4
          refine lok_exit ?_
          try simp only [thenL,blockL,↓reduceIte,reduceCtorEq]
          have e_1:=k_1 _ (Option.some.inj H1).symm
          subst e_1
          try dsimp only at H0
          try simp only [thenL,blockL,↓reduceIte,reduceCtorEq]
          exact ⟨(),H0,imp_au⟩
set_option maxHeartbeats 4000000 in
theorem ok_exchange_Gaps (l:List api_File) (source:Int) (r_:(List Int) × (List api_File)) (H0:exchange_Gaps l source=some r_):CallOK Tryd.prog 31 [.one (.vw 0),.one (.p (pi source))] [.arr 4 (List.map enc_api_File l)] [.one (.p (.sl 1 (List.map encI r_.1)))] [some (.arr 4 (List.map enc_api_File r_.2))]:=by
  refine callOK (n:=50) (rs:=[.tmp 4]) (nb:=1) (V:=[0]) Tryd.func31 rfl (by kernel_rfl) rfl rfl rfl rfl (Nat.le_of_ble_eq_true rfl) (by decide) ?_
  unfold exchange_Gaps at H0
  refine lok_rt E0 (⟨50,mkS [(0,.x (.one (.vw 0))),(1,.x (.one (.p (pi source))))],mkH [(0,.arr 4 (List.map enc_api_File l))]⟩) ?_
  replace H0:=req_some H0
  obtain ⟨q_11,H0⟩:=H0
  refine lok_rt E0 (⟨50,mkS [(0,.x (.one (.vw 0))),(1,.x (.one (.p (pi source)))),(5,.x (.one (.vw 111)))],mkH [(0,.arr 4 (List.map enc_api_File l)),(111,.arr 1 (List.map encB (rep (10000:Int) false)))]⟩) ?_
  refine lok_rt E0 (⟨50,mkS [(0,.x (.one (.vw 0))),(1,.x (.one (.p (pi source)))),(5,.x (.one (.vw 111))),(6,.x (.one (.p (pi (-1:Int)))))],mkH [(0,.arr 4 (List.map enc_api_File l)),(111,.arr 1 (List.map encB (rep (10000:Int) false)))]⟩) ?_
  refine lok_join (fun x_:Int × (List Bool) => exchange_Gaps_j4 l x_.1 x_.2=some r_) (fun x_ => ⟨50,mkS [(5,.x (.one (.vw 111))),(6,.x (.one (.p (pi x_.1))))],mkH [(0,.arr 4 (List.map enc_api_File l)),(111,.arr 1 (List.map encB x_.2))]⟩) ?hyexchange_Gaps_j4 ?hxexchange_Gaps_j4
  case hyexchange_Gaps_j4 =>
    rintro ⟨greatest,w⟩ H0
    try dsimp only at H0 ⊢
    unfold exchange_Gaps_j4 at H0
    refine lok_rt E0 (⟨50,mkS [(5,.x (.one (.vw 111))),(6,.x (.one (.p (pi greatest)))),(9,.x (.one (.vw 109)))],mkH [(0,.arr 4 (List.map enc_api_File l)),(109,.arr 1 (List.map encI ([]:List Int))),(111,.arr 1 (List.map encB w))]⟩) ?_
    refine lok_join (fun x_:(List Int) => exchange_Gaps_j1 l x_=some r_) (fun x_ => ⟨50,mkS [(9,.x (.one (.vw 109)))],mkH [(0,.arr 4 (List.map enc_api_File l)),(109,.arr 1 (List.map encI x_))]⟩) ?hyexchange_Gaps_j1 ?hxexchange_Gaps_j1
    case hyexchange_Gaps_j1 =>
      rintro gaps H0
      try dsimp only at H0 ⊢
      unfold exchange_Gaps_j1 at H0
      refine lok_rt E0 (⟨50,mkS [(4,.x (.one (.vw 109)))],mkH [(0,.arr 4 (List.map enc_api_File l)),(109,.arr 1 (List.map encI gaps))]⟩) ?_
      refine lok_ret ?_
      try obtain rfl:=Option.some.inj H0
      try simp only [thenL,blockL]
      exact fin_au _ (.inr rfl) [0] (⟨50,mkS [(4,.x (.one (.p (.sl 1 (List.map encI gaps)))))],mkH [(0,.arr 4 (List.map enc_api_File l))]⟩) rfl rfl (Imp.trans (imp_frz 109 1 (List.map encI gaps)) imp_au)
    case hxexchange_Gaps_j1 =>
      refine lok_rt E0 (⟨50,mkS [(5,.x (.one (.vw 111))),(6,.x (.one (.p (pi greatest)))),(9,.x (.one (.vw 109))),(10,.x (.one (.p (pi (0:Int)))))],mkH [(0,.arr 4 (List.map enc_api_File l)),(109,.arr 1 (List.map encI ([]:List Int))),(111,.arr 1 (List.map encB w))]⟩) ?_
      refine lok_block ?_
      replace H0:=bind_some H0
      obtain ⟨v_0,hv_0,H0⟩:=H0
      refine lok_iter (fun x_ => ⟨50,mkS [(5,.x (.one (.vw 111))),(6,.x (.one (.p (pi greatest)))),(9,.x (.one (.vw 109))),(10,.x (.one (.p (pi x_.1))))],mkH [(0,.arr 4 (List.map enc_api_File l)),(109,.arr 1 (List.map encI x_.2)),(111,.arr 1 (List.map encB w))]⟩) hv_0 imp_au ?_
      · rintro ⟨n,gaps1⟩ o_1 H1 k_1
        unfold exchange_Gaps_l3 at H1
        try dsimp only at H1 ⊢
        refine lok_seq ?_
        refine lok_rt E0 (⟨50,mkS [(5,.x (.one (.vw 111))),(6,.x (.one (.p (pi greatest)))),(9,.x (.one (.vw 109))),(10,.x (.one (.p (pi n)))),(37,.x (.one (.p (.val (.bool (decide (n≤greatest)))))))],mkH [(0,.arr 4 (List.map enc_api_File l)),(109,.arr 1 (List.map encI gaps1)),(111,.arr 1 (List.map encB w))]⟩) ?_
        refine lok_c (decide (n≤greatest)) ?_ ?_
        · intro b_4
          replace H1:=cpos H1 b_4
          refine lok_skip ?_
          try simp only [thenL,blockL,↓reduceIte,reduceCtorEq]
          refine lok_join (fun x_:(List Int) => exchange_Gaps_j2 n x_=some o_1) (fun x_ => ⟨50,mkS [(5,.x (.one (.vw 111))),(6,.x (.one (.p (pi greatest)))),(9,.x (.one (.vw 109))),(10,.x (.one (.p (pi n))))],mkH [(0,.arr 4 (List.map enc_api_File l)),(109,.arr 1 (List.map encI x_)),(111,.arr 1 (List.map encB w))]⟩) ?hyexchange_Gaps_j2 ?hxexchange_Gaps_j2
          case hyexchange_Gaps_j2 =>
            rintro gaps3 H1
            try dsimp only at H1 ⊢
            unfold exchange_Gaps_j2 at H1
            refine lok_rl E0 (⟨50,mkS [(5,.x (.one (.vw 111))),(6,.x (.one (.p (pi greatest)))),(9,.x (.one (.vw 109))),(10,.x (.one (.p (pi (IntKind.i64.wrap (n+(1:Int)))))))],mkH [(0,.arr 4 (List.map enc_api_File l)),(109,.arr 1 (List.map encI gaps3)),(111,.arr 1 (List.map encB w))]⟩) ?_
            try simp only [thenL,blockL,↓reduceIte,reduceCtorEq]
            exact ⟨((IntKind.i64.wrap (n+(1:Int))),gaps3),(Option.some.inj H1).symm,imp_au⟩
          case hxexchange_Gaps_j2 =>
            refine lok_block ?_
            replace H1:=req_some H1
            obtain ⟨q_3,H1⟩:=H1
            refine lok_rt E0 (⟨50,mkS [(5,.x (.one (.vw 111))),(6,.x (.one (.p (pi greatest)))),(9,.x (.one (.vw 109))),(10,.x (.one (.p (pi n)))),(44,.x (.one (.p (.val (.bool (!(ix w n)))))))],mkH [(0,.arr 4 (List.map enc_api_File l)),(109,.arr 1 (List.map encI gaps1)),(111,.arr 1 (List.map encB w))]⟩) ?_
            refine lok_c (!(ix w n)) ?_ ?_
            · intro b_2
              replace H1:=cpos H1 b_2
              replace H1:=req_some H1
              obtain ⟨q_1,H1⟩:=H1
              refine lok_rl E0 (⟨50,mkS [(5,.x (.one (.vw 111))),(6,.x (.one (.p (pi greatest)))),(9,.x (.one (.vw 109))),(10,.x (.one (.p (pi n))))],mkH [(0,.arr 4 (List.map enc_api_File l)),(109,.arr 1 (List.map encI (gaps1 ++ [n]))),(111,.arr 1 (List.map encB w))]⟩) ?_
              try simp only [thenL,blockL,↓reduceIte,reduceCtorEq]
              exact ⟨(gaps1 ++ [n]),H1,imp_au⟩
            · intro b_2
              replace H1:=cneg H1 b_2
              refine lok_skip ?_
              try simp only [thenL,blockL,↓reduceIte,reduceCtorEq]
              exact ⟨gaps1,H1,imp_au⟩
        · intro b_4
          replace H1:=cneg H1 b_4
          refine lok_exit ?_
          try simp only [thenL,blockL,↓reduceIte,reduceCtorEq]
          have e_1:=k_1 _ (Option.some.inj H1).symm
          subst e_1
          try dsimp only at H0
          try simp only [thenL,blockL,↓reduceIte,reduceCtorEq]
          exact ⟨gaps1,H0,imp_au⟩
  case hxexchange_Gaps_j4 =>
    refine lok_rt E0 (⟨50,mkS [(1,.x (.one (.p (pi source)))),(5,.x (.one (.vw 111))),(6,.x (.one (.p (pi (-1:Int))))),(12,.x (.one (.vw 0))),(13,.x (.one (.p (pi (l.length:Int))))),(14,.x (.one (.p (pi (0:Int)))))],mkH [(0,.arr 4 (List.map enc_api_File l)),(111,.arr 1 (List.map encB (rep (10000:Int) false)))]⟩) ?_
    refine lok_block ?_
    replace H0:=bind_some H0
    obtain ⟨v_5,hv_5,H0⟩:=H0
    refine lok_iter (fun x_ => ⟨50,mkS [(1,.x (.one (.p (pi source)))),(5,.x (.one (.vw 111))),(6,.x (.one (.p (pi x_.1)))),(12,.x (.one (.vw 0))),(13,.x (.one (.p (pi (l.length:Int))))),(14,.x (.one (.p (pi x_.2.1))))],mkH [(0,.arr 4 (List.map enc_api_File l)),(111,.arr 1 (List.map encB x_.2.2))]⟩) hv_5 imp_au ?_
    · rintro ⟨greatest1,v,w1⟩ o_1 H1 k_1
      unfold exchange_Gaps_l6 at H1
      try dsimp only at H1 ⊢
      refine lok_rt E0 (⟨50,mkS [(1,.x (.one (.p (pi source)))),(5,.x (.one (.vw 111))),(6,.x (.one (.p (pi greatest1)))),(12,.x (.one (.vw 0))),(13,.x (.one (.p (pi (l.length:Int))))),(14,.x (.one (.p (pi v)))),(15,.x (.one (.p (.val (.bool (decide (v<(l.length:Int))))))))],mkH [(0,.arr 4 (List.map enc_api_File l)),(111,.arr 1 (List.map encB w1))]⟩) ?_
      refine lok_seq ?_
      refine lok_c (decide (v<(l.length:Int))) ?_ ?_
      · intro b_10
        replace H1:=cpos H1 b_10
        refine lok_skip ?_
        try simp only [thenL,blockL,↓reduceIte,reduceCtorEq]
        refine lok_join (fun x_:Int × (List Bool) => exchange_Gaps_j5 v x_.1 x_.2=some o_1) (fun x_ => ⟨50,mkS [(1,.x (.one (.p (pi source)))),(5,.x (.one (.vw 111))),(6,.x (.one (.p (pi x_.1)))),(12,.x (.one (.vw 0))),(13,.x (.one (.p (pi (l.length:Int))))),(14,.x (.one (.p (pi v))))],mkH [(0,.arr 4 (List.map enc_api_File l)),(111,.arr 1 (List.map encB x_.2))]⟩) ?hyexchange_Gaps_j5 ?hxexchange_Gaps_j5
        case hyexchange_Gaps_j5 =>
          rintro ⟨greatest3,w3⟩ H1
          try dsimp only at H1 ⊢
          unfold exchange_Gaps_j5 at H1
          refine lok_rl E0 (⟨50,mkS [(1,.x (.one (.p (pi source)))),(5,.x (.one (.vw 111))),(6,.x (.one (.p (pi greatest3)))),(12,.x (.one (.vw 0))),(13,.x (.one (.p (pi (l.length:Int))))),(14,.x (.one (.p (pi (IntKind.i64.wrap (v+(1:Int)))))))],mkH [(0,.arr 4 (List.map enc_api_File l)),(111,.arr 1 (List.map encB w3))]⟩) ?_
          try simp only [thenL,blockL,↓reduceIte,reduceCtorEq]
          exact ⟨(greatest3,(IntKind.i64.wrap (v+(1:Int))),w3),(Option.some.inj H1).symm,imp_au⟩
        case hxexchange_Gaps_j5 =>
          refine lok_block ?_
          replace H1:=req_some H1
          obtain ⟨q_9,H1⟩:=H1
          refine lok_rt E0 (⟨50,mkS [(1,.x (.one (.p (pi source)))),(5,.x (.one (.vw 111))),(6,.x (.one (.p (pi greatest1)))),(8,.x (.one (.ptr 108 0))),(12,.x (.one (.vw 0))),(13,.x (.one (.p (pi (l.length:Int))))),(14,.x (.one (.p (pi v))))],mkH [(0,.arr 4 (List.map enc_api_File l)),(108,.var [.p (.val (.string (bs ((ix l v).Kind)))),.p (pi ((ix l v).Source)),.p (pi ((ix l v).Number)),.p (.sl 1 (List.map encL_encS ((ix l v).Rows)))]),(111,.arr 1 (List.map encB w1))]⟩) ?_
          replace H1:=req_some H1
          obtain ⟨q_8,H1⟩:=H1
          refine lok_rt (Env.of E0 [⟨some 24,17,[.agg [.p (.val (.string (bs ((ix l v).Kind)))),.p (pi ((ix l v).Source)),.p (pi ((ix l v).Number)),.p (.sl 1 (List.map encL_encS ((ix l v).Rows)))]],[],[.one (.p (.val (.bool ((exchange_Valid (ix l v)).getD default))))],[],(exchange_Valid (ix l v)).isSome=true,fun h => ok_exchange_Valid (ix l v) _ (isSome_get h),[]⟩]) (⟨50,mkS [(1,.x (.one (.p (pi source)))),(5,.x (.one (.vw 111))),(6,.x (.one (.p (pi greatest1)))),(8,.x (.one (.ptr 108 0))),(12,.x (.one (.vw 0))),(13,.x (.one (.p (pi (l.length:Int))))),(14,.x (.one (.p (pi v)))),(25,.x (.one (.p (.val (.bool (((ix l v).Source==source)&&((exchange_Valid (ix l v)).getD default)))))))],mkH [(0,.arr 4 (List.map enc_api_File l)),(108,.var [.p (.val (.string (bs ((ix l v).Kind)))),.p (pi ((ix l v).Source)),.p (pi ((ix l v).Number)),.p (.sl 1 (List.map encL_encS ((ix l v).Rows)))]),(111,.arr 1 (List.map encB w1))]⟩) ?_
          refine lok_c (((ix l v).Source==source)&&((exchange_Valid (ix l v)).getD default)) ?_ ?_
          · intro b_7
            replace H1:=cpos H1 b_7
            replace H1:=req_some H1
            obtain ⟨q_6,H1⟩:=H1
            refine lok_rt E0 (⟨50,mkS [(1,.x (.one (.p (pi source)))),(5,.x (.one (.vw 111))),(6,.x (.one (.p (pi greatest1)))),(8,.x (.one (.ptr 108 0))),(12,.x (.one (.vw 0))),(13,.x (.one (.p (pi (l.length:Int))))),(14,.x (.one (.p (pi v))))],mkH [(0,.arr 4 (List.map enc_api_File l)),(108,.var [.p (.val (.string (bs ((ix l v).Kind)))),.p (pi ((ix l v).Source)),.p (pi ((ix l v).Number)),.p (.sl 1 (List.map encL_encS ((ix l v).Rows)))]),(111,.arr 1 (List.map encB (setI w1 ((ix l v).Number) true)))]⟩) ?_
            refine lok_rl E0 (⟨50,mkS [(1,.x (.one (.p (pi source)))),(5,.x (.one (.vw 111))),(6,.x (.one (.p (pi (imax greatest1 ((ix l v).Number)))))),(12,.x (.one (.vw 0))),(13,.x (.one (.p (pi (l.length:Int))))),(14,.x (.one (.p (pi v))))],mkH [(0,.arr 4 (List.map enc_api_File l)),(111,.arr 1 (List.map encB (setI w1 ((ix l v).Number) true)))]⟩) ?_
            try simp only [thenL,blockL,↓reduceIte,reduceCtorEq]
            exact ⟨((imax greatest1 ((ix l v).Number)),(setI w1 ((ix l v).Number) true)),H1,imp_au⟩
          · intro b_7
            replace H1:=cneg H1 b_7
            refine lok_skip ?_
            try simp only [thenL,blockL,↓reduceIte,reduceCtorEq]
            exact ⟨(greatest1,w1),H1,imp_au⟩
      · intro b_10
        replace H1:=cneg H1 b_10
        refine lok_exit ?_
        try simp only [thenL,blockL,↓reduceIte,reduceCtorEq]
        have e_1:=k_1 _ (Option.some.inj H1).symm
        subst e_1
        try dsimp only at H0
        try simp only [thenL,blockL,↓reduceIte,reduceCtorEq]
        exact ⟨(greatest1,w1),H0,imp_au⟩
theorem ok_make_Tape_Order (t:make_Tape) (n:Int) (r_:(List Int) × make_Tape) (H0:make_Tape_Order t n=some r_):CallOK Tryd.prog 57 [.one (.ptr 0 0),.one (.p (pi n))] [.var [.p (.sl 1 (List.map encI t.L)),.p (pi t.At)]] [.one (.p (.sl 1 (List.map encI r_.1)))] [some (.var [.p (.sl 1 (List.map encI r_.2.L)),.p (pi r_.2.At)])]:=by
  refine callOK (n:=33) (rs:=[.tmp 4]) (nb:=1) (V:=[0]) Tryd.func57 rfl (by kernel_rfl) rfl rfl rfl rfl (Nat.le_of_ble_eq_true rfl) (by decide) ?_
  unfold make_Tape_Order at H0
  refine lok_rt E0 (⟨33,mkS [(0,.x (.one (.ptr 0 0))),(1,.x (.one (.p (pi n))))],mkH [(0,.var [.p (.sl 1 (List.map encI t.L)),.p (pi t.At)])]⟩) ?_
  refine lok_rt E0 (⟨33,mkS [(0,.x (.one (.ptr 0 0))),(1,.x (.one (.p (pi n)))),(5,.x (.one (.vw 105)))],mkH [(0,.var [.p (.sl 1 (List.map encI t.L)),.p (pi t.At)]),(105,.arr 1 (List.map encI ([]:List Int)))]⟩) ?_
  refine lok_join (fun x_:(List Int) × (List Int) × Int => make_Tape_Order_j1 x_.1 x_.2.1 x_.2.2=some r_) (fun x_ => ⟨33,mkS [(5,.x (.one (.p (.sl 1 (List.map encI x_.1)))))],mkH [(0,.var [.p (.sl 1 (List.map encI x_.2.1)),.p (pi x_.2.2)])]⟩) ?hymake_Tape_Order_j1 ?hxmake_Tape_Order_j1
  case hymake_Tape_Order_j1 =>
    rintro ⟨out,t1,t2⟩ H0
    try dsimp only at H0 ⊢
    unfold make_Tape_Order_j1 at H0
    refine lok_rt E0 (⟨33,mkS [(4,.x (.one (.p (.sl 1 (List.map encI out)))))],mkH [(0,.var [.p (.sl 1 (List.map encI t1)),.p (pi t2)])]⟩) ?_
    refine lok_ret ?_
    try obtain rfl:=Option.some.inj H0
    try simp only [thenL,blockL]
    exact fin_au _ (.inr rfl) [0] (⟨33,mkS [(4,.x (.one (.p (.sl 1 (List.map encI out)))))],mkH [(0,.var [.p (.sl 1 (List.map encI t1)),.p (pi t2)])]⟩) rfl rfl imp_au
  case hxmake_Tape_Order_j1 =>
    refine lok_rt E0 (⟨33,mkS [(0,.x (.one (.ptr 0 0))),(1,.x (.one (.p (pi n)))),(5,.x (.one (.vw 105))),(6,.x (.one (.p (pi (0:Int)))))],mkH [(0,.var [.p (.sl 1 (List.map encI t.L)),.p (pi t.At)]),(105,.arr 1 (List.map encI ([]:List Int)))]⟩) ?_
    refine lok_block ?_
    replace H0:=bind_some H0
    obtain ⟨v_0,hv_0,H0⟩:=H0
    refine lok_iter (fun x_ => ⟨33,mkS [(0,.x (.one (.ptr 0 0))),(1,.x (.one (.p (pi n)))),(5,.x (.one (.p (.sl 1 (List.map encI x_.1))))),(6,.x (.one (.p (pi x_.2.1))))],mkH [(0,.var [.p (.sl 1 (List.map encI x_.2.2.1)),.p (pi x_.2.2.2)])]⟩) hv_0 (Imp.trans (imp_frz 105 1 (List.map encI ([]:List Int))) imp_au) ?_
    · rintro ⟨out1,i,t3,t4⟩ o_1 H1 k_1
      unfold make_Tape_Order_l2 at H1
      try dsimp only at H1 ⊢
      refine lok_seq ?_
      refine lok_rt E0 (⟨33,mkS [(0,.x (.one (.ptr 0 0))),(1,.x (.one (.p (pi n)))),(5,.x (.one (.p (.sl 1 (List.map encI out1))))),(6,.x (.one (.p (pi i)))),(11,.x (.one (.p (.val (.bool (decide (i<n)))))))],mkH [(0,.var [.p (.sl 1 (List.map encI t3)),.p (pi t4)])]⟩) ?_
      refine lok_c (decide (i<n)) ?_ ?_
      · intro b_8
        replace H1:=cpos H1 b_8
        refine lok_skip ?_
        try simp only [thenL,blockL,↓reduceIte,reduceCtorEq]
        refine lok_seq ?_
        refine lok_block ?_
        replace H1:=bind_some H1
        obtain ⟨⟨y,y1⟩,h_1,H1⟩:=H1
        try dsimp only at H1
        refine lok_rt (Env.of E0 [⟨some 17,25,[.one (.ptr 0 0),.one (.p (pi (IntKind.i64.wrap (i+(1:Int)))))],[.var [.p (.sl 1 (List.map encI t3)),.p (pi t4)]],[.one (.p (pi y))],[some (.var [.p (.sl 1 (List.map encI y1.L)),.p (pi y1.At)])],True,fun _ => ok_make_Tape_Next (make_Tape.mk t3 t4) (IntKind.i64.wrap (i+(1:Int))) (y,y1) h_1,[]⟩]) (⟨33,mkS [(0,.x (.one (.ptr 0 0))),(1,.x (.one (.p (pi n)))),(5,.x (.one (.p (.sl 1 (List.map encI out1))))),(6,.x (.one (.p (pi i)))),(7,.x (.one (.p (pi y))))],mkH [(0,.var [.p (.sl 1 (List.map encI y1.L)),.p (pi y1.At)])]⟩) ?_
        refine lok_rt E0 (⟨33,mkS [(0,.x (.one (.ptr 0 0))),(1,.x (.one (.p (pi n)))),(5,.x (.one (.p (.sl 1 (List.map encI out1))))),(6,.x (.one (.p (pi i)))),(7,.x (.one (.p (pi y)))),(8,.x (.one (.vw 108)))],mkH [(0,.var [.p (.sl 1 (List.map encI y1.L)),.p (pi y1.At)]),(108,.arr 1 (List.map encI ([]:List Int)))]⟩) ?_
        replace H1:=req_some H1
        obtain ⟨⟨q_6,q_7⟩,H1⟩:=H1
        refine lok_rt E0 (⟨33,mkS [(0,.x (.one (.ptr 0 0))),(1,.x (.one (.p (pi n)))),(5,.x (.one (.p (.sl 1 (List.map encI out1))))),(6,.x (.one (.p (pi i)))),(7,.x (.one (.p (pi y)))),(8,.x (.one (.vw 108)))],mkH [(0,.var [.p (.sl 1 (List.map encI y1.L)),.p (pi y1.At)]),(108,.arr 1 (List.map encI (([]:List Int) ++ (List.take y.toNat out1))))]⟩) ?_
        replace H1:=req_some H1
        obtain ⟨q_5,H1⟩:=H1
        refine lok_rt E0 (⟨33,mkS [(0,.x (.one (.ptr 0 0))),(1,.x (.one (.p (pi n)))),(5,.x (.one (.p (.sl 1 (List.map encI out1))))),(6,.x (.one (.p (pi i)))),(7,.x (.one (.p (pi y)))),(8,.x (.one (.vw 108)))],mkH [(0,.var [.p (.sl 1 (List.map encI y1.L)),.p (pi y1.At)]),(108,.arr 1 (List.map encI ((([]:List Int) ++ (List.take y.toNat out1)) ++ [i])))]⟩) ?_
        replace H1:=req_some H1
        obtain ⟨⟨q_3,q_4⟩,H1⟩:=H1
        replace H1:=bindV_some H1
        obtain ⟨next,a_2,H1⟩:=H1
        refine lok_rlg E0 a_2 (⟨33,mkS [(0,.x (.one (.ptr 0 0))),(1,.x (.one (.p (pi n)))),(5,.x (.one (.vw 108))),(6,.x (.one (.p (pi i))))],mkH [(0,.var [.p (.sl 1 (List.map encI y1.L)),.p (pi y1.At)]),(108,.arr 1 (List.map encI next))]⟩) ?_
        try simp only [thenL,blockL,↓reduceIte,reduceCtorEq]
        refine lok_rl E0 (⟨33,mkS [(0,.x (.one (.ptr 0 0))),(1,.x (.one (.p (pi n)))),(5,.x (.one (.vw 108))),(6,.x (.one (.p (pi (IntKind.i64.wrap (i+(1:Int)))))))],mkH [(0,.var [.p (.sl 1 (List.map encI y1.L)),.p (pi y1.At)]),(108,.arr 1 (List.map encI next))]⟩) ?_
        try simp only [thenL,blockL,↓reduceIte,reduceCtorEq]
        exact ⟨(next,(IntKind.i64.wrap (i+(1:Int))),y1.L,y1.At),(Option.some.inj H1).symm,(Imp.trans (imp_frz 108 1 (List.map encI next)) imp_au)⟩
      · intro b_8
        replace H1:=cneg H1 b_8
        refine lok_exit ?_
        try simp only [thenL,blockL,↓reduceIte,reduceCtorEq]
        have e_1:=k_1 _ (Option.some.inj H1).symm
        subst e_1
        try dsimp only at H0
        try simp only [thenL,blockL,↓reduceIte,reduceCtorEq]
        exact ⟨(out1,t3,t4),H0,imp_au⟩
theorem ok_make_Tape_Mixed (t:make_Tape) (n:Int) (r_:(List Int) × make_Tape) (H0:make_Tape_Mixed t n=some r_):CallOK Tryd.prog 33 [.one (.ptr 0 0),.one (.p (pi n))] [.var [.p (.sl 1 (List.map encI t.L)),.p (pi t.At)]] [.one (.p (.sl 1 (List.map encI r_.1)))] [some (.var [.p (.sl 1 (List.map encI r_.2.L)),.p (pi r_.2.At)])]:=by
  refine callOK (n:=46) (rs:=[.tmp 4]) (nb:=1) (V:=[0]) Tryd.func33 rfl (by kernel_rfl) rfl rfl rfl rfl (Nat.le_of_ble_eq_true rfl) (by decide) ?_
  unfold make_Tape_Mixed at H0
  refine lok_rt E0 (⟨46,mkS [(0,.x (.one (.ptr 0 0))),(1,.x (.one (.p (pi n))))],mkH [(0,.var [.p (.sl 1 (List.map encI t.L)),.p (pi t.At)])]⟩) ?_
  replace H0:=bind_some H0
  obtain ⟨⟨y,y1⟩,h_0,H0⟩:=H0
  try dsimp only at H0
  refine lok_rt (Env.of E0 [⟨some 12,57,[.one (.ptr 0 0),.one (.p (pi n))],[.var [.p (.sl 1 (List.map encI t.L)),.p (pi t.At)]],[.one (.p (.sl 1 (List.map encI y)))],[some (.var [.p (.sl 1 (List.map encI y1.L)),.p (pi y1.At)])],True,fun _ => ok_make_Tape_Order t n (y,y1) h_0,[]⟩]) (⟨46,mkS [(0,.x (.one (.ptr 0 0))),(1,.x (.one (.p (pi n)))),(5,.x (.one (.p (.sl 1 (List.map encI y)))))],mkH [(0,.var [.p (.sl 1 (List.map encI y1.L)),.p (pi y1.At)])]⟩) ?_
  refine lok_join (fun x_:(List Int) × (List Int) × Int => make_Tape_Mixed_j1 x_.1 x_.2.1 x_.2.2=some r_) (fun x_ => ⟨46,mkS [(5,.x (.one (.p (.sl 1 (List.map encI x_.1)))))],mkH [(0,.var [.p (.sl 1 (List.map encI x_.2.1)),.p (pi x_.2.2)])]⟩) ?hymake_Tape_Mixed_j1 ?hxmake_Tape_Mixed_j1
  case hymake_Tape_Mixed_j1 =>
    rintro ⟨out,t1,t2⟩ H0
    try dsimp only at H0 ⊢
    unfold make_Tape_Mixed_j1 at H0
    refine lok_rt E0 (⟨46,mkS [(4,.x (.one (.p (.sl 1 (List.map encI out)))))],mkH [(0,.var [.p (.sl 1 (List.map encI t1)),.p (pi t2)])]⟩) ?_
    refine lok_ret ?_
    try obtain rfl:=Option.some.inj H0
    try simp only [thenL,blockL]
    exact fin_au _ (.inr rfl) [0] (⟨46,mkS [(4,.x (.one (.p (.sl 1 (List.map encI out)))))],mkH [(0,.var [.p (.sl 1 (List.map encI t1)),.p (pi t2)])]⟩) rfl rfl imp_au
  case hxmake_Tape_Mixed_j1 =>
    replace H0:=bind_some H0
    obtain ⟨⟨y2,y3⟩,h_1,H0⟩:=H0
    try dsimp only at H0
    refine lok_rt (Env.of E0 [⟨some 14,25,[.one (.ptr 0 0),.one (.p (pi (4:Int)))],[.var [.p (.sl 1 (List.map encI y1.L)),.p (pi y1.At)]],[.one (.p (pi y2))],[some (.var [.p (.sl 1 (List.map encI y3.L)),.p (pi y3.At)])],True,fun _ => ok_make_Tape_Next y1 (4:Int) (y2,y3) h_1,[]⟩]) (⟨46,mkS [(0,.x (.one (.ptr 0 0))),(1,.x (.one (.p (pi n)))),(5,.x (.one (.p (.sl 1 (List.map encI y))))),(6,.x (.one (.p (pi y2))))],mkH [(0,.var [.p (.sl 1 (List.map encI y3.L)),.p (pi y3.At)])]⟩) ?_
    refine lok_block ?_
    replace H0:=bind_some H0
    obtain ⟨v_2,hv_2,H0⟩:=H0
    refine lok_iter (fun x_ => ⟨46,mkS [(0,.x (.one (.ptr 0 0))),(1,.x (.one (.p (pi n)))),(5,.x (.one (.p (.sl 1 (List.map encI x_.1))))),(6,.x (.one (.p (pi x_.2.1))))],mkH [(0,.var [.p (.sl 1 (List.map encI x_.2.2.1)),.p (pi x_.2.2.2)])]⟩) hv_2 imp_au ?_
    · rintro ⟨out1,i,t3,t4⟩ o_1 H1 k_1
      unfold make_Tape_Mixed_l2 at H1
      try dsimp only at H1 ⊢
      refine lok_seq ?_
      refine lok_rt E0 (⟨46,mkS [(0,.x (.one (.ptr 0 0))),(1,.x (.one (.p (pi n)))),(5,.x (.one (.p (.sl 1 (List.map encI out1))))),(6,.x (.one (.p (pi i)))),(20,.x (.one (.p (.val (.bool ((decide ((0:Int)<i))&&(decide ((0:Int)<n))))))))],mkH [(0,.var [.p (.sl 1 (List.map encI t3)),.p (pi t4)])]⟩) ?_
      refine lok_c ((decide ((0:Int)<i))&&(decide ((0:Int)<n))) ?_ ?_
      · intro b_11
        replace H1:=cpos H1 b_11
        refine lok_skip ?_
        try simp only [thenL,blockL,↓reduceIte,reduceCtorEq]
        refine lok_seq ?_
        refine lok_block ?_
        replace H1:=bind_some H1
        obtain ⟨⟨y4,y5⟩,h_3,H1⟩:=H1
        try dsimp only at H1
        replace H1:=bind_some H1
        obtain ⟨⟨y6,y7⟩,h_4,H1⟩:=H1
        try dsimp only at H1
        refine lok_rt (Env.of E0 [⟨some 27,25,[.one (.ptr 0 0),.one (.p (pi (IntKind.i64.wrap ((out1.length:Int)+(1:Int)))))],[.var [.p (.sl 1 (List.map encI t3)),.p (pi t4)]],[.one (.p (pi y4))],[some (.var [.p (.sl 1 (List.map encI y5.L)),.p (pi y5.At)])],True,fun _ => ok_make_Tape_Next (make_Tape.mk t3 t4) (IntKind.i64.wrap ((out1.length:Int)+(1:Int))) (y4,y5) h_3,[]⟩,
      ⟨some 30,25,[.one (.ptr 0 0),.one (.p (pi n))],[.var [.p (.sl 1 (List.map encI y5.L)),.p (pi y5.At)]],[.one (.p (pi y6))],[some (.var [.p (.sl 1 (List.map encI y7.L)),.p (pi y7.At)])],True,fun _ => ok_make_Tape_Next y5 n (y6,y7) h_4,[]⟩]) (⟨46,mkS [(0,.x (.one (.ptr 0 0))),(1,.x (.one (.p (pi n)))),(5,.x (.one (.p (.sl 1 (List.map encI out1))))),(6,.x (.one (.p (pi i)))),(7,.x (.one (.p (pi y4)))),(8,.x (.one (.p (pi y6))))],mkH [(0,.var [.p (.sl 1 (List.map encI y7.L)),.p (pi y7.At)])]⟩) ?_
        refine lok_rt E0 (⟨46,mkS [(0,.x (.one (.ptr 0 0))),(1,.x (.one (.p (pi n)))),(5,.x (.one (.p (.sl 1 (List.map encI out1))))),(6,.x (.one (.p (pi i)))),(7,.x (.one (.p (pi y4)))),(8,.x (.one (.p (pi y6)))),(9,.x (.one (.vw 109)))],mkH [(0,.var [.p (.sl 1 (List.map encI y7.L)),.p (pi y7.At)]),(109,.arr 1 (List.map encI ([]:List Int)))]⟩) ?_
        replace H1:=req_some H1
        obtain ⟨⟨q_9,q_10⟩,H1⟩:=H1
        refine lok_rt E0 (⟨46,mkS [(0,.x (.one (.ptr 0 0))),(1,.x (.one (.p (pi n)))),(5,.x (.one (.p (.sl 1 (List.map encI out1))))),(6,.x (.one (.p (pi i)))),(7,.x (.one (.p (pi y4)))),(8,.x (.one (.p (pi y6)))),(9,.x (.one (.vw 109)))],mkH [(0,.var [.p (.sl 1 (List.map encI y7.L)),.p (pi y7.At)]),(109,.arr 1 (List.map encI (([]:List Int) ++ (List.take y4.toNat out1))))]⟩) ?_
        replace H1:=req_some H1
        obtain ⟨q_8,H1⟩:=H1
        refine lok_rt E0 (⟨46,mkS [(0,.x (.one (.ptr 0 0))),(1,.x (.one (.p (pi n)))),(5,.x (.one (.p (.sl 1 (List.map encI out1))))),(6,.x (.one (.p (pi i)))),(7,.x (.one (.p (pi y4)))),(9,.x (.one (.vw 109)))],mkH [(0,.var [.p (.sl 1 (List.map encI y7.L)),.p (pi y7.At)]),(109,.arr 1 (List.map encI ((([]:List Int) ++ (List.take y4.toNat out1)) ++ [y6])))]⟩) ?_
        replace H1:=req_some H1
        obtain ⟨⟨q_6,q_7⟩,H1⟩:=H1
        replace H1:=bindV_some H1
        obtain ⟨next,a_5,H1⟩:=H1
        refine lok_rlg E0 a_5 (⟨46,mkS [(0,.x (.one (.ptr 0 0))),(1,.x (.one (.p (pi n)))),(5,.x (.one (.vw 109))),(6,.x (.one (.p (pi i))))],mkH [(0,.var [.p (.sl 1 (List.map encI y7.L)),.p (pi y7.At)]),(109,.arr 1 (List.map encI next))]⟩) ?_
        try simp only [thenL,blockL,↓reduceIte,reduceCtorEq]
        refine lok_rl E0 (⟨46,mkS [(0,.x (.one (.ptr 0 0))),(1,.x (.one (.p (pi n)))),(5,.x (.one (.vw 109))),(6,.x (.one (.p (pi (IntKind.i64.wrap (i-(1:Int)))))))],mkH [(0,.var [.p (.sl 1 (List.map encI y7.L)),.p (pi y7.At)]),(109,.arr 1 (List.map encI next))]⟩) ?_
        try simp only [thenL,blockL,↓reduceIte,reduceCtorEq]
        exact ⟨(next,(IntKind.i64.wrap (i-(1:Int))),y7.L,y7.At),(Option.some.inj H1).symm,(Imp.trans (imp_frz 109 1 (List.map encI next)) imp_au)⟩
      · intro b_11
        replace H1:=cneg H1 b_11
        refine lok_exit ?_
        try simp only [thenL,blockL,↓reduceIte,reduceCtorEq]
        have e_1:=k_1 _ (Option.some.inj H1).symm
        subst e_1
        try dsimp only at H0
        try simp only [thenL,blockL,↓reduceIte,reduceCtorEq]
        exact ⟨(out1,t3,t4),H0,imp_au⟩
set_option maxHeartbeats 4000000 in
theorem ok_law03_ExchangeGapsClose (t:List Int) (r_:Bool) (H0:law03_ExchangeGapsClose t=some r_):CallOK Tryd.prog 12 [.one (.p (.sl 1 (List.map encI t)))] [] [.one (.p (.val (.bool r_)))] []:=by
  refine callOK (n:=62) (rs:=[.tmp 2]) (nb:=0) (V:=[]) Tryd.func12 rfl (by kernel_rfl) rfl rfl rfl rfl (Nat.le_of_ble_eq_true rfl) (by decide) ?_
  unfold law03_ExchangeGapsClose at H0
  refine lok_rt E0 (⟨62,mkS [(0,.x (.one (.p (.sl 1 (List.map encI t)))))],mkH []⟩) ?_
  replace H0:=bind_some H0
  obtain ⟨y,h_0,H0⟩:=H0
  refine lok_rt (Env.of E0 [⟨some 11,13,[.one (.p (.sl 1 (List.map encI t)))],[],[.one (.ptr 0 0)],[some (.var [.p (.sl 1 (List.map encI y.L)),.p (pi y.At)])],True,fun _ => ok_make_New t y h_0,[]⟩]) (⟨62,mkS [(3,.x (.one (.ptr 1011 0)))],mkH [(1011,.var [.p (.sl 1 (List.map encI y.L)),.p (pi y.At)])]⟩) ?_
  replace H0:=bind_some H0
  obtain ⟨⟨y1,y2⟩,h_1,H0⟩:=H0
  try dsimp only at H0
  refine lok_rt (Env.of E0 [⟨some 13,29,[.one (.ptr 0 0)],[.var [.p (.sl 1 (List.map encI y.L)),.p (pi y.At)]],[.one (.vw 1)],[some (.var [.p (.sl 1 (List.map encI y2.L)),.p (pi y2.At)]),some (.arr 4 (List.map enc_api_File y1))],True,fun _ => ok_law03_files y (y1,y2) h_1,[]⟩]) (⟨62,mkS [(3,.x (.one (.ptr 1011 0))),(4,.x (.one (.vw 1013)))],mkH [(1011,.var [.p (.sl 1 (List.map encI y2.L)),.p (pi y2.At)]),(1013,.arr 4 (List.map enc_api_File y1))]⟩) ?_
  replace H0:=bind_some H0
  obtain ⟨⟨y3,y4⟩,h_2,H0⟩:=H0
  try dsimp only at H0
  refine lok_rt (Env.of E0 [⟨some 17,33,[.one (.ptr 0 0),.one (.p (pi (y1.length:Int)))],[.var [.p (.sl 1 (List.map encI y2.L)),.p (pi y2.At)]],[.one (.p (.sl 1 (List.map encI y3)))],[some (.var [.p (.sl 1 (List.map encI y4.L)),.p (pi y4.At)])],True,fun _ => ok_make_Tape_Mixed y2 (y1.length:Int) (y3,y4) h_2,[]⟩]) (⟨62,mkS [(4,.x (.one (.vw 1013))),(5,.x (.one (.p (.sl 1 (List.map encI y3)))))],mkH [(1013,.arr 4 (List.map enc_api_File y1))]⟩) ?_
  refine lok_rt E0 (⟨62,mkS [(4,.x (.one (.vw 1013))),(5,.x (.one (.p (.sl 1 (List.map encI y3))))),(6,.x (.one (.vw 106)))],mkH [(106,.arr 4 (List.map enc_api_File ([]:List api_File))),(1013,.arr 4 (List.map enc_api_File y1))]⟩) ?_
  refine lok_join (fun x_:(List api_File) => law03_ExchangeGapsClose_j3 y1 x_=some r_) (fun x_ => ⟨62,mkS [(4,.x (.one (.vw 1013))),(6,.x (.one (.vw 106)))],mkH [(106,.arr 4 (List.map enc_api_File x_)),(1013,.arr 4 (List.map enc_api_File y1))]⟩) ?hylaw03_ExchangeGapsClose_j3 ?hxlaw03_ExchangeGapsClose_j3
  case hylaw03_ExchangeGapsClose_j3 =>
    rintro m H0
    try dsimp only at H0 ⊢
    unfold law03_ExchangeGapsClose_j3 at H0
    replace H0:=bind_some H0
    obtain ⟨⟨y5,y6⟩,h_3,H0⟩:=H0
    try dsimp only at H0
    replace H0:=req_some H0
    obtain ⟨q_16,H0⟩:=H0
    refine lok_rt (Env.of E0 [⟨some 35,31,[.one (.vw 0),.one (.p (pi (1:Int)))],[.arr 4 (List.map enc_api_File y1)],[.one (.p (.sl 1 (List.map encI y5)))],[some (.arr 4 (List.map enc_api_File y6))],True,fun _ => ok_exchange_Gaps y1 (1:Int) (y5,y6) h_3,[true,false]⟩]) (⟨62,mkS [(6,.x (.one (.vw 106))),(8,.x (.one (.p (.sl 1 (List.map encI y5)))))],mkH [(106,.arr 4 (List.map enc_api_File m))]⟩) ?_
    refine lok_seq ?_
    replace H0:=bind_some H0
    obtain ⟨⟨y7,y8⟩,h_4,H0⟩:=H0
    try dsimp only at H0
    replace H0:=req_some H0
    obtain ⟨q_15,H0⟩:=H0
    replace H0:=bind_some H0
    obtain ⟨y9,h_5,H0⟩:=H0
    refine lok_rt (Env.of E0 [⟨some 38,31,[.one (.vw 0),.one (.p (pi (1:Int)))],[.arr 4 (List.map enc_api_File m)],[.one (.p (.sl 1 (List.map encI y7)))],[some (.arr 4 (List.map enc_api_File y8))],True,fun _ => ok_exchange_Gaps m (1:Int) (y7,y8) h_4,[true,false]⟩,
      ⟨some 39,30,[.one (.p (.sl 1 (List.map encI y5))),.one (.p (.sl 1 (List.map encI y7)))],[],[.one (.p (.val (.bool y9)))],[],True,fun _ => ok_law03_ints y5 y7 y9 h_5,[]⟩]) (⟨62,mkS [(6,.x (.one (.vw 106))),(8,.x (.one (.p (.sl 1 (List.map encI y5))))),(40,.x (.one (.p (.val (.bool (!y9))))))],mkH [(106,.arr 4 (List.map enc_api_File y8))]⟩) ?_
    refine lok_c (!y9) ?_ ?_
    · intro b_14
      replace H0:=cpos H0 b_14
      refine lok_rt E0 (⟨62,mkS [(2,.x (.one (.p (.val (.bool false)))))],mkH []⟩) ?_
      refine lok_ret ?_
      try obtain rfl:=Option.some.inj H0
      try simp only [thenL,blockL]
      exact fin_au _ (.inr rfl) [] (⟨62,mkS [(2,.x (.one (.p (.val (.bool false)))))],mkH []⟩) rfl rfl imp_au
    · intro b_14
      replace H0:=cneg H0 b_14
      refine lok_skip ?_
      try simp only [thenL,blockL,↓reduceIte,reduceCtorEq]
      refine lok_join (fun x_:(List api_File) => law03_ExchangeGapsClose_j1 x_=some r_) (fun x_ => ⟨62,mkS [(6,.x (.one (.vw 106)))],mkH [(106,.arr 4 (List.map enc_api_File x_))]⟩) ?hylaw03_ExchangeGapsClose_j1 ?hxlaw03_ExchangeGapsClose_j1
      case hylaw03_ExchangeGapsClose_j1 =>
        rintro m1 H0
        try dsimp only at H0 ⊢
        unfold law03_ExchangeGapsClose_j1 at H0
        replace H0:=bind_some H0
        obtain ⟨⟨y10,y11⟩,h_6,H0⟩:=H0
        try dsimp only at H0
        replace H0:=req_some H0
        obtain ⟨⟨q_7,q_8⟩,H0⟩:=H0
        refine lok_rt (Env.of E0 [⟨some 56,31,[.one (.vw 0),.one (.p (pi (1:Int)))],[.arr 4 (List.map enc_api_File m1)],[.one (.p (.sl 1 (List.map encI y10)))],[some (.arr 4 (List.map enc_api_File y11))],True,fun _ => ok_exchange_Gaps m1 (1:Int) (y10,y11) h_6,[true,false]⟩,
      ⟨some 60,19,[],[],[.one (.p (.val (.bool ((law03_awake).getD default))))],[],(law03_awake).isSome=true,fun h => ok_law03_awake _ (isSome_get h),[]⟩]) (⟨62,mkS [(2,.x (.one (.p (.val (.bool (((y10.length:Int)==(0:Int))&&((law03_awake).getD default)))))))],mkH []⟩) ?_
        refine lok_ret ?_
        try obtain rfl:=Option.some.inj H0
        try simp only [thenL,blockL]
        exact fin_au _ (.inr rfl) [] (⟨62,mkS [(2,.x (.one (.p (.val (.bool (((y10.length:Int)==(0:Int))&&((law03_awake).getD default)))))))],mkH []⟩) rfl rfl imp_au
      case hxlaw03_ExchangeGapsClose_j1 =>
        refine lok_rt E0 (⟨62,mkS [(6,.x (.one (.vw 106))),(8,.x (.one (.p (.sl 1 (List.map encI y5))))),(9,.x (.one (.p (pi (0:Int)))))],mkH [(106,.arr 4 (List.map enc_api_File y8))]⟩) ?_
        refine lok_block ?_
        replace H0:=bind_some H0
        obtain ⟨v_9,hv_9,H0⟩:=H0
        refine lok_iter (fun x_ => ⟨62,mkS [(6,.x (.one (.vw 106))),(8,.x (.one (.p (.sl 1 (List.map encI y5))))),(9,.x (.one (.p (pi x_.1))))],mkH [(106,.arr 4 (List.map enc_api_File x_.2))]⟩) hv_9 imp_au ?_
        · rintro ⟨i,m2⟩ o_1 H1 k_1
          unfold law03_ExchangeGapsClose_l2 at H1
          try dsimp only at H1 ⊢
          refine lok_seq ?_
          refine lok_rt E0 (⟨62,mkS [(6,.x (.one (.vw 106))),(8,.x (.one (.p (.sl 1 (List.map encI y5))))),(9,.x (.one (.p (pi i)))),(44,.x (.one (.p (.val (.bool (decide (i<(y5.length:Int))))))))],mkH [(106,.arr 4 (List.map enc_api_File m2))]⟩) ?_
          refine lok_c (decide (i<(y5.length:Int))) ?_ ?_
          · intro b_13
            replace H1:=cpos H1 b_13
            refine lok_skip ?_
            try simp only [thenL,blockL,↓reduceIte,reduceCtorEq]
            refine lok_seq ?_
            refine lok_block ?_
            replace H1:=req_some H1
            obtain ⟨⟨q_11,q_12⟩,H1⟩:=H1
            replace H1:=bindV_some H1
            obtain ⟨m4,a_10,H1⟩:=H1
            refine lok_rlg E0 a_10 (⟨62,mkS [(6,.x (.one (.vw 106))),(8,.x (.one (.p (.sl 1 (List.map encI y5))))),(9,.x (.one (.p (pi i))))],mkH [(106,.arr 4 (List.map enc_api_File m4))]⟩) ?_
            try simp only [thenL,blockL,↓reduceIte,reduceCtorEq]
            refine lok_rl E0 (⟨62,mkS [(6,.x (.one (.vw 106))),(8,.x (.one (.p (.sl 1 (List.map encI y5))))),(9,.x (.one (.p (pi (IntKind.i64.wrap (i+(1:Int)))))))],mkH [(106,.arr 4 (List.map enc_api_File m4))]⟩) ?_
            try simp only [thenL,blockL,↓reduceIte,reduceCtorEq]
            exact ⟨((IntKind.i64.wrap (i+(1:Int))),m4),(Option.some.inj H1).symm,imp_au⟩
          · intro b_13
            replace H1:=cneg H1 b_13
            refine lok_exit ?_
            try simp only [thenL,blockL,↓reduceIte,reduceCtorEq]
            have e_1:=k_1 _ (Option.some.inj H1).symm
            subst e_1
            try dsimp only at H0
            try simp only [thenL,blockL,↓reduceIte,reduceCtorEq]
            exact ⟨m2,H0,imp_au⟩
  case hxlaw03_ExchangeGapsClose_j3 =>
    refine lok_rt E0 (⟨62,mkS [(4,.x (.one (.vw 1013))),(5,.x (.one (.p (.sl 1 (List.map encI y3))))),(6,.x (.one (.vw 106))),(7,.x (.one (.p (pi (0:Int)))))],mkH [(106,.arr 4 (List.map enc_api_File ([]:List api_File))),(1013,.arr 4 (List.map enc_api_File y1))]⟩) ?_
    refine lok_block ?_
    replace H0:=bind_some H0
    obtain ⟨v_17,hv_17,H0⟩:=H0
    refine lok_iter (fun x_ => ⟨62,mkS [(4,.x (.one (.vw 1013))),(5,.x (.one (.p (.sl 1 (List.map encI y3))))),(6,.x (.one (.vw 106))),(7,.x (.one (.p (pi x_.1))))],mkH [(106,.arr 4 (List.map enc_api_File x_.2)),(1013,.arr 4 (List.map enc_api_File y1))]⟩) hv_17 imp_au ?_
    · rintro ⟨i1,m5⟩ o_1 H1 k_1
      unfold law03_ExchangeGapsClose_l4 at H1
      try dsimp only at H1 ⊢
      refine lok_seq ?_
      refine lok_rt E0 (⟨62,mkS [(4,.x (.one (.vw 1013))),(5,.x (.one (.p (.sl 1 (List.map encI y3))))),(6,.x (.one (.vw 106))),(7,.x (.one (.p (pi i1)))),(21,.x (.one (.p (.val (.bool (decide (i1<(y3.length:Int))))))))],mkH [(106,.arr 4 (List.map enc_api_File m5)),(1013,.arr 4 (List.map enc_api_File y1))]⟩) ?_
      refine lok_c (decide (i1<(y3.length:Int))) ?_ ?_
      · intro b_21
        replace H1:=cpos H1 b_21
        refine lok_skip ?_
        try simp only [thenL,blockL,↓reduceIte,reduceCtorEq]
        refine lok_seq ?_
        refine lok_block ?_
        replace H1:=req_some H1
        obtain ⟨⟨q_18,q_19,q_20⟩,H1⟩:=H1
        refine lok_rl E0 (⟨62,mkS [(4,.x (.one (.vw 1013))),(5,.x (.one (.p (.sl 1 (List.map encI y3))))),(6,.x (.one (.vw 106))),(7,.x (.one (.p (pi i1))))],mkH [(106,.arr 4 (List.map enc_api_File (m5 ++ [(ix y1 (ix y3 i1))]))),(1013,.arr 4 (List.map enc_api_File y1))]⟩) ?_
        try simp only [thenL,blockL,↓reduceIte,reduceCtorEq]
        refine lok_rl E0 (⟨62,mkS [(4,.x (.one (.vw 1013))),(5,.x (.one (.p (.sl 1 (List.map encI y3))))),(6,.x (.one (.vw 106))),(7,.x (.one (.p (pi (IntKind.i64.wrap (i1+(1:Int)))))))],mkH [(106,.arr 4 (List.map enc_api_File (m5 ++ [(ix y1 (ix y3 i1))]))),(1013,.arr 4 (List.map enc_api_File y1))]⟩) ?_
        try simp only [thenL,blockL,↓reduceIte,reduceCtorEq]
        exact ⟨((IntKind.i64.wrap (i1+(1:Int))),(m5 ++ [(ix y1 (ix y3 i1))])),(Option.some.inj H1).symm,imp_au⟩
      · intro b_21
        replace H1:=cneg H1 b_21
        refine lok_exit ?_
        try simp only [thenL,blockL,↓reduceIte,reduceCtorEq]
        have e_1:=k_1 _ (Option.some.inj H1).symm
        subst e_1
        try dsimp only at H0
        try simp only [thenL,blockL,↓reduceIte,reduceCtorEq]
        exact ⟨m5,H0,imp_au⟩
end Go.LS
