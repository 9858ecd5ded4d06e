/-
  The walks: the functions compute what the plain ones say. Condition: the plain function has a value.
-/
import Derived.Test.YtmgjidfafnajnaaDoorLs33
import Derived.Test.YtmgjidfafnajnaaDoorK0
import Derived.Test.YtmgjidfafnajnaaDoorD1
namespace Go.LS
open Go.Proofs
set_option linter.all false
set_option linter.unusedSimpArgs false
set_option linter.unusedVariables false
set_option maxRecDepth 20000

theorem ok_rscode_Distance (a : List Int) (b : List Int) (r_ : Int) (H0 : rscode_Distance a b = some r_) : CallOK Tryd.prog 10 [.one (.p (.sl 1 (List.map encI a))), .one (.p (.sl 1 (List.map encI b)))] [] [.one (.p (pi r_))] [] := by
  refine callOK (n := 30) (rs := [.tmp 4]) (nb := 0) (V := []) Tryd.func10 rfl (by kernel_rfl) rfl rfl rfl rfl (Nat.le_of_ble_eq_true rfl) (by decide) ?_
  unfold rscode_Distance at H0
  refine lok_rt E0 (⟨30, mkS [(0, .x (.one (.p (.sl 1 (List.map encI a))))), (1, .x (.one (.p (.sl 1 (List.map encI b)))))], mkH []⟩) ?_
  refine lok_seq ?_
  refine lok_rt E0 (⟨30, mkS [(0, .x (.one (.p (.sl 1 (List.map encI a))))), (1, .x (.one (.p (.sl 1 (List.map encI b))))), (11, .x (.one (.p (.val (.bool ((a.length : Int) != (b.length : Int)))))))], mkH []⟩) ?_
  refine lok_c ((a.length : Int) != (b.length : Int)) ?_ ?_
  · intro b_5
    replace H0 := cpos H0 b_5
    refine lok_rt E0 (⟨30, mkS [(4, .x (.one (.p (pi (-1 : Int)))))], mkH []⟩) ?_
    refine lok_ret ?_
    try obtain rfl := Option.some.inj H0
    try simp only [thenL, blockL]
    exact fin_au _ (.inr rfl) [] (⟨30, mkS [(4, .x (.one (.p (pi (-1 : Int)))))], mkH []⟩) rfl rfl imp_au
  · intro b_5
    replace H0 := cneg H0 b_5
    refine lok_skip ?_
    try simp only [thenL, blockL, ↓reduceIte, reduceCtorEq]
    refine lok_rt E0 (⟨30, mkS [(0, .x (.one (.p (.sl 1 (List.map encI a))))), (1, .x (.one (.p (.sl 1 (List.map encI b))))), (5, .x (.one (.p (pi (0 : Int)))))], mkH []⟩) ?_
    refine lok_join (fun x_ : Int => rscode_Distance_j1 x_ = some r_) (fun x_ => ⟨30, mkS [(5, .x (.one (.p (pi x_))))], mkH []⟩) ?hyrscode_Distance_j1 ?hxrscode_Distance_j1
    case hyrscode_Distance_j1 =>
      rintro differing H0
      try dsimp only at H0 ⊢
      unfold rscode_Distance_j1 at H0
      refine lok_rt E0 (⟨30, mkS [(4, .x (.one (.p (pi differing))))], mkH []⟩) ?_
      refine lok_ret ?_
      try obtain rfl := Option.some.inj H0
      try simp only [thenL, blockL]
      exact fin_au _ (.inr rfl) [] (⟨30, mkS [(4, .x (.one (.p (pi differing))))], mkH []⟩) rfl rfl imp_au
    case hxrscode_Distance_j1 =>
      refine lok_rt E0 (⟨30, mkS [(0, .x (.one (.p (.sl 1 (List.map encI a))))), (1, .x (.one (.p (.sl 1 (List.map encI b))))), (5, .x (.one (.p (pi (0 : Int))))), (13, .x (.one (.p (pi (a.length : Int))))), (14, .x (.one (.p (pi (0 : Int)))))], mkH []⟩) ?_
      refine lok_block ?_
      replace H0 := bind_some H0
      obtain ⟨v_0, hv_0, H0⟩ := H0
      refine lok_iter (fun x_ => ⟨30, mkS [(0, .x (.one (.p (.sl 1 (List.map encI a))))), (1, .x (.one (.p (.sl 1 (List.map encI b))))), (5, .x (.one (.p (pi x_.1)))), (13, .x (.one (.p (pi (a.length : Int))))), (14, .x (.one (.p (pi x_.2))))], mkH []⟩) hv_0 imp_au ?_
      · rintro ⟨differing1, v⟩ o_1 H1 k_1
        unfold rscode_Distance_l3 at H1
        try dsimp only at H1 ⊢
        refine lok_rt E0 (⟨30, mkS [(0, .x (.one (.p (.sl 1 (List.map encI a))))), (1, .x (.one (.p (.sl 1 (List.map encI b))))), (5, .x (.one (.p (pi differing1)))), (13, .x (.one (.p (pi (a.length : Int))))), (14, .x (.one (.p (pi v)))), (15, .x (.one (.p (.val (.bool (decide (v < (a.length : Int))))))))], mkH []⟩) ?_
        refine lok_seq ?_
        refine lok_c (decide (v < (a.length : Int))) ?_ ?_
        · intro b_4
          replace H1 := cpos H1 b_4
          refine lok_skip ?_
          try simp only [thenL, blockL, ↓reduceIte, reduceCtorEq]
          refine lok_join (fun x_ : Int => rscode_Distance_j2 v x_ = some o_1) (fun x_ => ⟨30, mkS [(0, .x (.one (.p (.sl 1 (List.map encI a))))), (1, .x (.one (.p (.sl 1 (List.map encI b))))), (5, .x (.one (.p (pi x_)))), (13, .x (.one (.p (pi (a.length : Int))))), (14, .x (.one (.p (pi v))))], mkH []⟩) ?hyrscode_Distance_j2 ?hxrscode_Distance_j2
          case hyrscode_Distance_j2 =>
            rintro differing3 H1
            try dsimp only at H1 ⊢
            unfold rscode_Distance_j2 at H1
            refine lok_rl E0 (⟨30, mkS [(0, .x (.one (.p (.sl 1 (List.map encI a))))), (1, .x (.one (.p (.sl 1 (List.map encI b))))), (5, .x (.one (.p (pi differing3)))), (13, .x (.one (.p (pi (a.length : Int))))), (14, .x (.one (.p (pi (IntKind.i64.wrap (v + (1 : Int)))))))], mkH []⟩) ?_
            try simp only [thenL, blockL, ↓reduceIte, reduceCtorEq]
            exact ⟨(differing3, (IntKind.i64.wrap (v + (1 : Int)))), (Option.some.inj H1).symm, imp_au⟩
          case hxrscode_Distance_j2 =>
            refine lok_block ?_
            refine lok_rt E0 (⟨30, mkS [(0, .x (.one (.p (.sl 1 (List.map encI a))))), (1, .x (.one (.p (.sl 1 (List.map encI b))))), (5, .x (.one (.p (pi differing1)))), (6, .x (.one (.p (pi v)))), (13, .x (.one (.p (pi (a.length : Int))))), (14, .x (.one (.p (pi v))))], mkH []⟩) ?_
            replace H1 := req_some H1
            obtain ⟨⟨q_2, q_3⟩, H1⟩ := H1
            refine lok_dt E0 8 (⟨30, mkS [(0, .x (.one (.p (.sl 1 (List.map encI a))))), (1, .x (.one (.p (.sl 1 (List.map encI b))))), (5, .x (.one (.p (pi differing1)))), (13, .x (.one (.p (pi (a.length : Int))))), (14, .x (.one (.p (pi v)))), (25, .x (.one (.p (.val (.bool ((ix a v) != (ix b v)))))))], mkH []⟩) (by kernel_rfl) (by kernel_rfl) ?_
            refine lok_c ((ix a v) != (ix b v)) ?_ ?_
            · intro b_1
              replace H1 := cpos H1 b_1
              refine lok_rl E0 (⟨30, mkS [(0, .x (.one (.p (.sl 1 (List.map encI a))))), (1, .x (.one (.p (.sl 1 (List.map encI b))))), (5, .x (.one (.p (pi (IntKind.i64.wrap (differing1 + (1 : Int))))))), (13, .x (.one (.p (pi (a.length : Int))))), (14, .x (.one (.p (pi v))))], mkH []⟩) ?_
              try simp only [thenL, blockL, ↓reduceIte, reduceCtorEq]
              exact ⟨(IntKind.i64.wrap (differing1 + (1 : Int))), H1, imp_au⟩
            · intro b_1
              replace H1 := cneg H1 b_1
              refine lok_skip ?_
              try simp only [thenL, blockL, ↓reduceIte, reduceCtorEq]
              exact ⟨differing1, H1, imp_au⟩
        · intro b_4
          replace H1 := cneg H1 b_4
          refine lok_exit ?_
          try simp only [thenL, blockL, ↓reduceIte, reduceCtorEq]
          have e_1 := k_1 _ (Option.some.inj H1).symm
          subst e_1
          try dsimp only at H0
          try simp only [thenL, blockL, ↓reduceIte, reduceCtorEq]
          exact ⟨differing1, H0, imp_au⟩
theorem ok_strip_isStrip (s : Str) (r_ : Bool) (H0 : strip_isStrip s = some r_) : CallOK Tryd.prog 26 [.one (.p (.val (.string (bs s))))] [] [.one (.p (.val (.bool r_)))] [] := by
  refine callOK (n := 27) (rs := [.tmp 2]) (nb := 0) (V := []) Tryd.func26 rfl (by kernel_rfl) rfl rfl rfl rfl (Nat.le_of_ble_eq_true rfl) (by decide) ?_
  unfold strip_isStrip at H0
  refine lok_rt E0 (⟨27, mkS [(0, .x (.one (.p (.val (.string (bs s))))))], mkH []⟩) ?_
  refine lok_seq ?_
  refine lok_rt E0 (⟨27, mkS [(0, .x (.one (.p (.val (.string (bs s)))))), (6, .x (.one (.p (.val (.bool ((s.length : Int) != (74 : Int)))))))], mkH []⟩) ?_
  refine lok_c ((s.length : Int) != (74 : Int)) ?_ ?_
  · intro b_6
    replace H0 := cpos H0 b_6
    refine lok_rt E0 (⟨27, mkS [(2, .x (.one (.p (.val (.bool false)))))], mkH []⟩) ?_
    refine lok_ret ?_
    try obtain rfl := Option.some.inj H0
    try simp only [thenL, blockL]
    exact fin_au _ (.inr rfl) [] (⟨27, mkS [(2, .x (.one (.p (.val (.bool false)))))], mkH []⟩) rfl rfl imp_au
  · intro b_6
    replace H0 := cneg H0 b_6
    refine lok_skip ?_
    try simp only [thenL, blockL, ↓reduceIte, reduceCtorEq]
    refine lok_join (fun x_ : Unit => strip_isStrip_j1 = some r_) (fun x_ => ⟨27, mkS [], mkH []⟩) ?hystrip_isStrip_j1 ?hxstrip_isStrip_j1
    case hystrip_isStrip_j1 =>
      rintro _ H0
      try dsimp only at H0 ⊢
      unfold strip_isStrip_j1 at H0
      refine lok_rt E0 (⟨27, mkS [(2, .x (.one (.p (.val (.bool true)))))], mkH []⟩) ?_
      refine lok_ret ?_
      try obtain rfl := Option.some.inj H0
      try simp only [thenL, blockL]
      exact fin_au _ (.inr rfl) [] (⟨27, mkS [(2, .x (.one (.p (.val (.bool true)))))], mkH []⟩) rfl rfl imp_au
    case hxstrip_isStrip_j1 =>
      refine lok_rt E0 (⟨27, mkS [(0, .x (.one (.p (.val (.string (bs s)))))), (7, .x (.one (.p (pi (0 : Int)))))], mkH []⟩) ?_
      refine lok_block ?_
      replace H0 := bind_some H0
      obtain ⟨v_0, hv_0, H0⟩ := H0
      refine lok_iter (fun x_ => ⟨27, mkS [(0, .x (.one (.p (.val (.string (bs s)))))), (7, .x (.one (.p (pi x_))))], mkH []⟩) hv_0 imp_au ?_
      · rintro v o_1 H1 k_1
        unfold strip_isStrip_l2 at H1
        try dsimp only at H1 ⊢
        refine lok_rt E0 (⟨27, mkS [(0, .x (.one (.p (.val (.string (bs s)))))), (7, .x (.one (.p (pi v)))), (8, .x (.one (.p (.val (.bool (decide (v < (74 : Int))))))))], mkH []⟩) ?_
        refine lok_seq ?_
        refine lok_c (decide (v < (74 : Int))) ?_ ?_
        · intro b_5
          replace H1 := cpos H1 b_5
          refine lok_skip ?_
          try simp only [thenL, blockL, ↓reduceIte, reduceCtorEq]
          refine lok_seq ?_
          refine lok_block ?_
          refine lok_rt E0 (⟨27, mkS [(0, .x (.one (.p (.val (.string (bs s)))))), (3, .x (.one (.p (pi v)))), (7, .x (.one (.p (pi v))))], mkH []⟩) ?_
          replace H1 := req_some H1
          obtain ⟨⟨q_2, q_3, q_4⟩, H1⟩ := H1
          refine lok_rt E0 (⟨27, mkS [(0, .x (.one (.p (.val (.string (bs s)))))), (7, .x (.one (.p (pi v)))), (25, .x (.one (.p (.val (.bool ((((sx s v) != (48 : Int)) && ((sx s v) != (49 : Int))) && ((sx s v) != (63 : Int))))))))], mkH []⟩) ?_
          refine lok_c ((((sx s v) != (48 : Int)) && ((sx s v) != (49 : Int))) && ((sx s v) != (63 : Int))) ?_ ?_
          · intro b_1
            replace H1 := cpos H1 b_1
            refine lok_rt E0 (⟨27, mkS [(2, .x (.one (.p (.val (.bool false)))))], mkH []⟩) ?_
            refine lok_ret ?_
            try simp only [thenL, blockL, ↓reduceIte, reduceCtorEq]
            have e_1 := k_1 _ (Option.some.inj H1).symm
            subst e_1
            try dsimp only at H0
            try obtain rfl := Option.some.inj H0
            try simp only [thenL, blockL]
            exact fin_au _ (.inr rfl) [] (⟨27, mkS [(2, .x (.one (.p (.val (.bool false)))))], mkH []⟩) rfl rfl imp_au
          · intro b_1
            replace H1 := cneg H1 b_1
            refine lok_skip ?_
            try simp only [thenL, blockL, ↓reduceIte, reduceCtorEq]
            refine lok_rl E0 (⟨27, mkS [(0, .x (.one (.p (.val (.string (bs s)))))), (7, .x (.one (.p (pi (IntKind.i64.wrap (v + (1 : Int)))))))], mkH []⟩) ?_
            try simp only [thenL, blockL, ↓reduceIte, reduceCtorEq]
            exact ⟨(IntKind.i64.wrap (v + (1 : Int))), (Option.some.inj H1).symm, imp_au⟩
        · intro b_5
          replace H1 := cneg H1 b_5
          refine lok_exit ?_
          try simp only [thenL, blockL, ↓reduceIte, reduceCtorEq]
          have e_1 := k_1 _ (Option.some.inj H1).symm
          subst e_1
          try dsimp only at H0
          try simp only [thenL, blockL, ↓reduceIte, reduceCtorEq]
          exact ⟨(), H0, imp_au⟩
theorem ok_strip_Upright (s : Str) (r_ : Str × Int) (H0 : strip_Upright s = some r_) : CallOK Tryd.prog 29 [.one (.p (.val (.string (bs s))))] [] [.one (.p (.val (.string (bs r_.1)))), .one (.p (pi r_.2))] [] := by
  refine callOK (n := 14) (rs := [.tmp 2, .tmp 3]) (nb := 0) (V := []) Tryd.func29 rfl (by kernel_rfl) rfl rfl rfl rfl (Nat.le_of_ble_eq_true rfl) (by decide) ?_
  unfold strip_Upright at H0
  refine lok_rt E0 (⟨14, mkS [(0, .x (.one (.p (.val (.string (bs s))))))], mkH []⟩) ?_
  refine lok_seq ?_
  replace H0 := bind_some H0
  obtain ⟨y, h_0, H0⟩ := H0
  refine lok_rt (Env.of E0 [⟨some 5, 26, [.one (.p (.val (.string (bs s))))], [], [.one (.p (.val (.bool y)))], [], True, fun _ => ok_strip_isStrip s y h_0, []⟩]) (⟨14, mkS [(0, .x (.one (.p (.val (.string (bs s)))))), (6, .x (.one (.p (.val (.bool (!y))))))], mkH []⟩) ?_
  refine lok_c (!y) ?_ ?_
  · intro b_6
    replace H0 := cpos H0 b_6
    refine lok_rt E0 (⟨14, mkS [(2, .x (.one (.p (.val (.string (bs ([] : Str))))))), (3, .x (.one (.p (pi (7 : Int)))))], mkH []⟩) ?_
    refine lok_ret ?_
    try obtain rfl := Option.some.inj H0
    try simp only [thenL, blockL]
    exact fin_au _ (.inr rfl) [] (⟨14, mkS [(2, .x (.one (.p (.val (.string (bs ([] : Str))))))), (3, .x (.one (.p (pi (7 : Int)))))], mkH []⟩) rfl rfl imp_au
  · intro b_6
    replace H0 := cneg H0 b_6
    refine lok_skip ?_
    try simp only [thenL, blockL, ↓reduceIte, reduceCtorEq]
    refine lok_seq ?_
    replace H0 := bind_some H0
    obtain ⟨y1, h_1, H0⟩ := H0
    refine lok_rt (Env.of E0 [⟨some 8, 53, [.one (.p (.val (.string (bs s)))), .one (.p (.val (.string (bs ([49] : Str))))), .one (.p (.val (.string (bs ([48] : Str)))))], [], [.one (.p (.val (.bool y1)))], [], True, fun _ => ok_strip_marked s ([49] : Str) ([48] : Str) y1 h_1, []⟩]) (⟨14, mkS [(0, .x (.one (.p (.val (.string (bs s)))))), (8, .x (.one (.p (.val (.bool y1)))))], mkH []⟩) ?_
    refine lok_c y1 ?_ ?_
    · intro b_5
      replace H0 := cpos H0 b_5
      refine lok_rt E0 (⟨14, mkS [(2, .x (.one (.p (.val (.string (bs s)))))), (3, .x (.one (.p (pi (0 : Int)))))], mkH []⟩) ?_
      refine lok_ret ?_
      try obtain rfl := Option.some.inj H0
      try simp only [thenL, blockL]
      exact fin_au _ (.inr rfl) [] (⟨14, mkS [(2, .x (.one (.p (.val (.string (bs s)))))), (3, .x (.one (.p (pi (0 : Int)))))], mkH []⟩) rfl rfl imp_au
    · intro b_5
      replace H0 := cneg H0 b_5
      refine lok_skip ?_
      try simp only [thenL, blockL, ↓reduceIte, reduceCtorEq]
      refine lok_seq ?_
      replace H0 := bind_some H0
      obtain ⟨y2, h_2, H0⟩ := H0
      refine lok_rt (Env.of E0 [⟨some 11, 53, [.one (.p (.val (.string (bs s)))), .one (.p (.val (.string (bs ([48] : Str))))), .one (.p (.val (.string (bs ([49] : Str)))))], [], [.one (.p (.val (.bool y2)))], [], True, fun _ => ok_strip_marked s ([48] : Str) ([49] : Str) y2 h_2, []⟩]) (⟨14, mkS [(0, .x (.one (.p (.val (.string (bs s)))))), (11, .x (.one (.p (.val (.bool y2)))))], mkH []⟩) ?_
      refine lok_c y2 ?_ ?_
      · intro b_4
        replace H0 := cpos H0 b_4
        replace H0 := bind_some H0
        obtain ⟨y3, h_3, H0⟩ := H0
        refine lok_rt (Env.of E0 [⟨some 13, 33, [.one (.p (.val (.string (bs s))))], [], [.one (.p (.val (.string (bs y3))))], [], True, fun _ => ok_strip_Flip s y3 h_3, []⟩]) (⟨14, mkS [(2, .x (.one (.p (.val (.string (bs y3)))))), (3, .x (.one (.p (pi (0 : Int)))))], mkH []⟩) ?_
        refine lok_ret ?_
        try obtain rfl := Option.some.inj H0
        try simp only [thenL, blockL]
        exact fin_au _ (.inr rfl) [] (⟨14, mkS [(2, .x (.one (.p (.val (.string (bs y3)))))), (3, .x (.one (.p (pi (0 : Int)))))], mkH []⟩) rfl rfl imp_au
      · intro b_4
        replace H0 := cneg H0 b_4
        refine lok_skip ?_
        try simp only [thenL, blockL, ↓reduceIte, reduceCtorEq]
        refine lok_rt E0 (⟨14, mkS [(2, .x (.one (.p (.val (.string (bs ([] : Str))))))), (3, .x (.one (.p (pi (26 : Int)))))], mkH []⟩) ?_
        refine lok_ret ?_
        try obtain rfl := Option.some.inj H0
        try simp only [thenL, blockL]
        exact fin_au _ (.inr rfl) [] (⟨14, mkS [(2, .x (.one (.p (.val (.string (bs ([] : Str))))))), (3, .x (.one (.p (pi (26 : Int)))))], mkH []⟩) rfl rfl imp_au
set_option maxHeartbeats 4000000 in
theorem ok_strip_Word (s : Str) (r_ : (List Int) × Int) (H0 : strip_Word s = some r_) : CallOK Tryd.prog 8 [.one (.p (.val (.string (bs s))))] [] [.one (.p (.sl 1 (List.map encI r_.1))), .one (.p (pi r_.2))] [] := by
  refine callOK (n := 47) (rs := [.tmp 2, .tmp 3]) (nb := 0) (V := []) Tryd.func8 rfl (by kernel_rfl) rfl rfl rfl rfl (Nat.le_of_ble_eq_true rfl) (by decide) ?_
  unfold strip_Word at H0
  refine lok_rt E0 (⟨47, mkS [(0, .x (.one (.p (.val (.string (bs s))))))], mkH []⟩) ?_
  refine lok_seq ?_
  replace H0 := bind_some H0
  obtain ⟨y, h_0, H0⟩ := H0
  refine lok_rt (Env.of E0 [⟨some 9, 26, [.one (.p (.val (.string (bs s))))], [], [.one (.p (.val (.bool y)))], [], True, fun _ => ok_strip_isStrip s y h_0, []⟩]) (⟨47, mkS [(0, .x (.one (.p (.val (.string (bs s)))))), (10, .x (.one (.p (.val (.bool (!y))))))], mkH []⟩) ?_
  refine lok_c (!y) ?_ ?_
  · intro b_12
    replace H0 := cpos H0 b_12
    refine lok_rt E0 (⟨47, mkS [(2, .x (.one (.vw 102))), (3, .x (.one (.p (pi (7 : Int)))))], mkH [(102, .arr 1 (List.map encI ([] : List Int)))]⟩) ?_
    refine lok_ret ?_
    try obtain rfl := Option.some.inj H0
    try simp only [thenL, blockL]
    exact fin_au _ (.inr rfl) [] (⟨47, mkS [(2, .x (.one (.p (.sl 1 (List.map encI ([] : List Int)))))), (3, .x (.one (.p (pi (7 : Int)))))], mkH []⟩) rfl rfl (Imp.trans (imp_frz 102 1 (List.map encI ([] : List Int))) imp_au)
  · intro b_12
    replace H0 := cneg H0 b_12
    refine lok_skip ?_
    try simp only [thenL, blockL, ↓reduceIte, reduceCtorEq]
    replace H0 := req_some H0
    obtain ⟨q_11, H0⟩ := H0
    refine lok_rt E0 (⟨47, mkS [(0, .x (.one (.p (.val (.string (bs s)))))), (4, .x (.one (.vw 111)))], mkH [(111, .arr 1 (List.map encI (rep (12 : Int) (0 : Int))))]⟩) ?_
    refine lok_join (fun x_ : (List Int) => strip_Word_j1 x_ = some r_) (fun x_ => ⟨47, mkS [(4, .x (.one (.vw 111)))], mkH [(111, .arr 1 (List.map encI x_))]⟩) ?hystrip_Word_j1 ?hxstrip_Word_j1
    case hystrip_Word_j1 =>
      rintro w H0
      try dsimp only at H0 ⊢
      unfold strip_Word_j1 at H0
      refine lok_rt E0 (⟨47, mkS [(2, .x (.one (.vw 111))), (3, .x (.one (.p (pi (0 : Int)))))], mkH [(111, .arr 1 (List.map encI w))]⟩) ?_
      refine lok_ret ?_
      try obtain rfl := Option.some.inj H0
      try simp only [thenL, blockL]
      exact fin_au _ (.inr rfl) [] (⟨47, mkS [(2, .x (.one (.p (.sl 1 (List.map encI w))))), (3, .x (.one (.p (pi (0 : Int)))))], mkH []⟩) rfl rfl (Imp.trans (imp_frz 111 1 (List.map encI w)) imp_au)
    case hxstrip_Word_j1 =>
      refine lok_rt E0 (⟨47, mkS [(0, .x (.one (.p (.val (.string (bs s)))))), (4, .x (.one (.vw 111))), (13, .x (.one (.p (pi ((rep (12 : Int) (0 : Int)).length : Int))))), (14, .x (.one (.p (pi (0 : Int)))))], mkH [(111, .arr 1 (List.map encI (rep (12 : Int) (0 : Int))))]⟩) ?_
      refine lok_block ?_
      replace H0 := bind_some H0
      obtain ⟨v_1, hv_1, H0⟩ := H0
      refine lok_iter (fun x_ => ⟨47, mkS [(0, .x (.one (.p (.val (.string (bs s)))))), (4, .x (.one (.vw 111))), (13, .x (.one (.p (pi ((rep (12 : Int) (0 : Int)).length : Int))))), (14, .x (.one (.p (pi x_.1))))], mkH [(111, .arr 1 (List.map encI x_.2))]⟩) hv_1 imp_au ?_
      · rintro ⟨v, w1⟩ o_1 H1 k_1
        unfold strip_Word_l4 at H1
        try dsimp only at H1 ⊢
        refine lok_rt E0 (⟨47, mkS [(0, .x (.one (.p (.val (.string (bs s)))))), (4, .x (.one (.vw 111))), (13, .x (.one (.p (pi ((rep (12 : Int) (0 : Int)).length : Int))))), (14, .x (.one (.p (pi v)))), (15, .x (.one (.p (.val (.bool (decide (v < ((rep (12 : Int) (0 : Int)).length : Int))))))))], mkH [(111, .arr 1 (List.map encI w1))]⟩) ?_
        refine lok_seq ?_
        refine lok_c (decide (v < ((rep (12 : Int) (0 : Int)).length : Int))) ?_ ?_
        · intro b_10
          replace H1 := cpos H1 b_10
          refine lok_skip ?_
          try simp only [thenL, blockL, ↓reduceIte, reduceCtorEq]
          refine lok_join (fun x_ : (List Int) => strip_Word_j2 v x_ = some o_1) (fun x_ => ⟨47, mkS [(0, .x (.one (.p (.val (.string (bs s)))))), (4, .x (.one (.vw 111))), (13, .x (.one (.p (pi ((rep (12 : Int) (0 : Int)).length : Int))))), (14, .x (.one (.p (pi v))))], mkH [(111, .arr 1 (List.map encI x_))]⟩) ?hystrip_Word_j2 ?hxstrip_Word_j2
          case hystrip_Word_j2 =>
            rintro w3 H1
            try dsimp only at H1 ⊢
            unfold strip_Word_j2 at H1
            refine lok_rl E0 (⟨47, mkS [(0, .x (.one (.p (.val (.string (bs s)))))), (4, .x (.one (.vw 111))), (13, .x (.one (.p (pi ((rep (12 : Int) (0 : Int)).length : Int))))), (14, .x (.one (.p (pi (IntKind.i64.wrap (v + (1 : Int)))))))], mkH [(111, .arr 1 (List.map encI w3))]⟩) ?_
            try simp only [thenL, blockL, ↓reduceIte, reduceCtorEq]
            exact ⟨((IntKind.i64.wrap (v + (1 : Int))), w3), (Option.some.inj H1).symm, imp_au⟩
          case hxstrip_Word_j2 =>
            refine lok_block ?_
            refine lok_rt E0 (⟨47, mkS [(0, .x (.one (.p (.val (.string (bs s)))))), (4, .x (.one (.vw 111))), (5, .x (.one (.p (pi v)))), (13, .x (.one (.p (pi ((rep (12 : Int) (0 : Int)).length : Int))))), (14, .x (.one (.p (pi v))))], mkH [(111, .arr 1 (List.map encI w1))]⟩) ?_
            refine lok_rt E0 (⟨47, mkS [(0, .x (.one (.p (.val (.string (bs s)))))), (4, .x (.one (.vw 111))), (5, .x (.one (.p (pi v)))), (13, .x (.one (.p (pi ((rep (12 : Int) (0 : Int)).length : Int))))), (14, .x (.one (.p (pi v)))), (17, .x (.one (.p (pi (0 : Int)))))], mkH [(111, .arr 1 (List.map encI w1))]⟩) ?_
            refine lok_block ?_
            replace H1 := bind_some H1
            obtain ⟨v_2, hv_2, H1⟩ := H1
            refine lok_iter (fun x_ => ⟨47, mkS [(0, .x (.one (.p (.val (.string (bs s)))))), (4, .x (.one (.vw 111))), (5, .x (.one (.p (pi v)))), (13, .x (.one (.p (pi ((rep (12 : Int) (0 : Int)).length : Int))))), (14, .x (.one (.p (pi v)))), (17, .x (.one (.p (pi x_.1))))], mkH [(111, .arr 1 (List.map encI x_.2))]⟩) hv_2 imp_au ?_
            · rintro ⟨v1, w4⟩ o_2 H2 k_2
              unfold strip_Word_l3 at H2
              try dsimp only at H2 ⊢
              refine lok_rt E0 (⟨47, mkS [(0, .x (.one (.p (.val (.string (bs s)))))), (4, .x (.one (.vw 111))), (5, .x (.one (.p (pi v)))), (13, .x (.one (.p (pi ((rep (12 : Int) (0 : Int)).length : Int))))), (14, .x (.one (.p (pi v)))), (17, .x (.one (.p (pi v1)))), (18, .x (.one (.p (.val (.bool (decide (v1 < (5 : Int))))))))], mkH [(111, .arr 1 (List.map encI w4))]⟩) ?_
              refine lok_seq ?_
              refine lok_c (decide (v1 < (5 : Int))) ?_ ?_
              · intro b_9
                replace H2 := cpos H2 b_9
                refine lok_skip ?_
                try simp only [thenL, blockL, ↓reduceIte, reduceCtorEq]
                refine lok_seq ?_
                refine lok_block ?_
                refine lok_rt E0 (⟨47, mkS [(0, .x (.one (.p (.val (.string (bs s)))))), (4, .x (.one (.vw 111))), (5, .x (.one (.p (pi v)))), (6, .x (.one (.p (pi v1)))), (13, .x (.one (.p (pi ((rep (12 : Int) (0 : Int)).length : Int))))), (14, .x (.one (.p (pi v)))), (17, .x (.one (.p (pi v1))))], mkH [(111, .arr 1 (List.map encI w4))]⟩) ?_
                replace H2 := req_some H2
                obtain ⟨q_8, H2⟩ := H2
                replace H2 := bindV_some H2
                obtain ⟨module, a_3, H2⟩ := H2
                refine lok_rtg E0 a_3 (⟨47, mkS [(0, .x (.one (.p (.val (.string (bs s)))))), (4, .x (.one (.vw 111))), (5, .x (.one (.p (pi v)))), (7, .x (.one (.p (.val (.int .u8 module))))), (13, .x (.one (.p (pi ((rep (12 : Int) (0 : Int)).length : Int))))), (14, .x (.one (.p (pi v)))), (17, .x (.one (.p (pi v1))))], mkH [(111, .arr 1 (List.map encI w4))]⟩) ?_
                refine lok_seq ?_
                refine lok_rt E0 (⟨47, mkS [(0, .x (.one (.p (.val (.string (bs s)))))), (4, .x (.one (.vw 111))), (5, .x (.one (.p (pi v)))), (7, .x (.one (.p (.val (.int .u8 module))))), (13, .x (.one (.p (pi ((rep (12 : Int) (0 : Int)).length : Int))))), (14, .x (.one (.p (pi v)))), (17, .x (.one (.p (pi v1)))), (28, .x (.one (.p (.val (.bool (module == (63 : Int)))))))], mkH [(111, .arr 1 (List.map encI w4))]⟩) ?_
                refine lok_c (module == (63 : Int)) ?_ ?_
                · intro b_7
                  replace H2 := cpos H2 b_7
                  replace H2 := req_some H2
                  obtain ⟨q_4, H2⟩ := H2
                  refine lok_rt E0 (⟨47, mkS [(0, .x (.one (.p (.val (.string (bs s)))))), (4, .x (.one (.vw 111))), (13, .x (.one (.p (pi ((rep (12 : Int) (0 : Int)).length : Int))))), (14, .x (.one (.p (pi v))))], mkH [(111, .arr 1 (List.map encI (setI w4 v (-1 : Int))))]⟩) ?_
                  refine lok_exit ?_
                  try simp only [thenL, blockL, ↓reduceIte, reduceCtorEq]
                  have e_2 := k_2 _ (Option.some.inj H2).symm
                  subst e_2
                  try dsimp only at H1
                  try simp only [thenL, blockL, ↓reduceIte, reduceCtorEq]
                  exact ⟨(setI w4 v (-1 : Int)), H1, imp_au⟩
                · intro b_7
                  replace H2 := cneg H2 b_7
                  refine lok_skip ?_
                  try simp only [thenL, blockL, ↓reduceIte, reduceCtorEq]
                  replace H2 := req_some H2
                  obtain ⟨q_6, H2⟩ := H2
                  replace H2 := bindV_some H2
                  obtain ⟨w6, a_5, H2⟩ := H2
                  refine lok_rlg E0 a_5 (⟨47, mkS [(0, .x (.one (.p (.val (.string (bs s)))))), (4, .x (.one (.vw 111))), (5, .x (.one (.p (pi v)))), (13, .x (.one (.p (pi ((rep (12 : Int) (0 : Int)).length : Int))))), (14, .x (.one (.p (pi v)))), (17, .x (.one (.p (pi v1))))], mkH [(111, .arr 1 (List.map encI w6))]⟩) ?_
                  try simp only [thenL, blockL, ↓reduceIte, reduceCtorEq]
                  refine lok_rl E0 (⟨47, mkS [(0, .x (.one (.p (.val (.string (bs s)))))), (4, .x (.one (.vw 111))), (5, .x (.one (.p (pi v)))), (13, .x (.one (.p (pi ((rep (12 : Int) (0 : Int)).length : Int))))), (14, .x (.one (.p (pi v)))), (17, .x (.one (.p (pi (IntKind.i64.wrap (v1 + (1 : Int)))))))], mkH [(111, .arr 1 (List.map encI w6))]⟩) ?_
                  try simp only [thenL, blockL, ↓reduceIte, reduceCtorEq]
                  exact ⟨((IntKind.i64.wrap (v1 + (1 : Int))), w6), (Option.some.inj H2).symm, imp_au⟩
              · intro b_9
                replace H2 := cneg H2 b_9
                refine lok_exit ?_
                try simp only [thenL, blockL, ↓reduceIte, reduceCtorEq]
                have e_2 := k_2 _ (Option.some.inj H2).symm
                subst e_2
                try dsimp only at H1
                try simp only [thenL, blockL, ↓reduceIte, reduceCtorEq]
                exact ⟨w4, H1, imp_au⟩
        · intro b_10
          replace H1 := cneg H1 b_10
          refine lok_exit ?_
          try simp only [thenL, blockL, ↓reduceIte, reduceCtorEq]
          have e_1 := k_1 _ (Option.some.inj H1).symm
          subst e_1
          try dsimp only at H0
          try simp only [thenL, blockL, ↓reduceIte, reduceCtorEq]
          exact ⟨w1, H0, imp_au⟩
set_option maxHeartbeats 4000000 in
theorem ok_strip_Read (s : Str) (r_ : api_Label × Int × Int) (H0 : strip_Read s = some r_) : CallOK Tryd.prog 11 [.one (.p (.val (.string (bs s))))] [] [.agg [.p (pi r_.1.Paper), .p (pi r_.1.Candidate), .p (pi r_.1.Page), .p (pi r_.1.Variant)], .one (.p (pi r_.2.1)), .one (.p (pi r_.2.2))] [] := by
  refine callOK (n := 64) (rs := [.cell 2 38, .tmp 3, .tmp 4]) (nb := 0) (V := []) Tryd.func11 rfl (by kernel_rfl) rfl rfl rfl rfl (Nat.le_of_ble_eq_true rfl) (by decide) ?_
  unfold strip_Read at H0
  refine lok_rt E0 (⟨64, mkS [(0, .x (.one (.p (.val (.string (bs s)))))), (2, .x (.one (.ptr 102 0)))], mkH [(102, .var [.p (pi (0 : Int)), .p (pi (0 : Int)), .p (pi (0 : Int)), .p (pi (0 : Int))])]⟩) ?_
  replace H0 := bind_some H0
  obtain ⟨⟨y, y1⟩, h_0, H0⟩ := H0
  try dsimp only at H0
  refine lok_rt (Env.of E0 [⟨some 11, 29, [.one (.p (.val (.string (bs s))))], [], [.one (.p (.val (.string (bs y)))), .one (.p (pi y1))], [], True, fun _ => ok_strip_Upright s (y, y1) h_0, []⟩]) (⟨64, mkS [(2, .x (.one (.ptr 102 0))), (4, .x (.one (.p (pi y1)))), (5, .x (.one (.p (.val (.string (bs y))))))], mkH [(102, .var [.p (pi (0 : Int)), .p (pi (0 : Int)), .p (pi (0 : Int)), .p (pi (0 : Int))])]⟩) ?_
  refine lok_seq ?_
  refine lok_rt E0 (⟨64, mkS [(2, .x (.one (.ptr 102 0))), (4, .x (.one (.p (pi y1)))), (5, .x (.one (.p (.val (.string (bs y)))))), (15, .x (.one (.p (.val (.bool (y1 != (0 : Int)))))))], mkH [(102, .var [.p (pi (0 : Int)), .p (pi (0 : Int)), .p (pi (0 : Int)), .p (pi (0 : Int))])]⟩) ?_
  refine lok_c (y1 != (0 : Int)) ?_ ?_
  · intro b_13
    replace H0 := cpos H0 b_13
    refine lok_rt E0 (⟨64, mkS [(2, .x (.one (.ptr 102 0))), (3, .x (.one (.p (pi (0 : Int))))), (4, .x (.one (.p (pi y1))))], mkH [(102, .var [.p (pi (0 : Int)), .p (pi (0 : Int)), .p (pi (0 : Int)), .p (pi (0 : Int))])]⟩) ?_
    refine lok_ret ?_
    try obtain rfl := Option.some.inj H0
    try simp only [thenL, blockL]
    exact fin_au _ (.inr rfl) [] (⟨64, mkS [(2, .x (.one (.ptr 102 0))), (3, .x (.one (.p (pi (0 : Int))))), (4, .x (.one (.p (pi y1))))], mkH [(102, .var [.p (pi (0 : Int)), .p (pi (0 : Int)), .p (pi (0 : Int)), .p (pi (0 : Int))])]⟩) rfl rfl imp_au
  · intro b_13
    replace H0 := cneg H0 b_13
    refine lok_skip ?_
    try simp only [thenL, blockL, ↓reduceIte, reduceCtorEq]
    replace H0 := bind_some H0
    obtain ⟨⟨y2, y3⟩, h_1, H0⟩ := H0
    try dsimp only at H0
    refine lok_rt (Env.of E0 [⟨some 20, 8, [.one (.p (.val (.string (bs y))))], [], [.one (.p (.sl 1 (List.map encI y2))), .one (.p (pi y3))], [], True, fun _ => ok_strip_Word y (y2, y3) h_1, []⟩]) (⟨64, mkS [(2, .x (.one (.ptr 102 0))), (4, .x (.one (.p (pi y3)))), (6, .x (.one (.p (.sl 1 (List.map encI y2)))))], mkH [(102, .var [.p (pi (0 : Int)), .p (pi (0 : Int)), .p (pi (0 : Int)), .p (pi (0 : Int))])]⟩) ?_
    refine lok_seq ?_
    refine lok_rt E0 (⟨64, mkS [(2, .x (.one (.ptr 102 0))), (4, .x (.one (.p (pi y3)))), (6, .x (.one (.p (.sl 1 (List.map encI y2))))), (24, .x (.one (.p (.val (.bool (y3 != (0 : Int)))))))], mkH [(102, .var [.p (pi (0 : Int)), .p (pi (0 : Int)), .p (pi (0 : Int)), .p (pi (0 : Int))])]⟩) ?_
    refine lok_c (y3 != (0 : Int)) ?_ ?_
    · intro b_12
      replace H0 := cpos H0 b_12
      refine lok_rt E0 (⟨64, mkS [(2, .x (.one (.ptr 102 0))), (3, .x (.one (.p (pi (0 : Int))))), (4, .x (.one (.p (pi y3))))], mkH [(102, .var [.p (pi (0 : Int)), .p (pi (0 : Int)), .p (pi (0 : Int)), .p (pi (0 : Int))])]⟩) ?_
      refine lok_ret ?_
      try obtain rfl := Option.some.inj H0
      try simp only [thenL, blockL]
      exact fin_au _ (.inr rfl) [] (⟨64, mkS [(2, .x (.one (.ptr 102 0))), (3, .x (.one (.p (pi (0 : Int))))), (4, .x (.one (.p (pi y3))))], mkH [(102, .var [.p (pi (0 : Int)), .p (pi (0 : Int)), .p (pi (0 : Int)), .p (pi (0 : Int))])]⟩) rfl rfl imp_au
    · intro b_12
      replace H0 := cneg H0 b_12
      refine lok_skip ?_
      try simp only [thenL, blockL, ↓reduceIte, reduceCtorEq]
      replace H0 := bind_some H0
      obtain ⟨⟨y4, y5, y6⟩, h_2, H0⟩ := H0
      try dsimp only at H0
      refine lok_rt (Env.of E0 [⟨some 29, 30, [.one (.p (.sl 1 (List.map encI y2)))], [], [.one (.p (.sl 1 (List.map encI y4))), .one (.p (pi y5)), .one (.p (pi y6))], [], True, fun _ => ok_rscode_Decode y2 (y4, y5, y6) h_2, []⟩]) (⟨64, mkS [(2, .x (.one (.ptr 102 0))), (3, .x (.one (.p (pi y5)))), (4, .x (.one (.p (pi y6)))), (7, .x (.one (.p (.sl 1 (List.map encI y4)))))], mkH [(102, .var [.p (pi (0 : Int)), .p (pi (0 : Int)), .p (pi (0 : Int)), .p (pi (0 : Int))])]⟩) ?_
      refine lok_seq ?_
      refine lok_rt E0 (⟨64, mkS [(2, .x (.one (.ptr 102 0))), (3, .x (.one (.p (pi y5)))), (7, .x (.one (.p (.sl 1 (List.map encI y4))))), (34, .x (.one (.p (.val (.bool (y6 != (0 : Int)))))))], mkH [(102, .var [.p (pi (0 : Int)), .p (pi (0 : Int)), .p (pi (0 : Int)), .p (pi (0 : Int))])]⟩) ?_
      refine lok_c (y6 != (0 : Int)) ?_ ?_
      · intro b_11
        replace H0 := cpos H0 b_11
        refine lok_rt E0 (⟨64, mkS [(2, .x (.one (.ptr 102 0))), (3, .x (.one (.p (pi (0 : Int))))), (4, .x (.one (.p (pi (25 : Int)))))], mkH [(102, .var [.p (pi (0 : Int)), .p (pi (0 : Int)), .p (pi (0 : Int)), .p (pi (0 : Int))])]⟩) ?_
        refine lok_ret ?_
        try obtain rfl := Option.some.inj H0
        try simp only [thenL, blockL]
        exact fin_au _ (.inr rfl) [] (⟨64, mkS [(2, .x (.one (.ptr 102 0))), (3, .x (.one (.p (pi (0 : Int))))), (4, .x (.one (.p (pi (25 : Int)))))], mkH [(102, .var [.p (pi (0 : Int)), .p (pi (0 : Int)), .p (pi (0 : Int)), .p (pi (0 : Int))])]⟩) rfl rfl imp_au
      · intro b_11
        replace H0 := cneg H0 b_11
        refine lok_skip ?_
        try simp only [thenL, blockL, ↓reduceIte, reduceCtorEq]
        replace H0 := req_some H0
        obtain ⟨⟨q_8, q_9, q_10⟩, H0⟩ := H0
        replace H0 := bindV_some H0
        obtain ⟨candidate, a_3, H0⟩ := H0
        refine lok_dtg E0 12 a_3 (⟨64, mkS [(2, .x (.one (.ptr 102 0))), (3, .x (.one (.p (pi y5)))), (7, .x (.one (.p (.sl 1 (List.map encI y4))))), (8, .x (.one (.p (pi candidate))))], mkH [(102, .var [.p (pi (0 : Int)), .p (pi (0 : Int)), .p (pi (0 : Int)), .p (pi (0 : Int))])]⟩) (by kernel_rfl) (by kernel_rfl) ?_
        refine lok_seq ?_
        refine lok_rt E0 (⟨64, mkS [(2, .x (.one (.ptr 102 0))), (3, .x (.one (.p (pi y5)))), (7, .x (.one (.p (.sl 1 (List.map encI y4))))), (8, .x (.one (.p (pi candidate)))), (50, .x (.one (.p (.val (.bool (decide ((9999 : Int) < candidate)))))))], mkH [(102, .var [.p (pi (0 : Int)), .p (pi (0 : Int)), .p (pi (0 : Int)), .p (pi (0 : Int))])]⟩) ?_
        refine lok_c (decide ((9999 : Int) < candidate)) ?_ ?_
        · intro b_7
          replace H0 := cpos H0 b_7
          refine lok_rt E0 (⟨64, mkS [(2, .x (.one (.ptr 102 0))), (3, .x (.one (.p (pi (0 : Int))))), (4, .x (.one (.p (pi (2 : Int)))))], mkH [(102, .var [.p (pi (0 : Int)), .p (pi (0 : Int)), .p (pi (0 : Int)), .p (pi (0 : Int))])]⟩) ?_
          refine lok_ret ?_
          try obtain rfl := Option.some.inj H0
          try simp only [thenL, blockL]
          exact fin_au _ (.inr rfl) [] (⟨64, mkS [(2, .x (.one (.ptr 102 0))), (3, .x (.one (.p (pi (0 : Int))))), (4, .x (.one (.p (pi (2 : Int)))))], mkH [(102, .var [.p (pi (0 : Int)), .p (pi (0 : Int)), .p (pi (0 : Int)), .p (pi (0 : Int))])]⟩) rfl rfl imp_au
        · intro b_7
          replace H0 := cneg H0 b_7
          refine lok_skip ?_
          try simp only [thenL, blockL, ↓reduceIte, reduceCtorEq]
          replace H0 := req_some H0
          obtain ⟨⟨q_4, q_5, q_6⟩, H0⟩ := H0
          refine lok_et E0 64 [⟨[(7, .x (.one (.p (.sl 1 (List.map encI y4)))))], [], [(52, .x (.one (.p (.sl 1 (List.map encI y4)))))], [], none⟩,
      ⟨[(52, .x (.one (.p (.sl 1 (List.map encI y4)))))], [], [(53, .x (.one (.ep [pi (ix y4 (0 : Int))])))], [], none⟩,
      ⟨[(53, .x (.one (.ep [pi (ix y4 (0 : Int))])))], [], [(54, .x (.one (.p (pi (ix y4 (0 : Int))))))], [], none⟩,
      ⟨[(8, .x (.one (.p (pi candidate))))], [], [(55, .x (.one (.p (pi candidate))))], [], none⟩,
      ⟨[(7, .x (.one (.p (.sl 1 (List.map encI y4)))))], [], [(56, .x (.one (.p (.sl 1 (List.map encI y4)))))], [], none⟩,
      ⟨[(56, .x (.one (.p (.sl 1 (List.map encI y4)))))], [], [(57, .x (.one (.ep [pi (ix y4 (4 : Int))])))], [], none⟩,
      ⟨[(57, .x (.one (.ep [pi (ix y4 (4 : Int))])))], [], [(58, .x (.one (.p (pi (ix y4 (4 : Int))))))], [], none⟩,
      ⟨[(7, .x (.one (.p (.sl 1 (List.map encI y4)))))], [], [(59, .x (.one (.p (.sl 1 (List.map encI y4)))))], [], none⟩,
      ⟨[(59, .x (.one (.p (.sl 1 (List.map encI y4)))))], [], [(60, .x (.one (.ep [pi (ix y4 (5 : Int))])))], [], none⟩,
      ⟨[(60, .x (.one (.ep [pi (ix y4 (5 : Int))])))], [], [(61, .x (.one (.p (pi (ix y4 (5 : Int))))))], [], none⟩,
      ⟨[(54, .x (.one (.p (pi (ix y4 (0 : Int)))))), (55, .x (.one (.p (pi candidate)))), (58, .x (.one (.p (pi (ix y4 (4 : Int)))))), (61, .x (.one (.p (pi (ix y4 (5 : Int))))))], [], [(62, .x (.agg [.p (pi (ix y4 (0 : Int))), .p (pi candidate), .p (pi (ix y4 (4 : Int))), .p (pi (ix y4 (5 : Int)))]))], [], none⟩,
      ⟨[(3, .x (.one (.p (pi y5))))], [], [(63, .x (.one (.p (pi y5))))], [], none⟩,
      ⟨[(2, .x (.one (.ptr 102 0))), (62, .x (.agg [.p (pi (ix y4 (0 : Int))), .p (pi candidate), .p (pi (ix y4 (4 : Int))), .p (pi (ix y4 (5 : Int)))]))], [(102, some (.var [.p (pi (0 : Int)), .p (pi (0 : Int)), .p (pi (0 : Int)), .p (pi (0 : Int))]))], [], [(102, some (.var [.p (pi (ix y4 (0 : Int))), .p (pi candidate), .p (pi (ix y4 (4 : Int))), .p (pi (ix y4 (5 : Int)))]))], none⟩] (⟨64, mkS [(2, .x (.one (.ptr 102 0))), (3, .x (.one (.p (pi y5)))), (4, .x (.one (.p (pi (0 : Int)))))], mkH [(102, .var [.p (pi (ix y4 (0 : Int))), .p (pi candidate), .p (pi (ix y4 (4 : Int))), .p (pi (ix y4 (5 : Int)))])]⟩) (by kernel_rfl) (by kernel_rfl) (by kernel_rfl) rfl rfl rfl ?_
          refine lok_ret ?_
          try obtain rfl := Option.some.inj H0
          try simp only [thenL, blockL]
          exact fin_au _ (.inr rfl) [] (⟨64, mkS [(2, .x (.one (.ptr 102 0))), (3, .x (.one (.p (pi y5)))), (4, .x (.one (.p (pi (0 : Int)))))], mkH [(102, .var [.p (pi (ix y4 (0 : Int))), .p (pi candidate), .p (pi (ix y4 (4 : Int))), .p (pi (ix y4 (5 : Int)))])]⟩) rfl rfl imp_au
theorem ok_make_Cut (x : Int) (n : Int) (r_ : Int) (H0 : make_Cut x n = some r_) : CallOK Tryd.prog 34 [.one (.p (pi x)), .one (.p (pi n))] [] [.one (.p (pi r_))] [] := by
  refine callOK (n := 16) (rs := [.tmp 4]) (nb := 0) (V := []) Tryd.func34 rfl (by kernel_rfl) rfl rfl rfl rfl (Nat.le_of_ble_eq_true rfl) (by decide) ?_
  unfold make_Cut at H0
  refine lok_rt E0 (⟨16, mkS [(0, .x (.one (.p (pi x)))), (1, .x (.one (.p (pi n))))], mkH []⟩) ?_
  refine lok_seq ?_
  refine lok_rt E0 (⟨16, mkS [(0, .x (.one (.p (pi x)))), (1, .x (.one (.p (pi n)))), (6, .x (.one (.p (.val (.bool (decide (n < (1 : Int))))))))], mkH []⟩) ?_
  refine lok_c (decide (n < (1 : Int))) ?_ ?_
  · intro b_2
    replace H0 := cpos H0 b_2
    refine lok_rt E0 (⟨16, mkS [(4, .x (.one (.p (pi (0 : Int)))))], mkH []⟩) ?_
    refine lok_ret ?_
    try obtain rfl := Option.some.inj H0
    try simp only [thenL, blockL]
    exact fin_au _ (.inr rfl) [] (⟨16, mkS [(4, .x (.one (.p (pi (0 : Int)))))], mkH []⟩) rfl rfl imp_au
  · intro b_2
    replace H0 := cneg H0 b_2
    refine lok_skip ?_
    try simp only [thenL, blockL, ↓reduceIte, reduceCtorEq]
    replace H0 := req_some H0
    obtain ⟨q_1, H0⟩ := H0
    refine lok_rt E0 (⟨16, mkS [(0, .x (.one (.p (pi (Int.tmod x n))))), (1, .x (.one (.p (pi n))))], mkH []⟩) ?_
    refine lok_join (fun x_ : Int => make_Cut_j1 x_ = some r_) (fun x_ => ⟨16, mkS [(0, .x (.one (.p (pi x_))))], mkH []⟩) ?hymake_Cut_j1 ?hxmake_Cut_j1
    case hymake_Cut_j1 =>
      rintro x1 H0
      try dsimp only at H0 ⊢
      unfold make_Cut_j1 at H0
      refine lok_rt E0 (⟨16, mkS [(4, .x (.one (.p (pi x1))))], mkH []⟩) ?_
      refine lok_ret ?_
      try obtain rfl := Option.some.inj H0
      try simp only [thenL, blockL]
      exact fin_au _ (.inr rfl) [] (⟨16, mkS [(4, .x (.one (.p (pi x1))))], mkH []⟩) rfl rfl imp_au
    case hxmake_Cut_j1 =>
      refine lok_rt E0 (⟨16, mkS [(0, .x (.one (.p (pi (Int.tmod x n))))), (1, .x (.one (.p (pi n)))), (11, .x (.one (.p (.val (.bool (decide ((Int.tmod x n) < (0 : Int))))))))], mkH []⟩) ?_
      refine lok_c (decide ((Int.tmod x n) < (0 : Int))) ?_ ?_
      · intro b_0
        replace H0 := cpos H0 b_0
        refine lok_rl E0 (⟨16, mkS [(0, .x (.one (.p (pi (IntKind.i64.wrap ((Int.tmod x n) + n))))))], mkH []⟩) ?_
        try simp only [thenL, blockL, ↓reduceIte, reduceCtorEq]
        exact ⟨(IntKind.i64.wrap ((Int.tmod x n) + n)), H0, imp_au⟩
      · intro b_0
        replace H0 := cneg H0 b_0
        refine lok_skip ?_
        try simp only [thenL, blockL, ↓reduceIte, reduceCtorEq]
        exact ⟨(Int.tmod x n), H0, imp_au⟩
theorem ok_make_Tape_Raw (t : make_Tape) (r_ : Int × make_Tape) (H0 : make_Tape_Raw t = some r_) : CallOK Tryd.prog 35 [.one (.ptr 0 0)] [.var [.p (.sl 1 (List.map encI t.L)), .p (pi t.At)]] [.one (.p (pi r_.1))] [some (.var [.p (.sl 1 (List.map encI r_.2.L)), .p (pi r_.2.At)])] := by
  refine callOK (n := 31) (rs := [.tmp 2]) (nb := 1) (V := [0]) Tryd.func35 rfl (by kernel_rfl) rfl rfl rfl rfl (Nat.le_of_ble_eq_true rfl) (by decide) ?_
  unfold make_Tape_Raw at H0
  refine lok_rt E0 (⟨31, mkS [(0, .x (.one (.ptr 0 0)))], mkH [(0, .var [.p (.sl 1 (List.map encI t.L)), .p (pi t.At)])]⟩) ?_
  refine lok_seq ?_
  refine lok_dt E0 9 (⟨31, mkS [(0, .x (.one (.ptr 0 0))), (12, .x (.one (.p (.val (.bool (decide ((t.L.length : Int) ≤ t.At)))))))], mkH [(0, .var [.p (.sl 1 (List.map encI t.L)), .p (pi t.At)])]⟩) (by kernel_rfl) (by kernel_rfl) ?_
  refine lok_c (decide ((t.L.length : Int) ≤ t.At)) ?_ ?_
  · intro b_2
    replace H0 := cpos H0 b_2
    refine lok_rt E0 (⟨31, mkS [(2, .x (.one (.p (pi (0 : Int)))))], mkH [(0, .var [.p (.sl 1 (List.map encI t.L)), .p (pi t.At)])]⟩) ?_
    refine lok_ret ?_
    try obtain rfl := Option.some.inj H0
    try simp only [thenL, blockL]
    exact fin_au _ (.inr rfl) [0] (⟨31, mkS [(2, .x (.one (.p (pi (0 : Int)))))], mkH [(0, .var [.p (.sl 1 (List.map encI t.L)), .p (pi t.At)])]⟩) rfl rfl imp_au
  · intro b_2
    replace H0 := cneg H0 b_2
    refine lok_skip ?_
    try simp only [thenL, blockL, ↓reduceIte, reduceCtorEq]
    refine lok_rt E0 (⟨31, mkS [(0, .x (.one (.ptr 0 0)))], mkH [(0, .var [.p (.sl 1 (List.map encI t.L)), .p (pi (IntKind.i64.wrap (t.At + (1 : Int))))])]⟩) ?_
    replace H0 := req_some H0
    obtain ⟨q_1, H0⟩ := H0
    replace H0 := bindV_some H0
    obtain ⟨v, a_0, H0⟩ := H0
    refine lok_dtg E0 9 a_0 (⟨31, mkS [(2, .x (.one (.p (pi v))))], mkH [(0, .var [.p (.sl 1 (List.map encI t.L)), .p (pi (IntKind.i64.wrap (t.At + (1 : Int))))])]⟩) (by kernel_rfl) (by kernel_rfl) ?_
    refine lok_ret ?_
    try obtain rfl := Option.some.inj H0
    try simp only [thenL, blockL]
    exact fin_au _ (.inr rfl) [0] (⟨31, mkS [(2, .x (.one (.p (pi v))))], mkH [(0, .var [.p (.sl 1 (List.map encI t.L)), .p (pi (IntKind.i64.wrap (t.At + (1 : Int))))])]⟩) rfl rfl imp_au
theorem ok_make_Tape_Next (t : make_Tape) (n : Int) (r_ : Int × make_Tape) (H0 : make_Tape_Next t n = some r_) : CallOK Tryd.prog 14 [.one (.ptr 0 0), .one (.p (pi n))] [.var [.p (.sl 1 (List.map encI t.L)), .p (pi t.At)]] [.one (.p (pi r_.1))] [some (.var [.p (.sl 1 (List.map encI r_.2.L)), .p (pi r_.2.At)])] := by
  refine callOK (n := 9) (rs := [.tmp 4]) (nb := 1) (V := [0]) Tryd.func14 rfl (by kernel_rfl) rfl rfl rfl rfl (Nat.le_of_ble_eq_true rfl) (by decide) ?_
  unfold make_Tape_Next at H0
  refine lok_rt E0 (⟨9, mkS [(0, .x (.one (.ptr 0 0))), (1, .x (.one (.p (pi n))))], mkH [(0, .var [.p (.sl 1 (List.map encI t.L)), .p (pi t.At)])]⟩) ?_
  replace H0 := bind_some H0
  obtain ⟨⟨y, y1⟩, h_0, H0⟩ := H0
  try dsimp only at H0
  replace H0 := bind_some H0
  obtain ⟨y2, h_1, H0⟩ := H0
  refine lok_rt (Env.of E0 [⟨some 6, 35, [.one (.ptr 0 0)], [.var [.p (.sl 1 (List.map encI t.L)), .p (pi t.At)]], [.one (.p (pi y))], [some (.var [.p (.sl 1 (List.map encI y1.L)), .p (pi y1.At)])], True, fun _ => ok_make_Tape_Raw t (y, y1) h_0, []⟩,
      ⟨some 8, 34, [.one (.p (pi y)), .one (.p (pi n))], [], [.one (.p (pi y2))], [], True, fun _ => ok_make_Cut y n y2 h_1, []⟩]) (⟨9, mkS [(4, .x (.one (.p (pi y2))))], mkH [(0, .var [.p (.sl 1 (List.map encI y1.L)), .p (pi y1.At)])]⟩) ?_
  refine lok_ret ?_
  try obtain rfl := Option.some.inj H0
  try simp only [thenL, blockL]
  exact fin_au _ (.inr rfl) [0] (⟨9, mkS [(4, .x (.one (.p (pi y2))))], mkH [(0, .var [.p (.sl 1 (List.map encI y1.L)), .p (pi y1.At)])]⟩) rfl rfl imp_au
theorem ok_make_Change (s : Str) (at_ : Int) (how : Int) (r_ : Str) (H0 : make_Change s at_ how = some r_) : CallOK Tryd.prog 31 [.one (.p (.val (.string (bs s)))), .one (.p (pi at_)), .one (.p (pi how))] [] [.one (.p (.val (.string (bs r_))))] [] := by
  refine callOK (n := 33) (rs := [.tmp 6]) (nb := 0) (V := []) Tryd.func31 rfl (by kernel_rfl) rfl rfl rfl rfl (Nat.le_of_ble_eq_true rfl) (by decide) ?_
  unfold make_Change at H0
  refine lok_rt E0 (⟨33, mkS [(0, .x (.one (.p (.val (.string (bs s)))))), (1, .x (.one (.p (pi at_)))), (2, .x (.one (.p (pi how))))], mkH []⟩) ?_
  refine lok_seq ?_
  refine lok_rt E0 (⟨33, mkS [(0, .x (.one (.p (.val (.string (bs s)))))), (1, .x (.one (.p (pi at_)))), (2, .x (.one (.p (pi how)))), (15, .x (.one (.p (.val (.bool ((decide (at_ < (0 : Int))) || (decide ((s.length : Int) ≤ at_))))))))], mkH []⟩) ?_
  refine lok_c ((decide (at_ < (0 : Int))) || (decide ((s.length : Int) ≤ at_))) ?_ ?_
  · intro b_8
    replace H0 := cpos H0 b_8
    refine lok_rt E0 (⟨33, mkS [(6, .x (.one (.p (.val (.string (bs s))))))], mkH []⟩) ?_
    refine lok_ret ?_
    try obtain rfl := Option.some.inj H0
    try simp only [thenL, blockL]
    exact fin_au _ (.inr rfl) [] (⟨33, mkS [(6, .x (.one (.p (.val (.string (bs s))))))], mkH []⟩) rfl rfl imp_au
  · intro b_8
    replace H0 := cneg H0 b_8
    refine lok_skip ?_
    try simp only [thenL, blockL, ↓reduceIte, reduceCtorEq]
    refine lok_rt E0 (⟨33, mkS [(0, .x (.one (.p (.val (.string (bs s)))))), (1, .x (.one (.p (pi at_)))), (2, .x (.one (.p (pi how)))), (7, .x (.one (.p (.val (.string (bs ([48] : Str)))))))], mkH []⟩) ?_
    refine lok_join (fun x_ : Str => make_Change_j2 s at_ how x_ = some r_) (fun x_ => ⟨33, mkS [(0, .x (.one (.p (.val (.string (bs s)))))), (1, .x (.one (.p (pi at_)))), (2, .x (.one (.p (pi how)))), (7, .x (.one (.p (.val (.string (bs x_))))))], mkH []⟩) ?hymake_Change_j2 ?hxmake_Change_j2
    case hymake_Change_j2 =>
      rintro b H0
      try dsimp only at H0 ⊢
      unfold make_Change_j2 at H0
      refine lok_join (fun x_ : Str => make_Change_j1 s at_ x_ = some r_) (fun x_ => ⟨33, mkS [(0, .x (.one (.p (.val (.string (bs s)))))), (1, .x (.one (.p (pi at_)))), (7, .x (.one (.p (.val (.string (bs x_))))))], mkH []⟩) ?hymake_Change_j1 ?hxmake_Change_j1
      case hymake_Change_j1 =>
        rintro b1 H0
        try dsimp only at H0 ⊢
        unfold make_Change_j1 at H0
        replace H0 := req_some H0
        obtain ⟨⟨q_1, q_2, q_3, q_4⟩, H0⟩ := H0
        replace H0 := bindV_some H0
        obtain ⟨v, a_0, H0⟩ := H0
        refine lok_dtg E0 9 a_0 (⟨33, mkS [(6, .x (.one (.p (.val (.string (bs v))))))], mkH []⟩) (by kernel_rfl) (by kernel_rfl) ?_
        refine lok_ret ?_
        try obtain rfl := Option.some.inj H0
        try simp only [thenL, blockL]
        exact fin_au _ (.inr rfl) [] (⟨33, mkS [(6, .x (.one (.p (.val (.string (bs v))))))], mkH []⟩) rfl rfl imp_au
      case hxmake_Change_j1 =>
        refine lok_rt E0 (⟨33, mkS [(0, .x (.one (.p (.val (.string (bs s)))))), (1, .x (.one (.p (pi at_)))), (7, .x (.one (.p (.val (.string (bs b)))))), (22, .x (.one (.p (.val (.bool (how == (1 : Int)))))))], mkH []⟩) ?_
        refine lok_c (how == (1 : Int)) ?_ ?_
        · intro b_5
          replace H0 := cpos H0 b_5
          refine lok_rl E0 (⟨33, mkS [(0, .x (.one (.p (.val (.string (bs s)))))), (1, .x (.one (.p (pi at_)))), (7, .x (.one (.p (.val (.string (bs ([63] : Str)))))))], mkH []⟩) ?_
          try simp only [thenL, blockL, ↓reduceIte, reduceCtorEq]
          exact ⟨([63] : Str), H0, imp_au⟩
        · intro b_5
          replace H0 := cneg H0 b_5
          refine lok_skip ?_
          try simp only [thenL, blockL, ↓reduceIte, reduceCtorEq]
          exact ⟨b, H0, imp_au⟩
    case hxmake_Change_j2 =>
      replace H0 := req_some H0
      obtain ⟨q_7, H0⟩ := H0
      refine lok_rt E0 (⟨33, mkS [(0, .x (.one (.p (.val (.string (bs s)))))), (1, .x (.one (.p (pi at_)))), (2, .x (.one (.p (pi how)))), (7, .x (.one (.p (.val (.string (bs ([48] : Str))))))), (20, .x (.one (.p (.val (.bool ((sx s at_) == (48 : Int)))))))], mkH []⟩) ?_
      refine lok_c ((sx s at_) == (48 : Int)) ?_ ?_
      · intro b_6
        replace H0 := cpos H0 b_6
        refine lok_rl E0 (⟨33, mkS [(0, .x (.one (.p (.val (.string (bs s)))))), (1, .x (.one (.p (pi at_)))), (2, .x (.one (.p (pi how)))), (7, .x (.one (.p (.val (.string (bs ([49] : Str)))))))], mkH []⟩) ?_
        try simp only [thenL, blockL, ↓reduceIte, reduceCtorEq]
        exact ⟨([49] : Str), H0, imp_au⟩
      · intro b_6
        replace H0 := cneg H0 b_6
        refine lok_skip ?_
        try simp only [thenL, blockL, ↓reduceIte, reduceCtorEq]
        exact ⟨([48] : Str), H0, imp_au⟩
theorem ok_make_Tape_Order (t : make_Tape) (n : Int) (r_ : (List Int) × make_Tape) (H0 : make_Tape_Order t n = some r_) : CallOK Tryd.prog 32 [.one (.ptr 0 0), .one (.p (pi n))] [.var [.p (.sl 1 (List.map encI t.L)), .p (pi t.At)]] [.one (.p (.sl 1 (List.map encI r_.1)))] [some (.var [.p (.sl 1 (List.map encI r_.2.L)), .p (pi r_.2.At)])] := by
  refine callOK (n := 33) (rs := [.tmp 4]) (nb := 1) (V := [0]) Tryd.func32 rfl (by kernel_rfl) rfl rfl rfl rfl (Nat.le_of_ble_eq_true rfl) (by decide) ?_
  unfold make_Tape_Order at H0
  refine lok_rt E0 (⟨33, mkS [(0, .x (.one (.ptr 0 0))), (1, .x (.one (.p (pi n))))], mkH [(0, .var [.p (.sl 1 (List.map encI t.L)), .p (pi t.At)])]⟩) ?_
  refine lok_rt E0 (⟨33, mkS [(0, .x (.one (.ptr 0 0))), (1, .x (.one (.p (pi n)))), (5, .x (.one (.vw 105)))], mkH [(0, .var [.p (.sl 1 (List.map encI t.L)), .p (pi t.At)]), (105, .arr 1 (List.map encI ([] : List Int)))]⟩) ?_
  refine lok_join (fun x_ : (List Int) × (List Int) × Int => make_Tape_Order_j1 x_.1 x_.2.1 x_.2.2 = some r_) (fun x_ => ⟨33, mkS [(5, .x (.one (.p (.sl 1 (List.map encI x_.1)))))], mkH [(0, .var [.p (.sl 1 (List.map encI x_.2.1)), .p (pi x_.2.2)])]⟩) ?hymake_Tape_Order_j1 ?hxmake_Tape_Order_j1
  case hymake_Tape_Order_j1 =>
    rintro ⟨out, t1, t2⟩ H0
    try dsimp only at H0 ⊢
    unfold make_Tape_Order_j1 at H0
    refine lok_rt E0 (⟨33, mkS [(4, .x (.one (.p (.sl 1 (List.map encI out)))))], mkH [(0, .var [.p (.sl 1 (List.map encI t1)), .p (pi t2)])]⟩) ?_
    refine lok_ret ?_
    try obtain rfl := Option.some.inj H0
    try simp only [thenL, blockL]
    exact fin_au _ (.inr rfl) [0] (⟨33, mkS [(4, .x (.one (.p (.sl 1 (List.map encI out)))))], mkH [(0, .var [.p (.sl 1 (List.map encI t1)), .p (pi t2)])]⟩) rfl rfl imp_au
  case hxmake_Tape_Order_j1 =>
    refine lok_rt E0 (⟨33, mkS [(0, .x (.one (.ptr 0 0))), (1, .x (.one (.p (pi n)))), (5, .x (.one (.vw 105))), (6, .x (.one (.p (pi (0 : Int)))))], mkH [(0, .var [.p (.sl 1 (List.map encI t.L)), .p (pi t.At)]), (105, .arr 1 (List.map encI ([] : List Int)))]⟩) ?_
    refine lok_block ?_
    replace H0 := bind_some H0
    obtain ⟨v_0, hv_0, H0⟩ := H0
    refine lok_iter (fun x_ => ⟨33, mkS [(0, .x (.one (.ptr 0 0))), (1, .x (.one (.p (pi n)))), (5, .x (.one (.p (.sl 1 (List.map encI x_.1))))), (6, .x (.one (.p (pi x_.2.1))))], mkH [(0, .var [.p (.sl 1 (List.map encI x_.2.2.1)), .p (pi x_.2.2.2)])]⟩) hv_0 (Imp.trans (imp_frz 105 1 (List.map encI ([] : List Int))) imp_au) ?_
    · rintro ⟨out1, i, t3, t4⟩ o_1 H1 k_1
      unfold make_Tape_Order_l2 at H1
      try dsimp only at H1 ⊢
      refine lok_seq ?_
      refine lok_rt E0 (⟨33, mkS [(0, .x (.one (.ptr 0 0))), (1, .x (.one (.p (pi n)))), (5, .x (.one (.p (.sl 1 (List.map encI out1))))), (6, .x (.one (.p (pi i)))), (11, .x (.one (.p (.val (.bool (decide (i < n)))))))], mkH [(0, .var [.p (.sl 1 (List.map encI t3)), .p (pi t4)])]⟩) ?_
      refine lok_c (decide (i < n)) ?_ ?_
      · intro b_8
        replace H1 := cpos H1 b_8
        refine lok_skip ?_
        try simp only [thenL, blockL, ↓reduceIte, reduceCtorEq]
        refine lok_seq ?_
        refine lok_block ?_
        replace H1 := bind_some H1
        obtain ⟨⟨y, y1⟩, h_1, H1⟩ := H1
        try dsimp only at H1
        refine lok_rt (Env.of E0 [⟨some 17, 14, [.one (.ptr 0 0), .one (.p (pi (IntKind.i64.wrap (i + (1 : Int)))))], [.var [.p (.sl 1 (List.map encI t3)), .p (pi t4)]], [.one (.p (pi y))], [some (.var [.p (.sl 1 (List.map encI y1.L)), .p (pi y1.At)])], True, fun _ => ok_make_Tape_Next (make_Tape.mk t3 t4) (IntKind.i64.wrap (i + (1 : Int))) (y, y1) h_1, []⟩]) (⟨33, mkS [(0, .x (.one (.ptr 0 0))), (1, .x (.one (.p (pi n)))), (5, .x (.one (.p (.sl 1 (List.map encI out1))))), (6, .x (.one (.p (pi i)))), (7, .x (.one (.p (pi y))))], mkH [(0, .var [.p (.sl 1 (List.map encI y1.L)), .p (pi y1.At)])]⟩) ?_
        refine lok_rt E0 (⟨33, mkS [(0, .x (.one (.ptr 0 0))), (1, .x (.one (.p (pi n)))), (5, .x (.one (.p (.sl 1 (List.map encI out1))))), (6, .x (.one (.p (pi i)))), (7, .x (.one (.p (pi y)))), (8, .x (.one (.vw 108)))], mkH [(0, .var [.p (.sl 1 (List.map encI y1.L)), .p (pi y1.At)]), (108, .arr 1 (List.map encI ([] : List Int)))]⟩) ?_
        replace H1 := req_some H1
        obtain ⟨⟨q_6, q_7⟩, H1⟩ := H1
        refine lok_rt E0 (⟨33, mkS [(0, .x (.one (.ptr 0 0))), (1, .x (.one (.p (pi n)))), (5, .x (.one (.p (.sl 1 (List.map encI out1))))), (6, .x (.one (.p (pi i)))), (7, .x (.one (.p (pi y)))), (8, .x (.one (.vw 108)))], mkH [(0, .var [.p (.sl 1 (List.map encI y1.L)), .p (pi y1.At)]), (108, .arr 1 (List.map encI (([] : List Int) ++ (List.take y.toNat out1))))]⟩) ?_
        replace H1 := req_some H1
        obtain ⟨q_5, H1⟩ := H1
        refine lok_rt E0 (⟨33, mkS [(0, .x (.one (.ptr 0 0))), (1, .x (.one (.p (pi n)))), (5, .x (.one (.p (.sl 1 (List.map encI out1))))), (6, .x (.one (.p (pi i)))), (7, .x (.one (.p (pi y)))), (8, .x (.one (.vw 108)))], mkH [(0, .var [.p (.sl 1 (List.map encI y1.L)), .p (pi y1.At)]), (108, .arr 1 (List.map encI ((([] : List Int) ++ (List.take y.toNat out1)) ++ [i])))]⟩) ?_
        replace H1 := req_some H1
        obtain ⟨⟨q_3, q_4⟩, H1⟩ := H1
        replace H1 := bindV_some H1
        obtain ⟨next, a_2, H1⟩ := H1
        refine lok_rlg E0 a_2 (⟨33, mkS [(0, .x (.one (.ptr 0 0))), (1, .x (.one (.p (pi n)))), (5, .x (.one (.vw 108))), (6, .x (.one (.p (pi i))))], mkH [(0, .var [.p (.sl 1 (List.map encI y1.L)), .p (pi y1.At)]), (108, .arr 1 (List.map encI next))]⟩) ?_
        try simp only [thenL, blockL, ↓reduceIte, reduceCtorEq]
        refine lok_rl E0 (⟨33, mkS [(0, .x (.one (.ptr 0 0))), (1, .x (.one (.p (pi n)))), (5, .x (.one (.vw 108))), (6, .x (.one (.p (pi (IntKind.i64.wrap (i + (1 : Int)))))))], mkH [(0, .var [.p (.sl 1 (List.map encI y1.L)), .p (pi y1.At)]), (108, .arr 1 (List.map encI next))]⟩) ?_
        try simp only [thenL, blockL, ↓reduceIte, reduceCtorEq]
        exact ⟨(next, (IntKind.i64.wrap (i + (1 : Int))), y1.L, y1.At), (Option.some.inj H1).symm, (Imp.trans (imp_frz 108 1 (List.map encI next)) imp_au)⟩
      · intro b_8
        replace H1 := cneg H1 b_8
        refine lok_exit ?_
        try simp only [thenL, blockL, ↓reduceIte, reduceCtorEq]
        have e_1 := k_1 _ (Option.some.inj H1).symm
        subst e_1
        try dsimp only at H0
        try simp only [thenL, blockL, ↓reduceIte, reduceCtorEq]
        exact ⟨(out1, t3, t4), H0, imp_au⟩
set_option maxHeartbeats 4000000 in
theorem ok_top_pagesDamage (s : make_Tape) (x : Str) (r_ : Str × make_Tape) (H0 : top_pagesDamage s x = some r_) : CallOK Tryd.prog 12 [.one (.ptr 0 0), .one (.p (.val (.string (bs x))))] [.var [.p (.sl 1 (List.map encI s.L)), .p (pi s.At)]] [.one (.p (.val (.string (bs r_.1))))] [some (.var [.p (.sl 1 (List.map encI r_.2.L)), .p (pi r_.2.At)])] := by
  refine callOK (n := 55) (rs := [.tmp 4]) (nb := 1) (V := [0]) Tryd.func12 rfl (by kernel_rfl) rfl rfl rfl rfl (Nat.le_of_ble_eq_true rfl) (by decide) ?_
  unfold top_pagesDamage at H0
  refine lok_rt E0 (⟨55, mkS [(0, .x (.one (.ptr 0 0))), (1, .x (.one (.p (.val (.string (bs x))))))], mkH [(0, .var [.p (.sl 1 (List.map encI s.L)), .p (pi s.At)])]⟩) ?_
  refine lok_join (fun x_ : Str × (List Int) × Int => top_pagesDamage_j5 x_.1 x_.2.1 x_.2.2 = some r_) (fun x_ => ⟨55, mkS [(0, .x (.one (.ptr 0 0))), (1, .x (.one (.p (.val (.string (bs x_.1))))))], mkH [(0, .var [.p (.sl 1 (List.map encI x_.2.1)), .p (pi x_.2.2)])]⟩) ?hytop_pagesDamage_j5 ?hxtop_pagesDamage_j5
  case hytop_pagesDamage_j5 =>
    rintro ⟨x1, s1, s2⟩ H0
    try dsimp only at H0 ⊢
    unfold top_pagesDamage_j5 at H0
    replace H0 := bind_some H0
    obtain ⟨⟨y, y1⟩, h_0, H0⟩ := H0
    try dsimp only at H0
    refine lok_rt (Env.of E0 [⟨some 28, 32, [.one (.ptr 0 0), .one (.p (pi (12 : Int)))], [.var [.p (.sl 1 (List.map encI s1)), .p (pi s2)]], [.one (.p (.sl 1 (List.map encI y)))], [some (.var [.p (.sl 1 (List.map encI y1.L)), .p (pi y1.At)])], True, fun _ => ok_make_Tape_Order (make_Tape.mk s1 s2) (12 : Int) (y, y1) h_0, []⟩]) (⟨55, mkS [(0, .x (.one (.ptr 0 0))), (1, .x (.one (.p (.val (.string (bs x1)))))), (6, .x (.one (.p (.sl 1 (List.map encI y)))))], mkH [(0, .var [.p (.sl 1 (List.map encI y1.L)), .p (pi y1.At)])]⟩) ?_
    refine lok_rt E0 (⟨55, mkS [(0, .x (.one (.ptr 0 0))), (1, .x (.one (.p (.val (.string (bs x1)))))), (6, .x (.one (.p (.sl 1 (List.map encI y))))), (7, .x (.one (.p (pi (3 : Int))))), (8, .x (.one (.p (pi (0 : Int)))))], mkH [(0, .var [.p (.sl 1 (List.map encI y1.L)), .p (pi y1.At)])]⟩) ?_
    refine lok_join (fun x_ : Int × Int × (List Int) × Int => top_pagesDamage_j4 x1 y x_.1 x_.2.1 x_.2.2.1 x_.2.2.2 = some r_) (fun x_ => ⟨55, mkS [(0, .x (.one (.ptr 0 0))), (1, .x (.one (.p (.val (.string (bs x1)))))), (6, .x (.one (.p (.sl 1 (List.map encI y))))), (7, .x (.one (.p (pi x_.1)))), (8, .x (.one (.p (pi x_.2.1))))], mkH [(0, .var [.p (.sl 1 (List.map encI x_.2.2.1)), .p (pi x_.2.2.2)])]⟩) ?hytop_pagesDamage_j4 ?hxtop_pagesDamage_j4
    case hytop_pagesDamage_j4 =>
      rintro ⟨n, how, s3, s4⟩ H0
      try dsimp only at H0 ⊢
      unfold top_pagesDamage_j4 at H0
      refine lok_join (fun x_ : Str × (List Int) × Int => top_pagesDamage_j2 x_.1 x_.2.1 x_.2.2 = some r_) (fun x_ => ⟨55, mkS [(0, .x (.one (.ptr 0 0))), (1, .x (.one (.p (.val (.string (bs x_.1))))))], mkH [(0, .var [.p (.sl 1 (List.map encI x_.2.1)), .p (pi x_.2.2)])]⟩) ?hytop_pagesDamage_j2 ?hxtop_pagesDamage_j2
      case hytop_pagesDamage_j2 =>
        rintro ⟨x2, s5, s6⟩ H0
        try dsimp only at H0 ⊢
        unfold top_pagesDamage_j2 at H0
        refine lok_join (fun x_ : Str × (List Int) × Int => top_pagesDamage_j1 x_.1 x_.2.1 x_.2.2 = some r_) (fun x_ => ⟨55, mkS [(1, .x (.one (.p (.val (.string (bs x_.1))))))], mkH [(0, .var [.p (.sl 1 (List.map encI x_.2.1)), .p (pi x_.2.2)])]⟩) ?hytop_pagesDamage_j1 ?hxtop_pagesDamage_j1
        case hytop_pagesDamage_j1 =>
          rintro ⟨x3, s7, s8⟩ H0
          try dsimp only at H0 ⊢
          unfold top_pagesDamage_j1 at H0
          refine lok_rt E0 (⟨55, mkS [(4, .x (.one (.p (.val (.string (bs x3))))))], mkH [(0, .var [.p (.sl 1 (List.map encI s7)), .p (pi s8)])]⟩) ?_
          refine lok_ret ?_
          try obtain rfl := Option.some.inj H0
          try simp only [thenL, blockL]
          exact fin_au _ (.inr rfl) [0] (⟨55, mkS [(4, .x (.one (.p (.val (.string (bs x3))))))], mkH [(0, .var [.p (.sl 1 (List.map encI s7)), .p (pi s8)])]⟩) rfl rfl imp_au
        case hxtop_pagesDamage_j1 =>
          replace H0 := bind_some H0
          obtain ⟨⟨y2, y3⟩, h_1, H0⟩ := H0
          try dsimp only at H0
          refine lok_rt (Env.of E0 [⟨some 50, 14, [.one (.ptr 0 0), .one (.p (pi (2 : Int)))], [.var [.p (.sl 1 (List.map encI s5)), .p (pi s6)]], [.one (.p (pi y2))], [some (.var [.p (.sl 1 (List.map encI y3.L)), .p (pi y3.At)])], True, fun _ => ok_make_Tape_Next (make_Tape.mk s5 s6) (2 : Int) (y2, y3) h_1, []⟩]) (⟨55, mkS [(1, .x (.one (.p (.val (.string (bs x2)))))), (51, .x (.one (.p (.val (.bool (y2 == (1 : Int)))))))], mkH [(0, .var [.p (.sl 1 (List.map encI y3.L)), .p (pi y3.At)])]⟩) ?_
          refine lok_c (y2 == (1 : Int)) ?_ ?_
          · intro b_3
            replace H0 := cpos H0 b_3
            replace H0 := bind_some H0
            obtain ⟨y4, h_2, H0⟩ := H0
            refine lok_rl (Env.of E0 [⟨some 53, 33, [.one (.p (.val (.string (bs x2))))], [], [.one (.p (.val (.string (bs y4))))], [], True, fun _ => ok_strip_Flip x2 y4 h_2, []⟩]) (⟨55, mkS [(1, .x (.one (.p (.val (.string (bs y4))))))], mkH [(0, .var [.p (.sl 1 (List.map encI y3.L)), .p (pi y3.At)])]⟩) ?_
            try simp only [thenL, blockL, ↓reduceIte, reduceCtorEq]
            exact ⟨(y4, y3.L, y3.At), H0, imp_au⟩
          · intro b_3
            replace H0 := cneg H0 b_3
            refine lok_skip ?_
            try simp only [thenL, blockL, ↓reduceIte, reduceCtorEq]
            exact ⟨(x2, y3.L, y3.At), H0, imp_au⟩
      case hxtop_pagesDamage_j2 =>
        refine lok_rt E0 (⟨55, mkS [(0, .x (.one (.ptr 0 0))), (1, .x (.one (.p (.val (.string (bs x1)))))), (6, .x (.one (.p (.sl 1 (List.map encI y))))), (7, .x (.one (.p (pi n)))), (8, .x (.one (.p (pi how)))), (9, .x (.one (.p (pi (0 : Int)))))], mkH [(0, .var [.p (.sl 1 (List.map encI s3)), .p (pi s4)])]⟩) ?_
        refine lok_block ?_
        replace H0 := bind_some H0
        obtain ⟨v_4, hv_4, H0⟩ := H0
        refine lok_iter (fun x_ => ⟨55, mkS [(0, .x (.one (.ptr 0 0))), (1, .x (.one (.p (.val (.string (bs x_.1)))))), (6, .x (.one (.p (.sl 1 (List.map encI y))))), (7, .x (.one (.p (pi n)))), (8, .x (.one (.p (pi how)))), (9, .x (.one (.p (pi x_.2.1))))], mkH [(0, .var [.p (.sl 1 (List.map encI x_.2.2.1)), .p (pi x_.2.2.2)])]⟩) hv_4 imp_au ?_
        · rintro ⟨x4, i, s9, s10⟩ o_1 H1 k_1
          unfold top_pagesDamage_l3 at H1
          try dsimp only at H1 ⊢
          refine lok_seq ?_
          refine lok_rt E0 (⟨55, mkS [(0, .x (.one (.ptr 0 0))), (1, .x (.one (.p (.val (.string (bs x4)))))), (6, .x (.one (.p (.sl 1 (List.map encI y))))), (7, .x (.one (.p (pi n)))), (8, .x (.one (.p (pi how)))), (9, .x (.one (.p (pi i)))), (34, .x (.one (.p (.val (.bool (decide (i < n)))))))], mkH [(0, .var [.p (.sl 1 (List.map encI s9)), .p (pi s10)])]⟩) ?_
          refine lok_c (decide (i < n)) ?_ ?_
          · intro b_8
            replace H1 := cpos H1 b_8
            refine lok_skip ?_
            try simp only [thenL, blockL, ↓reduceIte, reduceCtorEq]
            refine lok_seq ?_
            refine lok_block ?_
            replace H1 := req_some H1
            obtain ⟨q_7, H1⟩ := H1
            replace H1 := bind_some H1
            obtain ⟨⟨y5, y6⟩, h_5, H1⟩ := H1
            try dsimp only at H1
            replace H1 := bind_some H1
            obtain ⟨y7, h_6, H1⟩ := H1
            refine lok_el (Env.of E0 [⟨some 45, 14, [.one (.ptr 0 0), .one (.p (pi (5 : Int)))], [.var [.p (.sl 1 (List.map encI s9)), .p (pi s10)]], [.one (.p (pi y5))], [some (.var [.p (.sl 1 (List.map encI y6.L)), .p (pi y6.At)])], True, fun _ => ok_make_Tape_Next (make_Tape.mk s9 s10) (5 : Int) (y5, y6) h_5, []⟩,
      ⟨some 48, 31, [.one (.p (.val (.string (bs x4)))), .one (.p (pi (IntKind.i64.wrap ((IntKind.i64.wrap ((7 : Int) + (IntKind.i64.wrap ((5 : Int) * (ix y i))))) + y5)))), .one (.p (pi how))], [], [.one (.p (.val (.string (bs y7))))], [], True, fun _ => ok_make_Change x4 (IntKind.i64.wrap ((IntKind.i64.wrap ((7 : Int) + (IntKind.i64.wrap ((5 : Int) * (ix y i))))) + y5)) how y7 h_6, []⟩]) 55 [⟨[(1, .x (.one (.p (.val (.string (bs x4))))))], [], [(37, .x (.one (.p (.val (.string (bs x4))))))], [], none⟩,
      ⟨[(6, .x (.one (.p (.sl 1 (List.map encI y)))))], [], [(38, .x (.one (.p (.sl 1 (List.map encI y)))))], [], none⟩,
      ⟨[(9, .x (.one (.p (pi i))))], [], [(39, .x (.one (.p (pi i))))], [], none⟩,
      ⟨[(38, .x (.one (.p (.sl 1 (List.map encI y))))), (39, .x (.one (.p (pi i))))], [], [(40, .x (.one (.ep [pi (ix y i)])))], [], none⟩,
      ⟨[(40, .x (.one (.ep [pi (ix y i)])))], [], [(41, .x (.one (.p (pi (ix y i)))))], [], none⟩,
      ⟨[(41, .x (.one (.p (pi (ix y i)))))], [], [(42, .x (.one (.p (pi (IntKind.i64.wrap ((5 : Int) * (ix y i)))))))], [], none⟩,
      ⟨[(42, .x (.one (.p (pi (IntKind.i64.wrap ((5 : Int) * (ix y i)))))))], [], [(43, .x (.one (.p (pi (IntKind.i64.wrap ((7 : Int) + (IntKind.i64.wrap ((5 : Int) * (ix y i)))))))))], [], none⟩,
      ⟨[(0, .x (.one (.ptr 0 0)))], [], [(44, .x (.one (.ptr 0 0)))], [], none⟩,
      ⟨[(44, .x (.one (.ptr 0 0)))], [(0, some (.var [.p (.sl 1 (List.map encI s9)), .p (pi s10)]))], [(45, .x (.one (.p (pi y5))))], [(0, some (.var [.p (.sl 1 (List.map encI y6.L)), .p (pi y6.At)]))], none⟩,
      ⟨[(43, .x (.one (.p (pi (IntKind.i64.wrap ((7 : Int) + (IntKind.i64.wrap ((5 : Int) * (ix y i))))))))), (45, .x (.one (.p (pi y5))))], [], [(46, .x (.one (.p (pi (IntKind.i64.wrap ((IntKind.i64.wrap ((7 : Int) + (IntKind.i64.wrap ((5 : Int) * (ix y i))))) + y5))))))], [], none⟩,
      ⟨[(8, .x (.one (.p (pi how))))], [], [(47, .x (.one (.p (pi how))))], [], none⟩] (⟨55, mkS [(0, .x (.one (.ptr 0 0))), (1, .x (.one (.p (.val (.string (bs y7)))))), (6, .x (.one (.p (.sl 1 (List.map encI y))))), (7, .x (.one (.p (pi n)))), (8, .x (.one (.p (pi how)))), (9, .x (.one (.p (pi i))))], mkH [(0, .var [.p (.sl 1 (List.map encI y6.L)), .p (pi y6.At)])]⟩) (by kernel_rfl) (by kernel_rfl) (by kernel_rfl) rfl rfl rfl ?_
            try simp only [thenL, blockL, ↓reduceIte, reduceCtorEq]
            refine lok_rl E0 (⟨55, mkS [(0, .x (.one (.ptr 0 0))), (1, .x (.one (.p (.val (.string (bs y7)))))), (6, .x (.one (.p (.sl 1 (List.map encI y))))), (7, .x (.one (.p (pi n)))), (8, .x (.one (.p (pi how)))), (9, .x (.one (.p (pi (IntKind.i64.wrap (i + (1 : Int)))))))], mkH [(0, .var [.p (.sl 1 (List.map encI y6.L)), .p (pi y6.At)])]⟩) ?_
            try simp only [thenL, blockL, ↓reduceIte, reduceCtorEq]
            exact ⟨(y7, (IntKind.i64.wrap (i + (1 : Int))), y6.L, y6.At), (Option.some.inj H1).symm, imp_au⟩
          · intro b_8
            replace H1 := cneg H1 b_8
            refine lok_exit ?_
            try simp only [thenL, blockL, ↓reduceIte, reduceCtorEq]
            have e_1 := k_1 _ (Option.some.inj H1).symm
            subst e_1
            try dsimp only at H0
            try simp only [thenL, blockL, ↓reduceIte, reduceCtorEq]
            exact ⟨(x4, s9, s10), H0, imp_au⟩
    case hxtop_pagesDamage_j4 =>
      replace H0 := bind_some H0
      obtain ⟨⟨y8, y9⟩, h_9, H0⟩ := H0
      try dsimp only at H0
      refine lok_rt (Env.of E0 [⟨some 30, 14, [.one (.ptr 0 0), .one (.p (pi (2 : Int)))], [.var [.p (.sl 1 (List.map encI y1.L)), .p (pi y1.At)]], [.one (.p (pi y8))], [some (.var [.p (.sl 1 (List.map encI y9.L)), .p (pi y9.At)])], True, fun _ => ok_make_Tape_Next y1 (2 : Int) (y8, y9) h_9, []⟩]) (⟨55, mkS [(0, .x (.one (.ptr 0 0))), (1, .x (.one (.p (.val (.string (bs x1)))))), (6, .x (.one (.p (.sl 1 (List.map encI y))))), (7, .x (.one (.p (pi (3 : Int))))), (8, .x (.one (.p (pi (0 : Int))))), (31, .x (.one (.p (.val (.bool (y8 == (1 : Int)))))))], mkH [(0, .var [.p (.sl 1 (List.map encI y9.L)), .p (pi y9.At)])]⟩) ?_
      refine lok_c (y8 == (1 : Int)) ?_ ?_
      · intro b_10
        replace H0 := cpos H0 b_10
        refine lok_rl E0 (⟨55, mkS [(0, .x (.one (.ptr 0 0))), (1, .x (.one (.p (.val (.string (bs x1)))))), (6, .x (.one (.p (.sl 1 (List.map encI y))))), (7, .x (.one (.p (pi (6 : Int))))), (8, .x (.one (.p (pi (1 : Int)))))], mkH [(0, .var [.p (.sl 1 (List.map encI y9.L)), .p (pi y9.At)])]⟩) ?_
        try simp only [thenL, blockL, ↓reduceIte, reduceCtorEq]
        exact ⟨((6 : Int), (1 : Int), y9.L, y9.At), H0, imp_au⟩
      · intro b_10
        replace H0 := cneg H0 b_10
        refine lok_skip ?_
        try simp only [thenL, blockL, ↓reduceIte, reduceCtorEq]
        exact ⟨((3 : Int), (0 : Int), y9.L, y9.At), H0, imp_au⟩
  case hxtop_pagesDamage_j5 =>
    refine lok_rt E0 (⟨55, mkS [(0, .x (.one (.ptr 0 0))), (1, .x (.one (.p (.val (.string (bs x)))))), (5, .x (.one (.p (pi (0 : Int)))))], mkH [(0, .var [.p (.sl 1 (List.map encI s.L)), .p (pi s.At)])]⟩) ?_
    refine lok_block ?_
    replace H0 := bind_some H0
    obtain ⟨v_11, hv_11, H0⟩ := H0
    refine lok_iter (fun x_ => ⟨55, mkS [(0, .x (.one (.ptr 0 0))), (1, .x (.one (.p (.val (.string (bs x_.1)))))), (5, .x (.one (.p (pi x_.2.1))))], mkH [(0, .var [.p (.sl 1 (List.map encI x_.2.2.1)), .p (pi x_.2.2.2)])]⟩) hv_11 imp_au ?_
    · rintro ⟨x6, i1, s13, s14⟩ o_1 H1 k_1
      unfold top_pagesDamage_l6 at H1
      try dsimp only at H1 ⊢
      refine lok_seq ?_
      refine lok_rt E0 (⟨55, mkS [(0, .x (.one (.ptr 0 0))), (1, .x (.one (.p (.val (.string (bs x6)))))), (5, .x (.one (.p (pi i1)))), (11, .x (.one (.p (.val (.bool (decide (i1 < (3 : Int))))))))], mkH [(0, .var [.p (.sl 1 (List.map encI s13)), .p (pi s14)])]⟩) ?_
      refine lok_c (decide (i1 < (3 : Int))) ?_ ?_
      · intro b_18
        replace H1 := cpos H1 b_18
        refine lok_skip ?_
        try simp only [thenL, blockL, ↓reduceIte, reduceCtorEq]
        refine lok_seq ?_
        refine lok_block ?_
        replace H1 := bind_some H1
        obtain ⟨⟨y10, y11⟩, h_12, H1⟩ := H1
        try dsimp only at H1
        replace H1 := bind_some H1
        obtain ⟨⟨y12, y13⟩, h_13, H1⟩ := H1
        try dsimp only at H1
        replace H1 := bind_some H1
        obtain ⟨y14, h_14, H1⟩ := H1
        refine lok_rt (Env.of E0 [⟨some 16, 14, [.one (.ptr 0 0), .one (.p (pi (7 : Int)))], [.var [.p (.sl 1 (List.map encI s13)), .p (pi s14)]], [.one (.p (pi y10))], [some (.var [.p (.sl 1 (List.map encI y11.L)), .p (pi y11.At)])], True, fun _ => ok_make_Tape_Next (make_Tape.mk s13 s14) (7 : Int) (y10, y11) h_12, []⟩,
      ⟨some 18, 14, [.one (.ptr 0 0), .one (.p (pi (2 : Int)))], [.var [.p (.sl 1 (List.map encI y11.L)), .p (pi y11.At)]], [.one (.p (pi y12))], [some (.var [.p (.sl 1 (List.map encI y13.L)), .p (pi y13.At)])], True, fun _ => ok_make_Tape_Next y11 (2 : Int) (y12, y13) h_13, []⟩,
      ⟨some 19, 31, [.one (.p (.val (.string (bs x6)))), .one (.p (pi y10)), .one (.p (pi y12))], [], [.one (.p (.val (.string (bs y14))))], [], True, fun _ => ok_make_Change x6 y10 y12 y14 h_14, []⟩]) (⟨55, mkS [(0, .x (.one (.ptr 0 0))), (1, .x (.one (.p (.val (.string (bs y14)))))), (5, .x (.one (.p (pi i1))))], mkH [(0, .var [.p (.sl 1 (List.map encI y13.L)), .p (pi y13.At)])]⟩) ?_
        replace H1 := bind_some H1
        obtain ⟨⟨y15, y16⟩, h_15, H1⟩ := H1
        try dsimp only at H1
        replace H1 := bind_some H1
        obtain ⟨⟨y17, y18⟩, h_16, H1⟩ := H1
        try dsimp only at H1
        replace H1 := bind_some H1
        obtain ⟨y19, h_17, H1⟩ := H1
        refine lok_rl (Env.of E0 [⟨some 22, 14, [.one (.ptr 0 0), .one (.p (pi (7 : Int)))], [.var [.p (.sl 1 (List.map encI y13.L)), .p (pi y13.At)]], [.one (.p (pi y15))], [some (.var [.p (.sl 1 (List.map encI y16.L)), .p (pi y16.At)])], True, fun _ => ok_make_Tape_Next y13 (7 : Int) (y15, y16) h_15, []⟩,
      ⟨some 25, 14, [.one (.ptr 0 0), .one (.p (pi (2 : Int)))], [.var [.p (.sl 1 (List.map encI y16.L)), .p (pi y16.At)]], [.one (.p (pi y17))], [some (.var [.p (.sl 1 (List.map encI y18.L)), .p (pi y18.At)])], True, fun _ => ok_make_Tape_Next y16 (2 : Int) (y17, y18) h_16, []⟩,
      ⟨some 26, 31, [.one (.p (.val (.string (bs y14)))), .one (.p (pi (IntKind.i64.wrap ((67 : Int) + y15)))), .one (.p (pi y17))], [], [.one (.p (.val (.string (bs y19))))], [], True, fun _ => ok_make_Change y14 (IntKind.i64.wrap ((67 : Int) + y15)) y17 y19 h_17, []⟩]) (⟨55, mkS [(0, .x (.one (.ptr 0 0))), (1, .x (.one (.p (.val (.string (bs y19)))))), (5, .x (.one (.p (pi i1))))], mkH [(0, .var [.p (.sl 1 (List.map encI y18.L)), .p (pi y18.At)])]⟩) ?_
        try simp only [thenL, blockL, ↓reduceIte, reduceCtorEq]
        refine lok_rl E0 (⟨55, mkS [(0, .x (.one (.ptr 0 0))), (1, .x (.one (.p (.val (.string (bs y19)))))), (5, .x (.one (.p (pi (IntKind.i64.wrap (i1 + (1 : Int)))))))], mkH [(0, .var [.p (.sl 1 (List.map encI y18.L)), .p (pi y18.At)])]⟩) ?_
        try simp only [thenL, blockL, ↓reduceIte, reduceCtorEq]
        exact ⟨(y19, (IntKind.i64.wrap (i1 + (1 : Int))), y18.L, y18.At), (Option.some.inj H1).symm, imp_au⟩
      · intro b_18
        replace H1 := cneg H1 b_18
        refine lok_exit ?_
        try simp only [thenL, blockL, ↓reduceIte, reduceCtorEq]
        have e_1 := k_1 _ (Option.some.inj H1).symm
        subst e_1
        try dsimp only at H0
        try simp only [thenL, blockL, ↓reduceIte, reduceCtorEq]
        exact ⟨(x6, s13, s14), H0, imp_au⟩
theorem ok_strip_Draw (l : api_Label) (r_ : Str × Int) (H0 : strip_Draw l = some r_) : CallOK Tryd.prog 7 [.agg [.p (pi l.Paper), .p (pi l.Candidate), .p (pi l.Page), .p (pi l.Variant)]] [] [.one (.p (.val (.string (bs r_.1)))), .one (.p (pi r_.2))] [] := by
  unfold strip_Draw at H0
  split at H0
  · rename_i hx
    obtain ⟨x1, x2, x3, x4, x5, x6, x7, x8⟩ := hx
    obtain rfl := Option.some.inj H0
    refine callOK_read Tryd.func7 rfl (by kernel_rfl) fun w S vs ht hs hr => ?_
    obtain ⟨v, rfl, rv⟩ := reps1 hr
    obtain ⟨va, rfl, rva⟩ := rv
    obtain ⟨a, b, c, d, hva, ra, rb, rc, rd⟩ := reps4 rva
    subst hva
    have e1 := repC_val ra
    have e2 := repC_val rb
    have e3 := repC_val rc
    have e4 := repC_val rd
    subst e1 e2 e3 e4
    obtain ⟨hT, h2⟩ := tabsAt_of ht
    have hd := Tryd.Draw_walk l.Paper.toNat l.Candidate.toNat l.Page.toNat l.Variant.toNat w hT h2 (by omega) (by omega) (by omega) (by omega)
    rw [Int.toNat_of_nonneg x1, Int.toNat_of_nonneg x3, Int.toNat_of_nonneg x5, Int.toNat_of_nonneg x7] at hd
    refine hd.mono ?_
    rintro e w' ⟨rfl, h⟩
    exact ⟨_, S, rfl, sinceBelow h, fun _ _ h => h, fun _ _ h => .inl h, _, rfl, repLs_cons (.p (.val _ rfl)) (repLs_cons (.p (.val _ rfl)) repLs_nil)⟩
  · cases H0
theorem ok_top_awake19  (r_ : Bool) (H0 : top_awake19 = some r_) : CallOK Tryd.prog 13 [] [] [.one (.p (.val (.bool r_)))] [] := by
  refine callOK (n := 35) (rs := [.tmp 0]) (nb := 0) (V := []) Tryd.func13 rfl (by kernel_rfl) rfl rfl rfl rfl (Nat.le_of_ble_eq_true rfl) (by decide) ?_
  unfold top_awake19 at H0
  refine lok_rt E0 (⟨35, mkS [], mkH []⟩) ?_
  refine lok_rt E0 (⟨35, mkS [(1, .x (.one (.ptr 101 0)))], mkH [(101, .var [.p (pi (1 : Int)), .p (pi (2 : Int)), .p (pi (3 : Int)), .p (pi (0 : Int))])]⟩) ?_
  replace H0 := bind_some H0
  obtain ⟨⟨y, y1⟩, h_0, H0⟩ := H0
  try dsimp only at H0
  refine lok_rt (Env.of E0 [⟨some 10, 7, [.agg [.p (pi (1 : Int)), .p (pi (2 : Int)), .p (pi (3 : Int)), .p (pi (0 : Int))]], [], [.one (.p (.val (.string (bs y)))), .one (.p (pi y1))], [], True, fun _ => ok_strip_Draw (api_Label.mk (1 : Int) (2 : Int) (3 : Int) (0 : Int)) (y, y1) h_0, []⟩]) (⟨35, mkS [(1, .x (.one (.ptr 101 0))), (2, .x (.one (.p (.val (.string (bs y)))))), (3, .x (.one (.p (pi y1))))], mkH [(101, .var [.p (pi (1 : Int)), .p (pi (2 : Int)), .p (pi (3 : Int)), .p (pi (0 : Int))])]⟩) ?_
  replace H0 := bind_some H0
  obtain ⟨y2, h_1, H0⟩ := H0
  replace H0 := bind_some H0
  obtain ⟨⟨y3, y4, y5⟩, h_2, H0⟩ := H0
  try dsimp only at H0
  refine lok_rt (Env.of E0 [⟨some 15, 31, [.one (.p (.val (.string (bs y)))), .one (.p (pi (20 : Int))), .one (.p (pi (0 : Int)))], [], [.one (.p (.val (.string (bs y2))))], [], True, fun _ => ok_make_Change y (20 : Int) (0 : Int) y2 h_1, []⟩,
      ⟨some 16, 11, [.one (.p (.val (.string (bs y2))))], [], [.agg [.p (pi y3.Paper), .p (pi y3.Candidate), .p (pi y3.Page), .p (pi y3.Variant)], .one (.p (pi y4)), .one (.p (pi y5))], [], True, fun _ => ok_strip_Read y2 (y3, y4, y5) h_2, []⟩]) (⟨35, mkS [(1, .x (.one (.ptr 101 0))), (3, .x (.one (.p (pi y1)))), (4, .x (.one (.ptr 104 0))), (5, .x (.one (.p (pi y4)))), (6, .x (.one (.p (pi y5))))], mkH [(101, .var [.p (pi (1 : Int)), .p (pi (2 : Int)), .p (pi (3 : Int)), .p (pi (0 : Int))]), (104, .var [.p (pi y3.Paper), .p (pi y3.Candidate), .p (pi y3.Page), .p (pi y3.Variant)])]⟩) ?_
  refine lok_rt E0 (⟨35, mkS [(0, .x (.one (.p (.val (.bool ((((y1 == (0 : Int)) && (y5 == (0 : Int))) && ((y3.Paper == (1 : Int)) && ((y3.Candidate == (2 : Int)) && ((y3.Page == (3 : Int)) && (y3.Variant == (0 : Int)))))) && (y4 == (1 : Int))))))))], mkH []⟩) ?_
  refine lok_ret ?_
  try obtain rfl := Option.some.inj H0
  try simp only [thenL, blockL]
  exact fin_au _ (.inr rfl) [] (⟨35, mkS [(0, .x (.one (.p (.val (.bool ((((y1 == (0 : Int)) && (y5 == (0 : Int))) && ((y3.Paper == (1 : Int)) && ((y3.Candidate == (2 : Int)) && ((y3.Page == (3 : Int)) && (y3.Variant == (0 : Int)))))) && (y4 == (1 : Int))))))))], mkH []⟩) rfl rfl imp_au
theorem ok_make_New (l : List Int) (r_ : make_Tape) (H0 : make_New l = some r_) : CallOK Tryd.prog 4 [.one (.p (.sl 1 (List.map encI l)))] [] [.one (.ptr 0 0)] [some (.var [.p (.sl 1 (List.map encI r_.L)), .p (pi r_.At)])] := by
  refine callOK (n := 11) (rs := [.tmp 2]) (nb := 0) (V := []) Tryd.func4 rfl (by kernel_rfl) rfl rfl rfl rfl (Nat.le_of_ble_eq_true rfl) (by decide) ?_
  unfold make_New at H0
  refine lok_rt E0 (⟨11, mkS [(0, .x (.one (.p (.sl 1 (List.map encI l)))))], mkH []⟩) ?_
  refine lok_join (fun x_ : (List Int) => make_New_j1 x_ = some r_) (fun x_ => ⟨11, mkS [(0, .x (.one (.p (.sl 1 (List.map encI x_)))))], mkH []⟩) ?hymake_New_j1 ?hxmake_New_j1
  case hymake_New_j1 =>
    rintro l1 H0
    try dsimp only at H0 ⊢
    unfold make_New_j1 at H0
    refine lok_rt E0 (⟨11, mkS [(2, .x (.one (.ptr 110 0)))], mkH [(110, .var [.p (.sl 1 (List.map encI l1)), .p (pi (0 : Int))])]⟩) ?_
    refine lok_ret ?_
    try obtain rfl := Option.some.inj H0
    try simp only [thenL, blockL]
    exact fin_nu [110] _ (.inr rfl) [110] (⟨11, mkS [(2, .x (.one (.ptr 110 0)))], mkH [(110, .var [.p (.sl 1 (List.map encI l1)), .p (pi (0 : Int))])]⟩) rfl rfl imp_au
  case hxmake_New_j1 =>
    refine lok_rt E0 (⟨11, mkS [(0, .x (.one (.p (.sl 1 (List.map encI l))))), (5, .x (.one (.p (.val (.bool (decide ((600 : Int) < (l.length : Int))))))))], mkH []⟩) ?_
    refine lok_c (decide ((600 : Int) < (l.length : Int))) ?_ ?_
    · intro b_1
      replace H0 := cpos H0 b_1
      replace H0 := req_some H0
      obtain ⟨q_0, H0⟩ := H0
      refine lok_rl E0 (⟨11, mkS [(0, .x (.one (.p (.sl 1 (List.map encI (List.take (600 : Int).toNat l))))))], mkH []⟩) ?_
      try simp only [thenL, blockL, ↓reduceIte, reduceCtorEq]
      exact ⟨(List.take (600 : Int).toNat l), H0, imp_au⟩
    · intro b_1
      replace H0 := cneg H0 b_1
      refine lok_skip ?_
      try simp only [thenL, blockL, ↓reduceIte, reduceCtorEq]
      exact ⟨l, H0, imp_au⟩
set_option maxHeartbeats 4000000 in
theorem ok_top_pagesOf (x : api_Sitting) (r_ : (List api_Label)) (H0 : top_pagesOf x = some r_) : CallOK Tryd.prog 5 [.agg [.p (pi x.Number), .p (.sl 3 (List.map enc_api_Paper x.Papers)), .p (.sl 1 (List.map enc_api_Booklet x.Booklets)), .p (.sl 3 (List.map enc_api_Expected x.Expected))]] [] [.one (.p (.sl 4 (List.map enc_api_Label r_)))] [] := by
  refine callOK (n := 43) (rs := [.tmp 2]) (nb := 0) (V := []) Tryd.func5 rfl (by kernel_rfl) rfl rfl rfl rfl (Nat.le_of_ble_eq_true rfl) (by decide) ?_
  unfold top_pagesOf at H0
  refine lok_rt E0 (⟨43, mkS [(1, .x (.one (.ptr 101 0)))], mkH [(101, .var [.p (pi x.Number), .p (.sl 3 (List.map enc_api_Paper x.Papers)), .p (.sl 1 (List.map enc_api_Booklet x.Booklets)), .p (.sl 3 (List.map enc_api_Expected x.Expected))])]⟩) ?_
  refine lok_rt E0 (⟨43, mkS [(1, .x (.one (.ptr 101 0))), (3, .x (.one (.vw 103)))], mkH [(101, .var [.p (pi x.Number), .p (.sl 3 (List.map enc_api_Paper x.Papers)), .p (.sl 1 (List.map enc_api_Booklet x.Booklets)), .p (.sl 3 (List.map enc_api_Expected x.Expected))]), (103, .arr 4 (List.map enc_api_Label ([] : List api_Label)))]⟩) ?_
  refine lok_join (fun x_ : (List api_Label) => top_pagesOf_j1 x_ = some r_) (fun x_ => ⟨43, mkS [(3, .x (.one (.vw 103)))], mkH [(103, .arr 4 (List.map enc_api_Label x_))]⟩) ?hytop_pagesOf_j1 ?hxtop_pagesOf_j1
  case hytop_pagesOf_j1 =>
    rintro out H0
    try dsimp only at H0 ⊢
    unfold top_pagesOf_j1 at H0
    refine lok_rt E0 (⟨43, mkS [(2, .x (.one (.vw 103)))], mkH [(103, .arr 4 (List.map enc_api_Label out))]⟩) ?_
    refine lok_ret ?_
    try obtain rfl := Option.some.inj H0
    try simp only [thenL, blockL]
    exact fin_au _ (.inr rfl) [] (⟨43, mkS [(2, .x (.one (.p (.sl 4 (List.map enc_api_Label out)))))], mkH []⟩) rfl rfl (Imp.trans (imp_frz 103 4 (List.map enc_api_Label out)) imp_au)
  case hxtop_pagesOf_j1 =>
    refine lok_rt E0 (⟨43, mkS [(1, .x (.one (.ptr 101 0))), (3, .x (.one (.vw 103))), (4, .x (.one (.p (pi (0 : Int)))))], mkH [(101, .var [.p (pi x.Number), .p (.sl 3 (List.map enc_api_Paper x.Papers)), .p (.sl 1 (List.map enc_api_Booklet x.Booklets)), .p (.sl 3 (List.map enc_api_Expected x.Expected))]), (103, .arr 4 (List.map enc_api_Label ([] : List api_Label)))]⟩) ?_
    refine lok_block ?_
    replace H0 := bind_some H0
    obtain ⟨v_0, hv_0, H0⟩ := H0
    refine lok_iter (fun x_ => ⟨43, mkS [(1, .x (.one (.ptr 101 0))), (3, .x (.one (.vw 103))), (4, .x (.one (.p (pi x_.1))))], mkH [(101, .var [.p (pi x.Number), .p (.sl 3 (List.map enc_api_Paper x.Papers)), .p (.sl 1 (List.map enc_api_Booklet x.Booklets)), .p (.sl 3 (List.map enc_api_Expected x.Expected))]), (103, .arr 4 (List.map enc_api_Label x_.2))]⟩) hv_0 imp_au ?_
    · rintro ⟨i, out1⟩ o_1 H1 k_1
      unfold top_pagesOf_l4 at H1
      try dsimp only at H1 ⊢
      refine lok_seq ?_
      refine lok_rt E0 (⟨43, mkS [(1, .x (.one (.ptr 101 0))), (3, .x (.one (.vw 103))), (4, .x (.one (.p (pi i)))), (11, .x (.one (.p (.val (.bool (decide (i < (x.Expected.length : Int))))))))], mkH [(101, .var [.p (pi x.Number), .p (.sl 3 (List.map enc_api_Paper x.Papers)), .p (.sl 1 (List.map enc_api_Booklet x.Booklets)), .p (.sl 3 (List.map enc_api_Expected x.Expected))]), (103, .arr 4 (List.map enc_api_Label out1))]⟩) ?_
      refine lok_c (decide (i < (x.Expected.length : Int))) ?_ ?_
      · intro b_7
        replace H1 := cpos H1 b_7
        refine lok_skip ?_
        try simp only [thenL, blockL, ↓reduceIte, reduceCtorEq]
        refine lok_join (fun x_ : (List api_Label) => top_pagesOf_j2 i x_ = some o_1) (fun x_ => ⟨43, mkS [(1, .x (.one (.ptr 101 0))), (3, .x (.one (.vw 103))), (4, .x (.one (.p (pi i))))], mkH [(101, .var [.p (pi x.Number), .p (.sl 3 (List.map enc_api_Paper x.Papers)), .p (.sl 1 (List.map enc_api_Booklet x.Booklets)), .p (.sl 3 (List.map enc_api_Expected x.Expected))]), (103, .arr 4 (List.map enc_api_Label x_))]⟩) ?hytop_pagesOf_j2 ?hxtop_pagesOf_j2
        case hytop_pagesOf_j2 =>
          rintro out3 H1
          try dsimp only at H1 ⊢
          unfold top_pagesOf_j2 at H1
          refine lok_rl E0 (⟨43, mkS [(1, .x (.one (.ptr 101 0))), (3, .x (.one (.vw 103))), (4, .x (.one (.p (pi (IntKind.i64.wrap (i + (1 : Int)))))))], mkH [(101, .var [.p (pi x.Number), .p (.sl 3 (List.map enc_api_Paper x.Papers)), .p (.sl 1 (List.map enc_api_Booklet x.Booklets)), .p (.sl 3 (List.map enc_api_Expected x.Expected))]), (103, .arr 4 (List.map enc_api_Label out3))]⟩) ?_
          try simp only [thenL, blockL, ↓reduceIte, reduceCtorEq]
          exact ⟨((IntKind.i64.wrap (i + (1 : Int))), out3), (Option.some.inj H1).symm, imp_au⟩
        case hxtop_pagesOf_j2 =>
          refine lok_block ?_
          replace H1 := req_some H1
          obtain ⟨q_6, H1⟩ := H1
          refine lok_rt E0 (⟨43, mkS [(1, .x (.one (.ptr 101 0))), (3, .x (.one (.vw 103))), (4, .x (.one (.p (pi i)))), (5, .x (.one (.ptr 105 0)))], mkH [(101, .var [.p (pi x.Number), .p (.sl 3 (List.map enc_api_Paper x.Papers)), .p (.sl 1 (List.map enc_api_Booklet x.Booklets)), .p (.sl 3 (List.map enc_api_Expected x.Expected))]), (103, .arr 4 (List.map enc_api_Label out1)), (105, .var [.p (pi ((ix x.Expected i).Candidate)), .p (pi ((ix x.Expected i).Centre)), .p (pi ((ix x.Expected i).Variant))])]⟩) ?_
          refine lok_rt E0 (⟨43, mkS [(1, .x (.one (.ptr 101 0))), (3, .x (.one (.vw 103))), (4, .x (.one (.p (pi i)))), (5, .x (.one (.ptr 105 0))), (6, .x (.one (.p (pi (0 : Int)))))], mkH [(101, .var [.p (pi x.Number), .p (.sl 3 (List.map enc_api_Paper x.Papers)), .p (.sl 1 (List.map enc_api_Booklet x.Booklets)), .p (.sl 3 (List.map enc_api_Expected x.Expected))]), (103, .arr 4 (List.map enc_api_Label out1)), (105, .var [.p (pi ((ix x.Expected i).Candidate)), .p (pi ((ix x.Expected i).Centre)), .p (pi ((ix x.Expected i).Variant))])]⟩) ?_
          refine lok_block ?_
          replace H1 := bind_some H1
          obtain ⟨v_1, hv_1, H1⟩ := H1
          refine lok_iter (fun x_ => ⟨43, mkS [(1, .x (.one (.ptr 101 0))), (3, .x (.one (.vw 103))), (4, .x (.one (.p (pi i)))), (5, .x (.one (.ptr 105 0))), (6, .x (.one (.p (pi x_.1))))], mkH [(101, .var [.p (pi x.Number), .p (.sl 3 (List.map enc_api_Paper x.Papers)), .p (.sl 1 (List.map enc_api_Booklet x.Booklets)), .p (.sl 3 (List.map enc_api_Expected x.Expected))]), (103, .arr 4 (List.map enc_api_Label x_.2)), (105, .var [.p (pi ((ix x.Expected i).Candidate)), .p (pi ((ix x.Expected i).Centre)), .p (pi ((ix x.Expected i).Variant))])]⟩) hv_1 imp_au ?_
          · rintro ⟨k, out4⟩ o_2 H2 k_2
            unfold top_pagesOf_l3 at H2
            try dsimp only at H2 ⊢
            refine lok_seq ?_
            replace H2 := req_some H2
            obtain ⟨q_5, H2⟩ := H2
            refine lok_rt E0 (⟨43, mkS [(1, .x (.one (.ptr 101 0))), (3, .x (.one (.vw 103))), (4, .x (.one (.p (pi i)))), (5, .x (.one (.ptr 105 0))), (6, .x (.one (.p (pi k)))), (28, .x (.one (.p (.val (.bool (decide (k < (((ix x.Booklets ((ix x.Expected i).Variant)).Pages).length : Int))))))))], mkH [(101, .var [.p (pi x.Number), .p (.sl 3 (List.map enc_api_Paper x.Papers)), .p (.sl 1 (List.map enc_api_Booklet x.Booklets)), .p (.sl 3 (List.map enc_api_Expected x.Expected))]), (103, .arr 4 (List.map enc_api_Label out4)), (105, .var [.p (pi ((ix x.Expected i).Candidate)), .p (pi ((ix x.Expected i).Centre)), .p (pi ((ix x.Expected i).Variant))])]⟩) ?_
            refine lok_c (decide (k < (((ix x.Booklets ((ix x.Expected i).Variant)).Pages).length : Int))) ?_ ?_
            · intro b_4
              replace H2 := cpos H2 b_4
              refine lok_skip ?_
              try simp only [thenL, blockL, ↓reduceIte, reduceCtorEq]
              refine lok_seq ?_
              refine lok_block ?_
              replace H2 := req_some H2
              obtain ⟨q_3, H2⟩ := H2
              replace H2 := bindV_some H2
              obtain ⟨out6, a_2, H2⟩ := H2
              refine lok_rlg E0 a_2 (⟨43, mkS [(1, .x (.one (.ptr 101 0))), (3, .x (.one (.vw 103))), (4, .x (.one (.p (pi i)))), (5, .x (.one (.ptr 105 0))), (6, .x (.one (.p (pi k))))], mkH [(101, .var [.p (pi x.Number), .p (.sl 3 (List.map enc_api_Paper x.Papers)), .p (.sl 1 (List.map enc_api_Booklet x.Booklets)), .p (.sl 3 (List.map enc_api_Expected x.Expected))]), (103, .arr 4 (List.map enc_api_Label out6)), (105, .var [.p (pi ((ix x.Expected i).Candidate)), .p (pi ((ix x.Expected i).Centre)), .p (pi ((ix x.Expected i).Variant))])]⟩) ?_
              try simp only [thenL, blockL, ↓reduceIte, reduceCtorEq]
              refine lok_rl E0 (⟨43, mkS [(1, .x (.one (.ptr 101 0))), (3, .x (.one (.vw 103))), (4, .x (.one (.p (pi i)))), (5, .x (.one (.ptr 105 0))), (6, .x (.one (.p (pi (IntKind.i64.wrap (k + (1 : Int)))))))], mkH [(101, .var [.p (pi x.Number), .p (.sl 3 (List.map enc_api_Paper x.Papers)), .p (.sl 1 (List.map enc_api_Booklet x.Booklets)), .p (.sl 3 (List.map enc_api_Expected x.Expected))]), (103, .arr 4 (List.map enc_api_Label out6)), (105, .var [.p (pi ((ix x.Expected i).Candidate)), .p (pi ((ix x.Expected i).Centre)), .p (pi ((ix x.Expected i).Variant))])]⟩) ?_
              try simp only [thenL, blockL, ↓reduceIte, reduceCtorEq]
              exact ⟨((IntKind.i64.wrap (k + (1 : Int))), out6), (Option.some.inj H2).symm, imp_au⟩
            · intro b_4
              replace H2 := cneg H2 b_4
              refine lok_exit ?_
              try simp only [thenL, blockL, ↓reduceIte, reduceCtorEq]
              have e_2 := k_2 _ (Option.some.inj H2).symm
              subst e_2
              try dsimp only at H1
              try simp only [thenL, blockL, ↓reduceIte, reduceCtorEq]
              exact ⟨out4, H1, imp_au⟩
      · intro b_7
        replace H1 := cneg H1 b_7
        refine lok_exit ?_
        try simp only [thenL, blockL, ↓reduceIte, reduceCtorEq]
        have e_1 := k_1 _ (Option.some.inj H1).symm
        subst e_1
        try dsimp only at H0
        try simp only [thenL, blockL, ↓reduceIte, reduceCtorEq]
        exact ⟨out1, H0, imp_au⟩
theorem ok_make_Tape_Range (t : make_Tape) (low : Int) (high : Int) (r_ : Int × make_Tape) (H0 : make_Tape_Range t low high = some r_) : CallOK Tryd.prog 15 [.one (.ptr 0 0), .one (.p (pi low)), .one (.p (pi high))] [.var [.p (.sl 1 (List.map encI t.L)), .p (pi t.At)]] [.one (.p (pi r_.1))] [some (.var [.p (.sl 1 (List.map encI r_.2.L)), .p (pi r_.2.At)])] := by
  refine callOK (n := 15) (rs := [.tmp 6]) (nb := 1) (V := [0]) Tryd.func15 rfl (by kernel_rfl) rfl rfl rfl rfl (Nat.le_of_ble_eq_true rfl) (by decide) ?_
  unfold make_Tape_Range at H0
  refine lok_rt E0 (⟨15, mkS [(0, .x (.one (.ptr 0 0))), (1, .x (.one (.p (pi low)))), (2, .x (.one (.p (pi high))))], mkH [(0, .var [.p (.sl 1 (List.map encI t.L)), .p (pi t.At)])]⟩) ?_
  replace H0 := bind_some H0
  obtain ⟨⟨y, y1⟩, h_0, H0⟩ := H0
  try dsimp only at H0
  refine lok_rt (Env.of E0 [⟨some 13, 14, [.one (.ptr 0 0), .one (.p (pi (IntKind.i64.wrap ((IntKind.i64.wrap (high - low)) + (1 : Int)))))], [.var [.p (.sl 1 (List.map encI t.L)), .p (pi t.At)]], [.one (.p (pi y))], [some (.var [.p (.sl 1 (List.map encI y1.L)), .p (pi y1.At)])], True, fun _ => ok_make_Tape_Next t (IntKind.i64.wrap ((IntKind.i64.wrap (high - low)) + (1 : Int))) (y, y1) h_0, []⟩]) (⟨15, mkS [(6, .x (.one (.p (pi (IntKind.i64.wrap (low + y))))))], mkH [(0, .var [.p (.sl 1 (List.map encI y1.L)), .p (pi y1.At)])]⟩) ?_
  refine lok_ret ?_
  try obtain rfl := Option.some.inj H0
  try simp only [thenL, blockL]
  exact fin_au _ (.inr rfl) [0] (⟨15, mkS [(6, .x (.one (.p (pi (IntKind.i64.wrap (low + y))))))], mkH [(0, .var [.p (.sl 1 (List.map encI y1.L)), .p (pi y1.At)])]⟩) rfl rfl imp_au
theorem ok_make_Tape_One (t : make_Tape) (n : Int) (r_ : Bool × make_Tape) (H0 : make_Tape_One t n = some r_) : CallOK Tryd.prog 18 [.one (.ptr 0 0), .one (.p (pi n))] [.var [.p (.sl 1 (List.map encI t.L)), .p (pi t.At)]] [.one (.p (.val (.bool r_.1)))] [some (.var [.p (.sl 1 (List.map encI r_.2.L)), .p (pi r_.2.At)])] := by
  refine callOK (n := 11) (rs := [.tmp 4]) (nb := 1) (V := [0]) Tryd.func18 rfl (by kernel_rfl) rfl rfl rfl rfl (Nat.le_of_ble_eq_true rfl) (by decide) ?_
  unfold make_Tape_One at H0
  refine lok_rt E0 (⟨11, mkS [(0, .x (.one (.ptr 0 0))), (1, .x (.one (.p (pi n))))], mkH [(0, .var [.p (.sl 1 (List.map encI t.L)), .p (pi t.At)])]⟩) ?_
  replace H0 := bind_some H0
  obtain ⟨⟨y, y1⟩, h_0, H0⟩ := H0
  try dsimp only at H0
  refine lok_rt (Env.of E0 [⟨some 7, 14, [.one (.ptr 0 0), .one (.p (pi n))], [.var [.p (.sl 1 (List.map encI t.L)), .p (pi t.At)]], [.one (.p (pi y))], [some (.var [.p (.sl 1 (List.map encI y1.L)), .p (pi y1.At)])], True, fun _ => ok_make_Tape_Next t n (y, y1) h_0, []⟩]) (⟨11, mkS [(4, .x (.one (.p (.val (.bool (y == (IntKind.i64.wrap (n - (1 : Int)))))))))], mkH [(0, .var [.p (.sl 1 (List.map encI y1.L)), .p (pi y1.At)])]⟩) ?_
  refine lok_ret ?_
  try obtain rfl := Option.some.inj H0
  try simp only [thenL, blockL]
  exact fin_au _ (.inr rfl) [0] (⟨11, mkS [(4, .x (.one (.p (.val (.bool (y == (IntKind.i64.wrap (n - (1 : Int)))))))))], mkH [(0, .var [.p (.sl 1 (List.map encI y1.L)), .p (pi y1.At)])]⟩) rfl rfl imp_au
theorem ok_make_Tape_Pick (t : make_Tape) (l : List Int) (r_ : Int × make_Tape) (H0 : make_Tape_Pick t l = some r_) : CallOK Tryd.prog 19 [.one (.ptr 0 0), .one (.p (.sl 1 (List.map encI l)))] [.var [.p (.sl 1 (List.map encI t.L)), .p (pi t.At)]] [.one (.p (pi r_.1))] [some (.var [.p (.sl 1 (List.map encI r_.2.L)), .p (pi r_.2.At)])] := by
  refine callOK (n := 12) (rs := [.tmp 4]) (nb := 1) (V := [0]) Tryd.func19 rfl (by kernel_rfl) rfl rfl rfl rfl (Nat.le_of_ble_eq_true rfl) (by decide) ?_
  unfold make_Tape_Pick at H0
  refine lok_rt E0 (⟨12, mkS [(0, .x (.one (.ptr 0 0))), (1, .x (.one (.p (.sl 1 (List.map encI l)))))], mkH [(0, .var [.p (.sl 1 (List.map encI t.L)), .p (pi t.At)])]⟩) ?_
  replace H0 := bind_some H0
  obtain ⟨⟨y, y1⟩, h_0, H0⟩ := H0
  try dsimp only at H0
  replace H0 := req_some H0
  obtain ⟨q_1, H0⟩ := H0
  refine lok_rt (Env.of E0 [⟨some 9, 14, [.one (.ptr 0 0), .one (.p (pi (l.length : Int)))], [.var [.p (.sl 1 (List.map encI t.L)), .p (pi t.At)]], [.one (.p (pi y))], [some (.var [.p (.sl 1 (List.map encI y1.L)), .p (pi y1.At)])], True, fun _ => ok_make_Tape_Next t (l.length : Int) (y, y1) h_0, []⟩]) (⟨12, mkS [(4, .x (.one (.p (pi (ix l y)))))], mkH [(0, .var [.p (.sl 1 (List.map encI y1.L)), .p (pi y1.At)])]⟩) ?_
  refine lok_ret ?_
  try obtain rfl := Option.some.inj H0
  try simp only [thenL, blockL]
  exact fin_au _ (.inr rfl) [0] (⟨12, mkS [(4, .x (.one (.p (pi (ix l y)))))], mkH [(0, .var [.p (.sl 1 (List.map encI y1.L)), .p (pi y1.At)])]⟩) rfl rfl imp_au
theorem ok_make_Tape_Wild (t : make_Tape) (r_ : Int × make_Tape) (H0 : make_Tape_Wild t = some r_) : CallOK Tryd.prog 56 [.one (.ptr 0 0)] [.var [.p (.sl 1 (List.map encI t.L)), .p (pi t.At)]] [.one (.p (pi r_.1))] [some (.var [.p (.sl 1 (List.map encI r_.2.L)), .p (pi r_.2.At)])] := by
  refine callOK (n := 6) (rs := [.tmp 2]) (nb := 1) (V := [0]) Tryd.func56 rfl (by kernel_rfl) rfl rfl rfl rfl (Nat.le_of_ble_eq_true rfl) (by decide) ?_
  unfold make_Tape_Wild at H0
  refine lok_rt E0 (⟨6, mkS [(0, .x (.one (.ptr 0 0)))], mkH [(0, .var [.p (.sl 1 (List.map encI t.L)), .p (pi t.At)])]⟩) ?_
  replace H0 := bind_some H0
  obtain ⟨⟨y, y1⟩, h_0, H0⟩ := H0
  try dsimp only at H0
  refine lok_rt (Env.of E0 [⟨some 5, 19, [.one (.ptr 0 0), .one (.p (.sl 1 (List.map encI ([(-1 : Int), (0 : Int), (1 : Int), (2 : Int), (31 : Int), (32 : Int), (99 : Int), (100 : Int), (200 : Int), (201 : Int), (9999 : Int), (10000 : Int), (1000000 : Int), (1000001 : Int), (1152921504606846976 : Int), (1152921504606846977 : Int), (-1152921504606846976 : Int), (9223372036854775807 : Int), (-9223372036854775808 : Int)]))))], [.var [.p (.sl 1 (List.map encI t.L)), .p (pi t.At)]], [.one (.p (pi y))], [some (.var [.p (.sl 1 (List.map encI y1.L)), .p (pi y1.At)])], True, fun _ => ok_make_Tape_Pick t ([(-1 : Int), (0 : Int), (1 : Int), (2 : Int), (31 : Int), (32 : Int), (99 : Int), (100 : Int), (200 : Int), (201 : Int), (9999 : Int), (10000 : Int), (1000000 : Int), (1000001 : Int), (1152921504606846976 : Int), (1152921504606846977 : Int), (-1152921504606846976 : Int), (9223372036854775807 : Int), (-9223372036854775808 : Int)]) (y, y1) h_0, []⟩]) (⟨6, mkS [(2, .x (.one (.p (pi y))))], mkH [(0, .var [.p (.sl 1 (List.map encI y1.L)), .p (pi y1.At)])]⟩) ?_
  refine lok_ret ?_
  try obtain rfl := Option.some.inj H0
  try simp only [thenL, blockL]
  exact fin_au _ (.inr rfl) [0] (⟨6, mkS [(2, .x (.one (.p (pi y))))], mkH [(0, .var [.p (.sl 1 (List.map encI y1.L)), .p (pi y1.At)])]⟩) rfl rfl imp_au
set_option maxHeartbeats 4000000 in
theorem ok_make_Tape_Part (t : make_Tape) (n : Int) (r_ : api_Part × make_Tape) (H0 : make_Tape_Part t n = some r_) : CallOK Tryd.prog 36 [.one (.ptr 0 0), .one (.p (pi n))] [.var [.p (.sl 1 (List.map encI t.L)), .p (pi t.At)]] [.agg [.p (pi r_.1.Kind), .p (pi r_.1.Max), .p (pi r_.1.Topic), .p (pi r_.1.Objective), .p (pi r_.1.Options), .p (pi r_.1.Key)]] [some (.var [.p (.sl 1 (List.map encI r_.2.L)), .p (pi r_.2.At)])] := by
  refine callOK (n := 67) (rs := [.cell 4 89]) (nb := 1) (V := [0]) Tryd.func36 rfl (by kernel_rfl) rfl rfl rfl rfl (Nat.le_of_ble_eq_true rfl) (by decide) ?_
  unfold make_Tape_Part at H0
  refine lok_rt E0 (⟨67, mkS [(0, .x (.one (.ptr 0 0))), (1, .x (.one (.p (pi n)))), (4, .x (.one (.ptr 104 0)))], mkH [(0, .var [.p (.sl 1 (List.map encI t.L)), .p (pi t.At)]), (104, .var [.p (pi (0 : Int)), .p (pi (0 : Int)), .p (pi (0 : Int)), .p (pi (0 : Int)), .p (pi (0 : Int)), .p (pi (0 : Int))])]⟩) ?_
  replace H0 := bind_some H0
  obtain ⟨⟨y, y1⟩, h_0, H0⟩ := H0
  try dsimp only at H0
  replace H0 := bind_some H0
  obtain ⟨⟨y2, y3⟩, h_1, H0⟩ := H0
  try dsimp only at H0
  replace H0 := bind_some H0
  obtain ⟨⟨y4, y5⟩, h_2, H0⟩ := H0
  try dsimp only at H0
  refine lok_rt (Env.of E0 [⟨some 7, 15, [.one (.ptr 0 0), .one (.p (pi (1 : Int))), .one (.p (pi (12 : Int)))], [.var [.p (.sl 1 (List.map encI t.L)), .p (pi t.At)]], [.one (.p (pi y))], [some (.var [.p (.sl 1 (List.map encI y1.L)), .p (pi y1.At)])], True, fun _ => ok_make_Tape_Range t (1 : Int) (12 : Int) (y, y1) h_0, []⟩,
      ⟨some 9, 14, [.one (.ptr 0 0), .one (.p (pi (4 : Int)))], [.var [.p (.sl 1 (List.map encI y1.L)), .p (pi y1.At)]], [.one (.p (pi y2))], [some (.var [.p (.sl 1 (List.map encI y3.L)), .p (pi y3.At)])], True, fun _ => ok_make_Tape_Next y1 (4 : Int) (y2, y3) h_1, []⟩,
      ⟨some 11, 14, [.one (.ptr 0 0), .one (.p (pi (3 : Int)))], [.var [.p (.sl 1 (List.map encI y3.L)), .p (pi y3.At)]], [.one (.p (pi y4))], [some (.var [.p (.sl 1 (List.map encI y5.L)), .p (pi y5.At)])], True, fun _ => ok_make_Tape_Next y3 (3 : Int) (y4, y5) h_2, []⟩]) (⟨67, mkS [(0, .x (.one (.ptr 0 0))), (1, .x (.one (.p (pi n)))), (4, .x (.one (.ptr 104 0))), (5, .x (.one (.ptr 105 0)))], mkH [(0, .var [.p (.sl 1 (List.map encI y5.L)), .p (pi y5.At)]), (104, .var [.p (pi (0 : Int)), .p (pi (0 : Int)), .p (pi (0 : Int)), .p (pi (0 : Int)), .p (pi (0 : Int)), .p (pi (0 : Int))]), (105, .var [.p (pi (1 : Int)), .p (pi y), .p (pi y2), .p (pi y4), .p (pi (0 : Int)), .p (pi (0 : Int))])]⟩) ?_
  refine lok_join (fun x_ : (List Int) × Int × Int × Int × Int × Int => make_Tape_Part_j2 n y2 y4 x_.1 x_.2.1 x_.2.2.1 x_.2.2.2.1 x_.2.2.2.2.1 x_.2.2.2.2.2 = some r_) (fun x_ => ⟨67, mkS [(0, .x (.one (.ptr 0 0))), (1, .x (.one (.p (pi n)))), (4, .x (.one (.ptr 104 0))), (5, .x (.one (.ptr 105 0)))], mkH [(0, .var [.p (.sl 1 (List.map encI x_.1)), .p (pi x_.2.1)]), (104, .var [.p (pi (0 : Int)), .p (pi (0 : Int)), .p (pi (0 : Int)), .p (pi (0 : Int)), .p (pi (0 : Int)), .p (pi (0 : Int))]), (105, .var [.p (pi x_.2.2.1), .p (pi x_.2.2.2.1), .p (pi y2), .p (pi y4), .p (pi x_.2.2.2.2.1), .p (pi x_.2.2.2.2.2)])]⟩) ?hymake_Tape_Part_j2 ?hxmake_Tape_Part_j2
  case hymake_Tape_Part_j2 =>
    rintro ⟨t1, t2, p, p1, p2, p3⟩ H0
    try dsimp only at H0 ⊢
    unfold make_Tape_Part_j2 at H0
    refine lok_join (fun x_ : (List Int) × Int × Int × Int × Int × Int × Int × Int => make_Tape_Part_j1 x_.1 x_.2.1 x_.2.2.1 x_.2.2.2.1 x_.2.2.2.2.1 x_.2.2.2.2.2.1 x_.2.2.2.2.2.2.1 x_.2.2.2.2.2.2.2 = some r_) (fun x_ => ⟨67, mkS [(4, .x (.one (.ptr 104 0))), (5, .x (.one (.ptr 105 0)))], mkH [(0, .var [.p (.sl 1 (List.map encI x_.1)), .p (pi x_.2.1)]), (104, .var [.p (pi (0 : Int)), .p (pi (0 : Int)), .p (pi (0 : Int)), .p (pi (0 : Int)), .p (pi (0 : Int)), .p (pi (0 : Int))]), (105, .var [.p (pi x_.2.2.1), .p (pi x_.2.2.2.1), .p (pi x_.2.2.2.2.1), .p (pi x_.2.2.2.2.2.1), .p (pi x_.2.2.2.2.2.2.1), .p (pi x_.2.2.2.2.2.2.2)])]⟩) ?hymake_Tape_Part_j1 ?hxmake_Tape_Part_j1
    case hymake_Tape_Part_j1 =>
      rintro ⟨t3, t4, p4, p5, p6, p7, p8, p9⟩ H0
      try dsimp only at H0 ⊢
      unfold make_Tape_Part_j1 at H0
      refine lok_rt E0 (⟨67, mkS [(4, .x (.one (.ptr 104 0)))], mkH [(0, .var [.p (.sl 1 (List.map encI t3)), .p (pi t4)]), (104, .var [.p (pi p4), .p (pi p5), .p (pi p6), .p (pi p7), .p (pi p8), .p (pi p9)])]⟩) ?_
      refine lok_ret ?_
      try obtain rfl := Option.some.inj H0
      try simp only [thenL, blockL]
      exact fin_au _ (.inr rfl) [0] (⟨67, mkS [(4, .x (.one (.ptr 104 0)))], mkH [(0, .var [.p (.sl 1 (List.map encI t3)), .p (pi t4)]), (104, .var [.p (pi p4), .p (pi p5), .p (pi p6), .p (pi p7), .p (pi p8), .p (pi p9)])]⟩) rfl rfl imp_au
    case hxmake_Tape_Part_j1 =>
      rcases bcases (decide ((0 : Int) < n)) with g_3_0 | g_3_0
      · replace H0 := cpos H0 g_3_0
        replace H0 := bind_some H0
        obtain ⟨⟨y6, y7⟩, h_3, H0⟩ := H0
        try dsimp only at H0
        refine lok_rtg (Env.of E0 [⟨some 33, 18, [.one (.ptr 0 0), .one (.p (pi n))], [.var [.p (.sl 1 (List.map encI t1)), .p (pi t2)]], [.one (.p (.val (.bool y6)))], [some (.var [.p (.sl 1 (List.map encI y7.L)), .p (pi y7.At)])], True, fun _ => ok_make_Tape_One (make_Tape.mk t1 t2) n (y6, y7) h_3, []⟩]) g_3_0 (⟨67, mkS [(0, .x (.one (.ptr 0 0))), (4, .x (.one (.ptr 104 0))), (5, .x (.one (.ptr 105 0))), (34, .x (.one (.p (.val (.bool y6)))))], mkH [(0, .var [.p (.sl 1 (List.map encI y7.L)), .p (pi y7.At)]), (104, .var [.p (pi (0 : Int)), .p (pi (0 : Int)), .p (pi (0 : Int)), .p (pi (0 : Int)), .p (pi (0 : Int)), .p (pi (0 : Int))]), (105, .var [.p (pi p), .p (pi p1), .p (pi y2), .p (pi y4), .p (pi p2), .p (pi p3)])]⟩) ?_
        refine lok_c y6 ?_ ?_
        · intro b_16
          replace H0 := cpos H0 b_16
          replace H0 := bind_some H0
          obtain ⟨⟨y8, y9⟩, h_4, H0⟩ := H0
          try dsimp only at H0
          refine lok_rt (Env.of E0 [⟨some 36, 14, [.one (.ptr 0 0), .one (.p (pi (6 : Int)))], [.var [.p (.sl 1 (List.map encI y7.L)), .p (pi y7.At)]], [.one (.p (pi y8))], [some (.var [.p (.sl 1 (List.map encI y9.L)), .p (pi y9.At)])], True, fun _ => ok_make_Tape_Next y7 (6 : Int) (y8, y9) h_4, []⟩]) (⟨67, mkS [(0, .x (.one (.ptr 0 0))), (4, .x (.one (.ptr 104 0))), (5, .x (.one (.ptr 105 0))), (36, .x (.one (.p (pi y8))))], mkH [(0, .var [.p (.sl 1 (List.map encI y9.L)), .p (pi y9.At)]), (104, .var [.p (pi (0 : Int)), .p (pi (0 : Int)), .p (pi (0 : Int)), .p (pi (0 : Int)), .p (pi (0 : Int)), .p (pi (0 : Int))]), (105, .var [.p (pi p), .p (pi p1), .p (pi y2), .p (pi y4), .p (pi p2), .p (pi p3)])]⟩) ?_
          refine lok_block ?_
          refine lok_rt E0 (⟨67, mkS [(0, .x (.one (.ptr 0 0))), (4, .x (.one (.ptr 104 0))), (5, .x (.one (.ptr 105 0))), (36, .x (.one (.p (pi y8)))), (40, .x (.one (.p (.val (.bool (y8 == (0 : Int)))))))], mkH [(0, .var [.p (.sl 1 (List.map encI y9.L)), .p (pi y9.At)]), (104, .var [.p (pi (0 : Int)), .p (pi (0 : Int)), .p (pi (0 : Int)), .p (pi (0 : Int)), .p (pi (0 : Int)), .p (pi (0 : Int))]), (105, .var [.p (pi p), .p (pi p1), .p (pi y2), .p (pi y4), .p (pi p2), .p (pi p3)])]⟩) ?_
          refine lok_c (y8 == (0 : Int)) ?_ ?_
          · intro b_15
            replace H0 := cpos H0 b_15
            replace H0 := bind_some H0
            obtain ⟨⟨y10, y11⟩, h_5, H0⟩ := H0
            try dsimp only at H0
            refine lok_rl (Env.of E0 [⟨some 43, 15, [.one (.ptr 0 0), .one (.p (pi (-1 : Int))), .one (.p (pi (3 : Int)))], [.var [.p (.sl 1 (List.map encI y9.L)), .p (pi y9.At)]], [.one (.p (pi y10))], [some (.var [.p (.sl 1 (List.map encI y11.L)), .p (pi y11.At)])], True, fun _ => ok_make_Tape_Range y9 (-1 : Int) (3 : Int) (y10, y11) h_5, []⟩]) (⟨67, mkS [(4, .x (.one (.ptr 104 0))), (5, .x (.one (.ptr 105 0)))], mkH [(0, .var [.p (.sl 1 (List.map encI y11.L)), .p (pi y11.At)]), (104, .var [.p (pi (0 : Int)), .p (pi (0 : Int)), .p (pi (0 : Int)), .p (pi (0 : Int)), .p (pi (0 : Int)), .p (pi (0 : Int))]), (105, .var [.p (pi y10), .p (pi p1), .p (pi y2), .p (pi y4), .p (pi p2), .p (pi p3)])]⟩) ?_
            try simp only [thenL, blockL, ↓reduceIte, reduceCtorEq]
            exact ⟨(y11.L, y11.At, y10, p1, y2, y4, p2, p3), H0, imp_au⟩
          · intro b_15
            replace H0 := cneg H0 b_15
            refine lok_rt E0 (⟨67, mkS [(0, .x (.one (.ptr 0 0))), (4, .x (.one (.ptr 104 0))), (5, .x (.one (.ptr 105 0))), (36, .x (.one (.p (pi y8)))), (45, .x (.one (.p (.val (.bool (y8 == (1 : Int)))))))], mkH [(0, .var [.p (.sl 1 (List.map encI y9.L)), .p (pi y9.At)]), (104, .var [.p (pi (0 : Int)), .p (pi (0 : Int)), .p (pi (0 : Int)), .p (pi (0 : Int)), .p (pi (0 : Int)), .p (pi (0 : Int))]), (105, .var [.p (pi p), .p (pi p1), .p (pi y2), .p (pi y4), .p (pi p2), .p (pi p3)])]⟩) ?_
            refine lok_c (y8 == (1 : Int)) ?_ ?_
            · intro b_14
              replace H0 := cpos H0 b_14
              replace H0 := bind_some H0
              obtain ⟨⟨y12, y13⟩, h_6, H0⟩ := H0
              try dsimp only at H0
              refine lok_rl (Env.of E0 [⟨some 49, 19, [.one (.ptr 0 0), .one (.p (.sl 1 (List.map encI ([(0 : Int), (40 : Int), (41 : Int), (-1 : Int)]))))], [.var [.p (.sl 1 (List.map encI y9.L)), .p (pi y9.At)]], [.one (.p (pi y12))], [some (.var [.p (.sl 1 (List.map encI y13.L)), .p (pi y13.At)])], True, fun _ => ok_make_Tape_Pick y9 ([(0 : Int), (40 : Int), (41 : Int), (-1 : Int)]) (y12, y13) h_6, []⟩]) (⟨67, mkS [(4, .x (.one (.ptr 104 0))), (5, .x (.one (.ptr 105 0)))], mkH [(0, .var [.p (.sl 1 (List.map encI y13.L)), .p (pi y13.At)]), (104, .var [.p (pi (0 : Int)), .p (pi (0 : Int)), .p (pi (0 : Int)), .p (pi (0 : Int)), .p (pi (0 : Int)), .p (pi (0 : Int))]), (105, .var [.p (pi p), .p (pi y12), .p (pi y2), .p (pi y4), .p (pi p2), .p (pi p3)])]⟩) ?_
              try simp only [thenL, blockL, ↓reduceIte, reduceCtorEq]
              exact ⟨(y13.L, y13.At, p, y12, y2, y4, p2, p3), H0, imp_au⟩
            · intro b_14
              replace H0 := cneg H0 b_14
              refine lok_rt E0 (⟨67, mkS [(0, .x (.one (.ptr 0 0))), (4, .x (.one (.ptr 104 0))), (5, .x (.one (.ptr 105 0))), (36, .x (.one (.p (pi y8)))), (51, .x (.one (.p (.val (.bool (y8 == (2 : Int)))))))], mkH [(0, .var [.p (.sl 1 (List.map encI y9.L)), .p (pi y9.At)]), (104, .var [.p (pi (0 : Int)), .p (pi (0 : Int)), .p (pi (0 : Int)), .p (pi (0 : Int)), .p (pi (0 : Int)), .p (pi (0 : Int))]), (105, .var [.p (pi p), .p (pi p1), .p (pi y2), .p (pi y4), .p (pi p2), .p (pi p3)])]⟩) ?_
              refine lok_c (y8 == (2 : Int)) ?_ ?_
              · intro b_13
                replace H0 := cpos H0 b_13
                replace H0 := bind_some H0
                obtain ⟨⟨y14, y15⟩, h_7, H0⟩ := H0
                try dsimp only at H0
                refine lok_rl (Env.of E0 [⟨some 54, 56, [.one (.ptr 0 0)], [.var [.p (.sl 1 (List.map encI y9.L)), .p (pi y9.At)]], [.one (.p (pi y14))], [some (.var [.p (.sl 1 (List.map encI y15.L)), .p (pi y15.At)])], True, fun _ => ok_make_Tape_Wild y9 (y14, y15) h_7, []⟩]) (⟨67, mkS [(4, .x (.one (.ptr 104 0))), (5, .x (.one (.ptr 105 0)))], mkH [(0, .var [.p (.sl 1 (List.map encI y15.L)), .p (pi y15.At)]), (104, .var [.p (pi (0 : Int)), .p (pi (0 : Int)), .p (pi (0 : Int)), .p (pi (0 : Int)), .p (pi (0 : Int)), .p (pi (0 : Int))]), (105, .var [.p (pi p), .p (pi p1), .p (pi y14), .p (pi y4), .p (pi p2), .p (pi p3)])]⟩) ?_
                try simp only [thenL, blockL, ↓reduceIte, reduceCtorEq]
                exact ⟨(y15.L, y15.At, p, p1, y14, y4, p2, p3), H0, imp_au⟩
              · intro b_13
                replace H0 := cneg H0 b_13
                refine lok_rt E0 (⟨67, mkS [(0, .x (.one (.ptr 0 0))), (4, .x (.one (.ptr 104 0))), (5, .x (.one (.ptr 105 0))), (36, .x (.one (.p (pi y8)))), (56, .x (.one (.p (.val (.bool (y8 == (3 : Int)))))))], mkH [(0, .var [.p (.sl 1 (List.map encI y9.L)), .p (pi y9.At)]), (104, .var [.p (pi (0 : Int)), .p (pi (0 : Int)), .p (pi (0 : Int)), .p (pi (0 : Int)), .p (pi (0 : Int)), .p (pi (0 : Int))]), (105, .var [.p (pi p), .p (pi p1), .p (pi y2), .p (pi y4), .p (pi p2), .p (pi p3)])]⟩) ?_
                refine lok_c (y8 == (3 : Int)) ?_ ?_
                · intro b_12
                  replace H0 := cpos H0 b_12
                  replace H0 := bind_some H0
                  obtain ⟨⟨y16, y17⟩, h_8, H0⟩ := H0
                  try dsimp only at H0
                  refine lok_rl (Env.of E0 [⟨some 59, 56, [.one (.ptr 0 0)], [.var [.p (.sl 1 (List.map encI y9.L)), .p (pi y9.At)]], [.one (.p (pi y16))], [some (.var [.p (.sl 1 (List.map encI y17.L)), .p (pi y17.At)])], True, fun _ => ok_make_Tape_Wild y9 (y16, y17) h_8, []⟩]) (⟨67, mkS [(4, .x (.one (.ptr 104 0))), (5, .x (.one (.ptr 105 0)))], mkH [(0, .var [.p (.sl 1 (List.map encI y17.L)), .p (pi y17.At)]), (104, .var [.p (pi (0 : Int)), .p (pi (0 : Int)), .p (pi (0 : Int)), .p (pi (0 : Int)), .p (pi (0 : Int)), .p (pi (0 : Int))]), (105, .var [.p (pi p), .p (pi p1), .p (pi y2), .p (pi y16), .p (pi p2), .p (pi p3)])]⟩) ?_
                  try simp only [thenL, blockL, ↓reduceIte, reduceCtorEq]
                  exact ⟨(y17.L, y17.At, p, p1, y2, y16, p2, p3), H0, imp_au⟩
                · intro b_12
                  replace H0 := cneg H0 b_12
                  refine lok_rt E0 (⟨67, mkS [(0, .x (.one (.ptr 0 0))), (4, .x (.one (.ptr 104 0))), (5, .x (.one (.ptr 105 0))), (61, .x (.one (.p (.val (.bool (y8 == (4 : Int)))))))], mkH [(0, .var [.p (.sl 1 (List.map encI y9.L)), .p (pi y9.At)]), (104, .var [.p (pi (0 : Int)), .p (pi (0 : Int)), .p (pi (0 : Int)), .p (pi (0 : Int)), .p (pi (0 : Int)), .p (pi (0 : Int))]), (105, .var [.p (pi p), .p (pi p1), .p (pi y2), .p (pi y4), .p (pi p2), .p (pi p3)])]⟩) ?_
                  refine lok_c (y8 == (4 : Int)) ?_ ?_
                  · intro b_11
                    replace H0 := cpos H0 b_11
                    replace H0 := bind_some H0
                    obtain ⟨⟨y18, y19⟩, h_9, H0⟩ := H0
                    try dsimp only at H0
                    refine lok_rl (Env.of E0 [⟨some 64, 15, [.one (.ptr 0 0), .one (.p (pi (-1 : Int))), .one (.p (pi (6 : Int)))], [.var [.p (.sl 1 (List.map encI y9.L)), .p (pi y9.At)]], [.one (.p (pi y18))], [some (.var [.p (.sl 1 (List.map encI y19.L)), .p (pi y19.At)])], True, fun _ => ok_make_Tape_Range y9 (-1 : Int) (6 : Int) (y18, y19) h_9, []⟩]) (⟨67, mkS [(4, .x (.one (.ptr 104 0))), (5, .x (.one (.ptr 105 0)))], mkH [(0, .var [.p (.sl 1 (List.map encI y19.L)), .p (pi y19.At)]), (104, .var [.p (pi (0 : Int)), .p (pi (0 : Int)), .p (pi (0 : Int)), .p (pi (0 : Int)), .p (pi (0 : Int)), .p (pi (0 : Int))]), (105, .var [.p (pi p), .p (pi p1), .p (pi y2), .p (pi y4), .p (pi y18), .p (pi p3)])]⟩) ?_
                    try simp only [thenL, blockL, ↓reduceIte, reduceCtorEq]
                    exact ⟨(y19.L, y19.At, p, p1, y2, y4, y18, p3), H0, imp_au⟩
                  · intro b_11
                    replace H0 := cneg H0 b_11
                    replace H0 := bind_some H0
                    obtain ⟨⟨y20, y21⟩, h_10, H0⟩ := H0
                    try dsimp only at H0
                    refine lok_rl (Env.of E0 [⟨some 38, 15, [.one (.ptr 0 0), .one (.p (pi (-1 : Int))), .one (.p (pi (5 : Int)))], [.var [.p (.sl 1 (List.map encI y9.L)), .p (pi y9.At)]], [.one (.p (pi y20))], [some (.var [.p (.sl 1 (List.map encI y21.L)), .p (pi y21.At)])], True, fun _ => ok_make_Tape_Range y9 (-1 : Int) (5 : Int) (y20, y21) h_10, []⟩]) (⟨67, mkS [(4, .x (.one (.ptr 104 0))), (5, .x (.one (.ptr 105 0)))], mkH [(0, .var [.p (.sl 1 (List.map encI y21.L)), .p (pi y21.At)]), (104, .var [.p (pi (0 : Int)), .p (pi (0 : Int)), .p (pi (0 : Int)), .p (pi (0 : Int)), .p (pi (0 : Int)), .p (pi (0 : Int))]), (105, .var [.p (pi p), .p (pi p1), .p (pi y2), .p (pi y4), .p (pi p2), .p (pi y20)])]⟩) ?_
                    try simp only [thenL, blockL, ↓reduceIte, reduceCtorEq]
                    exact ⟨(y21.L, y21.At, p, p1, y2, y4, p2, y20), H0, imp_au⟩
        · intro b_16
          replace H0 := cneg H0 b_16
          refine lok_skip ?_
          try simp only [thenL, blockL, ↓reduceIte, reduceCtorEq]
          exact ⟨(y7.L, y7.At, p, p1, y2, y4, p2, p3), H0, imp_au⟩
      · replace H0 := cneg H0 g_3_0
        refine lok_rtg E0 g_3_0 (⟨67, mkS [(0, .x (.one (.ptr 0 0))), (4, .x (.one (.ptr 104 0))), (5, .x (.one (.ptr 105 0))), (34, .x (.one (.p (.val (.bool false)))))], mkH [(0, .var [.p (.sl 1 (List.map encI t1)), .p (pi t2)]), (104, .var [.p (pi (0 : Int)), .p (pi (0 : Int)), .p (pi (0 : Int)), .p (pi (0 : Int)), .p (pi (0 : Int)), .p (pi (0 : Int))]), (105, .var [.p (pi p), .p (pi p1), .p (pi y2), .p (pi y4), .p (pi p2), .p (pi p3)])]⟩) ?_
        refine lok_c false ?_ ?_
        · intro h; exact absurd h (by decide)
        · intro _
          refine lok_skip ?_
          try simp only [thenL, blockL, ↓reduceIte, reduceCtorEq]
          exact ⟨(t1, t2, p, p1, y2, y4, p2, p3), H0, imp_au⟩
  case hxmake_Tape_Part_j2 =>
    replace H0 := bind_some H0
    obtain ⟨⟨y22, y23⟩, h_16, H0⟩ := H0
    try dsimp only at H0
    refine lok_rt (Env.of E0 [⟨some 14, 14, [.one (.ptr 0 0), .one (.p (pi (3 : Int)))], [.var [.p (.sl 1 (List.map encI y5.L)), .p (pi y5.At)]], [.one (.p (pi y22))], [some (.var [.p (.sl 1 (List.map encI y23.L)), .p (pi y23.At)])], True, fun _ => ok_make_Tape_Next y5 (3 : Int) (y22, y23) h_16, []⟩]) (⟨67, mkS [(0, .x (.one (.ptr 0 0))), (1, .x (.one (.p (pi n)))), (4, .x (.one (.ptr 104 0))), (5, .x (.one (.ptr 105 0))), (15, .x (.one (.p (.val (.bool (y22 == (0 : Int)))))))], mkH [(0, .var [.p (.sl 1 (List.map encI y23.L)), .p (pi y23.At)]), (104, .var [.p (pi (0 : Int)), .p (pi (0 : Int)), .p (pi (0 : Int)), .p (pi (0 : Int)), .p (pi (0 : Int)), .p (pi (0 : Int))]), (105, .var [.p (pi (1 : Int)), .p (pi y), .p (pi y2), .p (pi y4), .p (pi (0 : Int)), .p (pi (0 : Int))])]⟩) ?_
    refine lok_c (y22 == (0 : Int)) ?_ ?_
    · intro b_20
      replace H0 := cpos H0 b_20
      replace H0 := bind_some H0
      obtain ⟨⟨y24, y25⟩, h_17, H0⟩ := H0
      try dsimp only at H0
      refine lok_rt (Env.of E0 [⟨some 17, 15, [.one (.ptr 0 0), .one (.p (pi (2 : Int))), .one (.p (pi (5 : Int)))], [.var [.p (.sl 1 (List.map encI y23.L)), .p (pi y23.At)]], [.one (.p (pi y24))], [some (.var [.p (.sl 1 (List.map encI y25.L)), .p (pi y25.At)])], True, fun _ => ok_make_Tape_Range y23 (2 : Int) (5 : Int) (y24, y25) h_17, []⟩]) (⟨67, mkS [(0, .x (.one (.ptr 0 0))), (1, .x (.one (.p (pi n)))), (4, .x (.one (.ptr 104 0))), (5, .x (.one (.ptr 105 0)))], mkH [(0, .var [.p (.sl 1 (List.map encI y25.L)), .p (pi y25.At)]), (104, .var [.p (pi (0 : Int)), .p (pi (0 : Int)), .p (pi (0 : Int)), .p (pi (0 : Int)), .p (pi (0 : Int)), .p (pi (0 : Int))]), (105, .var [.p (pi (2 : Int)), .p (pi y), .p (pi y2), .p (pi y4), .p (pi y24), .p (pi (0 : Int))])]⟩) ?_
      replace H0 := bind_some H0
      obtain ⟨⟨y26, y27⟩, h_18, H0⟩ := H0
      try dsimp only at H0
      replace H0 := bind_some H0
      obtain ⟨⟨y28, y29⟩, h_19, H0⟩ := H0
      try dsimp only at H0
      refine lok_rl (Env.of E0 [⟨some 23, 14, [.one (.ptr 0 0), .one (.p (pi y24))], [.var [.p (.sl 1 (List.map encI y25.L)), .p (pi y25.At)]], [.one (.p (pi y26))], [some (.var [.p (.sl 1 (List.map encI y27.L)), .p (pi y27.At)])], True, fun _ => ok_make_Tape_Next y25 y24 (y26, y27) h_18, []⟩,
      ⟨some 25, 15, [.one (.ptr 0 0), .one (.p (pi (1 : Int))), .one (.p (pi (3 : Int)))], [.var [.p (.sl 1 (List.map encI y27.L)), .p (pi y27.At)]], [.one (.p (pi y28))], [some (.var [.p (.sl 1 (List.map encI y29.L)), .p (pi y29.At)])], True, fun _ => ok_make_Tape_Range y27 (1 : Int) (3 : Int) (y28, y29) h_19, []⟩]) (⟨67, mkS [(0, .x (.one (.ptr 0 0))), (1, .x (.one (.p (pi n)))), (4, .x (.one (.ptr 104 0))), (5, .x (.one (.ptr 105 0)))], mkH [(0, .var [.p (.sl 1 (List.map encI y29.L)), .p (pi y29.At)]), (104, .var [.p (pi (0 : Int)), .p (pi (0 : Int)), .p (pi (0 : Int)), .p (pi (0 : Int)), .p (pi (0 : Int)), .p (pi (0 : Int))]), (105, .var [.p (pi (2 : Int)), .p (pi y28), .p (pi y2), .p (pi y4), .p (pi y24), .p (pi y26)])]⟩) ?_
      try simp only [thenL, blockL, ↓reduceIte, reduceCtorEq]
      exact ⟨(y29.L, y29.At, (2 : Int), y28, y24, y26), H0, imp_au⟩
    · intro b_20
      replace H0 := cneg H0 b_20
      refine lok_skip ?_
      try simp only [thenL, blockL, ↓reduceIte, reduceCtorEq]
      exact ⟨(y23.L, y23.At, (1 : Int), y, (0 : Int), (0 : Int)), H0, imp_au⟩
theorem ok_make_Tape_Paper (t : make_Tape) (code : Int) (variant : Int) (r_ : api_Paper × make_Tape) (H0 : make_Tape_Paper t code variant = some r_) : CallOK Tryd.prog 16 [.one (.ptr 0 0), .one (.p (pi code)), .one (.p (pi variant))] [.var [.p (.sl 1 (List.map encI t.L)), .p (pi t.At)]] [.agg [.p (pi r_.1.Code), .p (pi r_.1.Variant), .p (.sl 6 (List.map enc_api_Part r_.1.Parts))]] [some (.var [.p (.sl 1 (List.map encI r_.2.L)), .p (pi r_.2.At)])] := by
  refine callOK (n := 26) (rs := [.cell 6 57]) (nb := 1) (V := [0]) Tryd.func16 rfl (by kernel_rfl) rfl rfl rfl rfl (Nat.le_of_ble_eq_true rfl) (by decide) ?_
  unfold make_Tape_Paper at H0
  refine lok_rt E0 (⟨26, mkS [(0, .x (.one (.ptr 0 0))), (1, .x (.one (.p (pi code)))), (2, .x (.one (.p (pi variant)))), (6, .x (.one (.ptr 106 0)))], mkH [(0, .var [.p (.sl 1 (List.map encI t.L)), .p (pi t.At)]), (106, .var [.p (pi (0 : Int)), .p (pi (0 : Int)), .p .nil])]⟩) ?_
  refine lok_rt E0 (⟨26, mkS [(0, .x (.one (.ptr 0 0))), (6, .x (.one (.ptr 106 0))), (7, .x (.one (.ptr 107 0)))], mkH [(0, .var [.p (.sl 1 (List.map encI t.L)), .p (pi t.At)]), (106, .var [.p (pi (0 : Int)), .p (pi (0 : Int)), .p .nil]), (107, .var [.p (pi code), .p (pi variant), .p .nil])]⟩) ?_
  refine lok_join (fun x_ : (List Int) × Int × (List api_Part) => make_Tape_Paper_j1 code variant x_.1 x_.2.1 x_.2.2 = some r_) (fun x_ => ⟨26, mkS [(6, .x (.one (.ptr 106 0))), (7, .x (.one (.ptr 107 0)))], mkH [(0, .var [.p (.sl 1 (List.map encI x_.1)), .p (pi x_.2.1)]), (106, .var [.p (pi (0 : Int)), .p (pi (0 : Int)), .p .nil]), (107, .var [.p (pi code), .p (pi variant), .vw 123]), (123, .arr 6 (List.map enc_api_Part x_.2.2))]⟩) ?hymake_Tape_Paper_j1 ?hxmake_Tape_Paper_j1
  case hymake_Tape_Paper_j1 =>
    rintro ⟨t1, t2, w⟩ H0
    try dsimp only at H0 ⊢
    unfold make_Tape_Paper_j1 at H0
    refine lok_rt E0 (⟨26, mkS [(6, .x (.one (.ptr 106 0)))], mkH [(0, .var [.p (.sl 1 (List.map encI t1)), .p (pi t2)]), (106, .var [.p (pi code), .p (pi variant), .vw 123]), (123, .arr 6 (List.map enc_api_Part w))]⟩) ?_
    refine lok_ret ?_
    try obtain rfl := Option.some.inj H0
    try simp only [thenL, blockL]
    exact fin_au _ (.inr rfl) [0] (⟨26, mkS [(6, .x (.one (.ptr 106 0)))], mkH [(0, .var [.p (.sl 1 (List.map encI t1)), .p (pi t2)]), (106, .var [.p (pi code), .p (pi variant), .p (.sl 6 (List.map enc_api_Part w))])]⟩) rfl rfl (Imp.trans (imp_frz 123 6 (List.map enc_api_Part w)) imp_au)
  case hxmake_Tape_Paper_j1 =>
    replace H0 := bind_some H0
    obtain ⟨⟨y, y1⟩, h_0, H0⟩ := H0
    try dsimp only at H0
    refine lok_rt (Env.of E0 [⟨some 13, 15, [.one (.ptr 0 0), .one (.p (pi (1 : Int))), .one (.p (pi (6 : Int)))], [.var [.p (.sl 1 (List.map encI t.L)), .p (pi t.At)]], [.one (.p (pi y))], [some (.var [.p (.sl 1 (List.map encI y1.L)), .p (pi y1.At)])], True, fun _ => ok_make_Tape_Range t (1 : Int) (6 : Int) (y, y1) h_0, []⟩]) (⟨26, mkS [(0, .x (.one (.ptr 0 0))), (6, .x (.one (.ptr 106 0))), (7, .x (.one (.ptr 107 0))), (8, .x (.one (.p (pi y))))], mkH [(0, .var [.p (.sl 1 (List.map encI y1.L)), .p (pi y1.At)]), (106, .var [.p (pi (0 : Int)), .p (pi (0 : Int)), .p .nil]), (107, .var [.p (pi code), .p (pi variant), .p .nil])]⟩) ?_
    refine lok_block ?_
    replace H0 := bind_some H0
    obtain ⟨v_1, hv_1, H0⟩ := H0
    refine lok_iter (fun x_ => ⟨26, mkS [(0, .x (.one (.ptr 0 0))), (6, .x (.one (.ptr 106 0))), (7, .x (.one (.ptr 107 0))), (8, .x (.one (.p (pi x_.1))))], mkH [(0, .var [.p (.sl 1 (List.map encI x_.2.1)), .p (pi x_.2.2.1)]), (106, .var [.p (pi (0 : Int)), .p (pi (0 : Int)), .p .nil]), (107, .var [.p (pi code), .p (pi variant), .vw 123]), (123, .arr 6 (List.map enc_api_Part x_.2.2.2))]⟩) hv_1 imp_au ?_
    · rintro ⟨i, t3, t4, w1⟩ o_1 H1 k_1
      unfold make_Tape_Paper_l2 at H1
      try dsimp only at H1 ⊢
      refine lok_seq ?_
      refine lok_rt E0 (⟨26, mkS [(0, .x (.one (.ptr 0 0))), (6, .x (.one (.ptr 106 0))), (7, .x (.one (.ptr 107 0))), (8, .x (.one (.p (pi i)))), (15, .x (.one (.p (.val (.bool (decide ((0 : Int) < i)))))))], mkH [(0, .var [.p (.sl 1 (List.map encI t3)), .p (pi t4)]), (106, .var [.p (pi (0 : Int)), .p (pi (0 : Int)), .p .nil]), (107, .var [.p (pi code), .p (pi variant), .vw 123]), (123, .arr 6 (List.map enc_api_Part w1))]⟩) ?_
      refine lok_c (decide ((0 : Int) < i)) ?_ ?_
      · intro b_4
        replace H1 := cpos H1 b_4
        refine lok_skip ?_
        try simp only [thenL, blockL, ↓reduceIte, reduceCtorEq]
        refine lok_seq ?_
        refine lok_block ?_
        replace H1 := bind_some H1
        obtain ⟨⟨y2, y3⟩, h_2, H1⟩ := H1
        try dsimp only at H1
        replace H1 := req_some H1
        obtain ⟨q_3, H1⟩ := H1
        refine lok_el (Env.of E0 [⟨some 21, 36, [.one (.ptr 0 0), .one (.p (pi (0 : Int)))], [.var [.p (.sl 1 (List.map encI t3)), .p (pi t4)]], [.agg [.p (pi y2.Kind), .p (pi y2.Max), .p (pi y2.Topic), .p (pi y2.Objective), .p (pi y2.Options), .p (pi y2.Key)]], [some (.var [.p (.sl 1 (List.map encI y3.L)), .p (pi y3.At)])], True, fun _ => ok_make_Tape_Part (make_Tape.mk t3 t4) (0 : Int) (y2, y3) h_2, []⟩]) 26 [⟨[(7, .x (.one (.ptr 107 0)))], [], [(18, .x (.one (.ptr 107 2)))], [], none⟩,
      ⟨[(18, .x (.one (.ptr 107 2)))], [(107, some (.var [.p (pi code), .p (pi variant), .vw 123]))], [(19, .x (.one (.vw 123)))], [], none⟩,
      ⟨[(0, .x (.one (.ptr 0 0)))], [], [(20, .x (.one (.ptr 0 0)))], [], none⟩,
      ⟨[(20, .x (.one (.ptr 0 0)))], [(0, some (.var [.p (.sl 1 (List.map encI t3)), .p (pi t4)]))], [(21, .x (.agg [.p (pi y2.Kind), .p (pi y2.Max), .p (pi y2.Topic), .p (pi y2.Objective), .p (pi y2.Options), .p (pi y2.Key)]))], [(0, some (.var [.p (.sl 1 (List.map encI y3.L)), .p (pi y3.At)]))], none⟩,
      ⟨[(21, .x (.agg [.p (pi y2.Kind), .p (pi y2.Max), .p (pi y2.Topic), .p (pi y2.Objective), .p (pi y2.Options), .p (pi y2.Key)]))], [], [(22, .x (.one (.fl 6 (List.map enc_api_Part ([y2])))))], [], none⟩] (⟨26, mkS [(0, .x (.one (.ptr 0 0))), (6, .x (.one (.ptr 106 0))), (7, .x (.one (.ptr 107 0))), (8, .x (.one (.p (pi i))))], mkH [(0, .var [.p (.sl 1 (List.map encI y3.L)), .p (pi y3.At)]), (106, .var [.p (pi (0 : Int)), .p (pi (0 : Int)), .p .nil]), (107, .var [.p (pi code), .p (pi variant), .vw 123]), (123, .arr 6 (List.map enc_api_Part (w1 ++ [y2])))]⟩) (by kernel_rfl) (by kernel_rfl) (by kernel_rfl) rfl rfl rfl ?_
        try simp only [thenL, blockL, ↓reduceIte, reduceCtorEq]
        refine lok_rl E0 (⟨26, mkS [(0, .x (.one (.ptr 0 0))), (6, .x (.one (.ptr 106 0))), (7, .x (.one (.ptr 107 0))), (8, .x (.one (.p (pi (IntKind.i64.wrap (i - (1 : Int)))))))], mkH [(0, .var [.p (.sl 1 (List.map encI y3.L)), .p (pi y3.At)]), (106, .var [.p (pi (0 : Int)), .p (pi (0 : Int)), .p .nil]), (107, .var [.p (pi code), .p (pi variant), .vw 123]), (123, .arr 6 (List.map enc_api_Part (w1 ++ [y2])))]⟩) ?_
        try simp only [thenL, blockL, ↓reduceIte, reduceCtorEq]
        exact ⟨((IntKind.i64.wrap (i - (1 : Int))), y3.L, y3.At, (w1 ++ [y2])), (Option.some.inj H1).symm, imp_au⟩
      · intro b_4
        replace H1 := cneg H1 b_4
        refine lok_exit ?_
        try simp only [thenL, blockL, ↓reduceIte, reduceCtorEq]
        have e_1 := k_1 _ (Option.some.inj H1).symm
        subst e_1
        try dsimp only at H0
        try simp only [thenL, blockL, ↓reduceIte, reduceCtorEq]
        exact ⟨(t3, t4, w1), H0, imp_au⟩
theorem ok_ref06_ValidPart (p : api_Part) (r_ : Bool) (H0 : ref06_ValidPart p = some r_) : CallOK Tryd.prog 57 [.agg [.p (pi p.Kind), .p (pi p.Max), .p (pi p.Topic), .p (pi p.Objective), .p (pi p.Options), .p (pi p.Key)]] [] [.one (.p (.val (.bool r_)))] [] := by
  refine callOK (n := 67) (rs := [.tmp 2]) (nb := 0) (V := []) Tryd.func57 rfl (by kernel_rfl) rfl rfl rfl rfl (Nat.le_of_ble_eq_true rfl) (by decide) ?_
  unfold ref06_ValidPart at H0
  refine lok_rt E0 (⟨67, mkS [(1, .x (.one (.ptr 101 0)))], mkH [(101, .var [.p (pi p.Kind), .p (pi p.Max), .p (pi p.Topic), .p (pi p.Objective), .p (pi p.Options), .p (pi p.Key)])]⟩) ?_
  refine lok_seq ?_
  refine lok_rt E0 (⟨67, mkS [(1, .x (.one (.ptr 101 0))), (30, .x (.one (.p (.val (.bool ((((((decide (p.Max < (1 : Int))) || (decide ((40 : Int) < p.Max))) || (decide (p.Topic < (0 : Int)))) || (decide ((16 : Int) ≤ p.Topic))) || (decide (p.Objective < (0 : Int)))) || (decide ((6 : Int) ≤ p.Objective))))))))], mkH [(101, .var [.p (pi p.Kind), .p (pi p.Max), .p (pi p.Topic), .p (pi p.Objective), .p (pi p.Options), .p (pi p.Key)])]⟩) ?_
  refine lok_c ((((((decide (p.Max < (1 : Int))) || (decide ((40 : Int) < p.Max))) || (decide (p.Topic < (0 : Int)))) || (decide ((16 : Int) ≤ p.Topic))) || (decide (p.Objective < (0 : Int)))) || (decide ((6 : Int) ≤ p.Objective))) ?_ ?_
  · intro b_1
    replace H0 := cpos H0 b_1
    refine lok_rt E0 (⟨67, mkS [(2, .x (.one (.p (.val (.bool false)))))], mkH []⟩) ?_
    refine lok_ret ?_
    try obtain rfl := Option.some.inj H0
    try simp only [thenL, blockL]
    exact fin_au _ (.inr rfl) [] (⟨67, mkS [(2, .x (.one (.p (.val (.bool false)))))], mkH []⟩) rfl rfl imp_au
  · intro b_1
    replace H0 := cneg H0 b_1
    refine lok_skip ?_
    try simp only [thenL, blockL, ↓reduceIte, reduceCtorEq]
    refine lok_seq ?_
    refine lok_rt E0 (⟨67, mkS [(1, .x (.one (.ptr 101 0))), (33, .x (.one (.p (.val (.bool (p.Kind == (1 : Int)))))))], mkH [(101, .var [.p (pi p.Kind), .p (pi p.Max), .p (pi p.Topic), .p (pi p.Objective), .p (pi p.Options), .p (pi p.Key)])]⟩) ?_
    refine lok_c (p.Kind == (1 : Int)) ?_ ?_
    · intro b_0
      replace H0 := cpos H0 b_0
      refine lok_rt E0 (⟨67, mkS [(2, .x (.one (.p (.val (.bool ((p.Options == (0 : Int)) && (p.Key == (0 : Int))))))))], mkH []⟩) ?_
      refine lok_ret ?_
      try obtain rfl := Option.some.inj H0
      try simp only [thenL, blockL]
      exact fin_au _ (.inr rfl) [] (⟨67, mkS [(2, .x (.one (.p (.val (.bool ((p.Options == (0 : Int)) && (p.Key == (0 : Int))))))))], mkH []⟩) rfl rfl imp_au
    · intro b_0
      replace H0 := cneg H0 b_0
      refine lok_skip ?_
      try simp only [thenL, blockL, ↓reduceIte, reduceCtorEq]
      refine lok_rt E0 (⟨67, mkS [(2, .x (.one (.p (.val (.bool (((((p.Kind == (2 : Int)) && (decide ((2 : Int) ≤ p.Options))) && (decide (p.Options ≤ (5 : Int)))) && (decide ((0 : Int) ≤ p.Key))) && (decide (p.Key < p.Options))))))))], mkH []⟩) ?_
      refine lok_ret ?_
      try obtain rfl := Option.some.inj H0
      try simp only [thenL, blockL]
      exact fin_au _ (.inr rfl) [] (⟨67, mkS [(2, .x (.one (.p (.val (.bool (((((p.Kind == (2 : Int)) && (decide ((2 : Int) ≤ p.Options))) && (decide (p.Options ≤ (5 : Int)))) && (decide ((0 : Int) ≤ p.Key))) && (decide (p.Key < p.Options))))))))], mkH []⟩) rfl rfl imp_au
theorem ok_ref06_ValidPaper (p : api_Paper) (r_ : Bool) (H0 : ref06_ValidPaper p = some r_) : CallOK Tryd.prog 37 [.agg [.p (pi p.Code), .p (pi p.Variant), .p (.sl 6 (List.map enc_api_Part p.Parts))]] [] [.one (.p (.val (.bool r_)))] [] := by
  refine callOK (n := 59) (rs := [.tmp 2]) (nb := 0) (V := []) Tryd.func37 rfl (by kernel_rfl) rfl rfl rfl rfl (Nat.le_of_ble_eq_true rfl) (by decide) ?_
  unfold ref06_ValidPaper at H0
  refine lok_rt E0 (⟨59, mkS [(1, .x (.one (.ptr 101 0)))], mkH [(101, .var [.p (pi p.Code), .p (pi p.Variant), .p (.sl 6 (List.map enc_api_Part p.Parts))])]⟩) ?_
  refine lok_seq ?_
  refine lok_rt E0 (⟨59, mkS [(1, .x (.one (.ptr 101 0))), (34, .x (.one (.p (.val (.bool ((((((decide (p.Code < (0 : Int))) || (decide ((31 : Int) < p.Code))) || (decide (p.Variant < (0 : Int)))) || (decide ((4 : Int) ≤ p.Variant))) || (decide ((p.Parts.length : Int) < (1 : Int)))) || (decide ((24 : Int) < (p.Parts.length : Int)))))))))], mkH [(101, .var [.p (pi p.Code), .p (pi p.Variant), .p (.sl 6 (List.map enc_api_Part p.Parts))])]⟩) ?_
  refine lok_c ((((((decide (p.Code < (0 : Int))) || (decide ((31 : Int) < p.Code))) || (decide (p.Variant < (0 : Int)))) || (decide ((4 : Int) ≤ p.Variant))) || (decide ((p.Parts.length : Int) < (1 : Int)))) || (decide ((24 : Int) < (p.Parts.length : Int)))) ?_ ?_
  · intro b_6
    replace H0 := cpos H0 b_6
    refine lok_rt E0 (⟨59, mkS [(2, .x (.one (.p (.val (.bool false)))))], mkH []⟩) ?_
    refine lok_ret ?_
    try obtain rfl := Option.some.inj H0
    try simp only [thenL, blockL]
    exact fin_au _ (.inr rfl) [] (⟨59, mkS [(2, .x (.one (.p (.val (.bool false)))))], mkH []⟩) rfl rfl imp_au
  · intro b_6
    replace H0 := cneg H0 b_6
    refine lok_skip ?_
    try simp only [thenL, blockL, ↓reduceIte, reduceCtorEq]
    refine lok_rt E0 (⟨59, mkS [(1, .x (.one (.ptr 101 0))), (3, .x (.one (.p (pi (0 : Int)))))], mkH [(101, .var [.p (pi p.Code), .p (pi p.Variant), .p (.sl 6 (List.map enc_api_Part p.Parts))])]⟩) ?_
    refine lok_join (fun x_ : Int => ref06_ValidPaper_j1 x_ = some r_) (fun x_ => ⟨59, mkS [(3, .x (.one (.p (pi x_))))], mkH []⟩) ?hyref06_ValidPaper_j1 ?hxref06_ValidPaper_j1
    case hyref06_ValidPaper_j1 =>
      rintro sum H0
      try dsimp only at H0 ⊢
      unfold ref06_ValidPaper_j1 at H0
      refine lok_rt E0 (⟨59, mkS [(2, .x (.one (.p (.val (.bool (decide (sum ≤ (200 : Int))))))))], mkH []⟩) ?_
      refine lok_ret ?_
      try obtain rfl := Option.some.inj H0
      try simp only [thenL, blockL]
      exact fin_au _ (.inr rfl) [] (⟨59, mkS [(2, .x (.one (.p (.val (.bool (decide (sum ≤ (200 : Int))))))))], mkH []⟩) rfl rfl imp_au
    case hxref06_ValidPaper_j1 =>
      refine lok_rt E0 (⟨59, mkS [(1, .x (.one (.ptr 101 0))), (3, .x (.one (.p (pi (0 : Int))))), (4, .x (.one (.p (pi (0 : Int)))))], mkH [(101, .var [.p (pi p.Code), .p (pi p.Variant), .p (.sl 6 (List.map enc_api_Part p.Parts))])]⟩) ?_
      refine lok_block ?_
      replace H0 := bind_some H0
      obtain ⟨v_0, hv_0, H0⟩ := H0
      refine lok_iter (fun x_ => ⟨59, mkS [(1, .x (.one (.ptr 101 0))), (3, .x (.one (.p (pi x_.1)))), (4, .x (.one (.p (pi x_.2))))], mkH [(101, .var [.p (pi p.Code), .p (pi p.Variant), .p (.sl 6 (List.map enc_api_Part p.Parts))])]⟩) hv_0 imp_au ?_
      · rintro ⟨sum1, i⟩ o_1 H1 k_1
        unfold ref06_ValidPaper_l2 at H1
        try dsimp only at H1 ⊢
        refine lok_seq ?_
        refine lok_rt E0 (⟨59, mkS [(1, .x (.one (.ptr 101 0))), (3, .x (.one (.p (pi sum1)))), (4, .x (.one (.p (pi i)))), (39, .x (.one (.p (.val (.bool (decide (i < (p.Parts.length : Int))))))))], mkH [(101, .var [.p (pi p.Code), .p (pi p.Variant), .p (.sl 6 (List.map enc_api_Part p.Parts))])]⟩) ?_
        refine lok_c (decide (i < (p.Parts.length : Int))) ?_ ?_
        · intro b_5
          replace H1 := cpos H1 b_5
          refine lok_skip ?_
          try simp only [thenL, blockL, ↓reduceIte, reduceCtorEq]
          refine lok_seq ?_
          refine lok_block ?_
          refine lok_seq ?_
          replace H1 := req_some H1
          obtain ⟨q_4, H1⟩ := H1
          replace H1 := bind_some H1
          obtain ⟨y, h_1, H1⟩ := H1
          refine lok_rt (Env.of E0 [⟨some 47, 57, [.agg [.p (pi ((ix p.Parts i).Kind)), .p (pi ((ix p.Parts i).Max)), .p (pi ((ix p.Parts i).Topic)), .p (pi ((ix p.Parts i).Objective)), .p (pi ((ix p.Parts i).Options)), .p (pi ((ix p.Parts i).Key))]], [], [.one (.p (.val (.bool y)))], [], True, fun _ => ok_ref06_ValidPart (ix p.Parts i) y h_1, []⟩]) (⟨59, mkS [(1, .x (.one (.ptr 101 0))), (3, .x (.one (.p (pi sum1)))), (4, .x (.one (.p (pi i)))), (48, .x (.one (.p (.val (.bool (!y))))))], mkH [(101, .var [.p (pi p.Code), .p (pi p.Variant), .p (.sl 6 (List.map enc_api_Part p.Parts))])]⟩) ?_
          refine lok_c (!y) ?_ ?_
          · intro b_3
            replace H1 := cpos H1 b_3
            refine lok_rt E0 (⟨59, mkS [(2, .x (.one (.p (.val (.bool false)))))], mkH []⟩) ?_
            refine lok_ret ?_
            try simp only [thenL, blockL, ↓reduceIte, reduceCtorEq]
            have e_1 := k_1 _ (Option.some.inj H1).symm
            subst e_1
            try dsimp only at H0
            try obtain rfl := Option.some.inj H0
            try simp only [thenL, blockL]
            exact fin_au _ (.inr rfl) [] (⟨59, mkS [(2, .x (.one (.p (.val (.bool false)))))], mkH []⟩) rfl rfl imp_au
          · intro b_3
            replace H1 := cneg H1 b_3
            refine lok_skip ?_
            try simp only [thenL, blockL, ↓reduceIte, reduceCtorEq]
            replace H1 := req_some H1
            obtain ⟨q_2, H1⟩ := H1
            refine lok_rl E0 (⟨59, mkS [(1, .x (.one (.ptr 101 0))), (3, .x (.one (.p (pi (IntKind.i64.wrap (sum1 + (ix p.Parts i).Max)))))), (4, .x (.one (.p (pi i))))], mkH [(101, .var [.p (pi p.Code), .p (pi p.Variant), .p (.sl 6 (List.map enc_api_Part p.Parts))])]⟩) ?_
            try simp only [thenL, blockL, ↓reduceIte, reduceCtorEq]
            refine lok_rl E0 (⟨59, mkS [(1, .x (.one (.ptr 101 0))), (3, .x (.one (.p (pi (IntKind.i64.wrap (sum1 + (ix p.Parts i).Max)))))), (4, .x (.one (.p (pi (IntKind.i64.wrap (i + (1 : Int)))))))], mkH [(101, .var [.p (pi p.Code), .p (pi p.Variant), .p (.sl 6 (List.map enc_api_Part p.Parts))])]⟩) ?_
            try simp only [thenL, blockL, ↓reduceIte, reduceCtorEq]
            exact ⟨((IntKind.i64.wrap (sum1 + (ix p.Parts i).Max)), (IntKind.i64.wrap (i + (1 : Int)))), (Option.some.inj H1).symm, imp_au⟩
        · intro b_5
          replace H1 := cneg H1 b_5
          refine lok_exit ?_
          try simp only [thenL, blockL, ↓reduceIte, reduceCtorEq]
          have e_1 := k_1 _ (Option.some.inj H1).symm
          subst e_1
          try dsimp only at H0
          try simp only [thenL, blockL, ↓reduceIte, reduceCtorEq]
          exact ⟨sum1, H0, imp_au⟩
theorem ok_ref12_Need (p : api_Part) (r_ : Int) (H0 : ref12_Need p = some r_) : CallOK Tryd.prog 38 [.agg [.p (pi p.Kind), .p (pi p.Max), .p (pi p.Topic), .p (pi p.Objective), .p (pi p.Options), .p (pi p.Key)]] [] [.one (.p (pi r_))] [] := by
  refine callOK (n := 16) (rs := [.tmp 2]) (nb := 0) (V := []) Tryd.func38 rfl (by kernel_rfl) rfl rfl rfl rfl (Nat.le_of_ble_eq_true rfl) (by decide) ?_
  unfold ref12_Need at H0
  refine lok_rt E0 (⟨16, mkS [(1, .x (.one (.ptr 101 0)))], mkH [(101, .var [.p (pi p.Kind), .p (pi p.Max), .p (pi p.Topic), .p (pi p.Objective), .p (pi p.Options), .p (pi p.Key)])]⟩) ?_
  refine lok_seq ?_
  replace H0 := bind_some H0
  obtain ⟨y, h_0, H0⟩ := H0
  refine lok_rt (Env.of E0 [⟨some 4, 57, [.agg [.p (pi p.Kind), .p (pi p.Max), .p (pi p.Topic), .p (pi p.Objective), .p (pi p.Options), .p (pi p.Key)]], [], [.one (.p (.val (.bool y)))], [], True, fun _ => ok_ref06_ValidPart p y h_0, []⟩]) (⟨16, mkS [(1, .x (.one (.ptr 101 0))), (5, .x (.one (.p (.val (.bool (!y))))))], mkH [(101, .var [.p (pi p.Kind), .p (pi p.Max), .p (pi p.Topic), .p (pi p.Objective), .p (pi p.Options), .p (pi p.Key)])]⟩) ?_
  refine lok_c (!y) ?_ ?_
  · intro b_2
    replace H0 := cpos H0 b_2
    refine lok_rt E0 (⟨16, mkS [(2, .x (.one (.p (pi (0 : Int)))))], mkH []⟩) ?_
    refine lok_ret ?_
    try obtain rfl := Option.some.inj H0
    try simp only [thenL, blockL]
    exact fin_au _ (.inr rfl) [] (⟨16, mkS [(2, .x (.one (.p (pi (0 : Int)))))], mkH []⟩) rfl rfl imp_au
  · intro b_2
    replace H0 := cneg H0 b_2
    refine lok_skip ?_
    try simp only [thenL, blockL, ↓reduceIte, reduceCtorEq]
    refine lok_seq ?_
    refine lok_rt E0 (⟨16, mkS [(1, .x (.one (.ptr 101 0))), (8, .x (.one (.p (.val (.bool (p.Kind == (2 : Int)))))))], mkH [(101, .var [.p (pi p.Kind), .p (pi p.Max), .p (pi p.Topic), .p (pi p.Objective), .p (pi p.Options), .p (pi p.Key)])]⟩) ?_
    refine lok_c (p.Kind == (2 : Int)) ?_ ?_
    · intro b_1
      replace H0 := cpos H0 b_1
      refine lok_rt E0 (⟨16, mkS [(2, .x (.one (.p (pi (IntKind.i64.wrap ((2 : Int) + p.Options))))))], mkH []⟩) ?_
      refine lok_ret ?_
      try obtain rfl := Option.some.inj H0
      try simp only [thenL, blockL]
      exact fin_au _ (.inr rfl) [] (⟨16, mkS [(2, .x (.one (.p (pi (IntKind.i64.wrap ((2 : Int) + p.Options))))))], mkH []⟩) rfl rfl imp_au
    · intro b_1
      replace H0 := cneg H0 b_1
      refine lok_skip ?_
      try simp only [thenL, blockL, ↓reduceIte, reduceCtorEq]
      refine lok_rt E0 (⟨16, mkS [(2, .x (.one (.p (pi (imin (IntKind.i64.wrap ((2 : Int) + p.Max)) (30 : Int))))))], mkH []⟩) ?_
      refine lok_ret ?_
      try obtain rfl := Option.some.inj H0
      try simp only [thenL, blockL]
      exact fin_au _ (.inr rfl) [] (⟨16, mkS [(2, .x (.one (.p (pi (imin (IntKind.i64.wrap ((2 : Int) + p.Max)) (30 : Int))))))], mkH []⟩) rfl rfl imp_au
theorem ok_ref12_Make (p : api_Paper) (r_ : api_Booklet × Int) (H0 : ref12_Make p = some r_) : CallOK Tryd.prog 17 [.agg [.p (pi p.Code), .p (pi p.Variant), .p (.sl 6 (List.map enc_api_Part p.Parts))]] [] [.agg [.p (.sl 1 (List.map encL_encI r_.1.Pages))], .one (.p (pi r_.2))] [] := by
  unfold ref12_Make at H0
  replace H0 := bind_some H0
  obtain ⟨ok, h1, H0⟩ := H0
  split at H0
  · rename_i hok
    subst hok
    replace H0 := bind_some H0
    obtain ⟨nds, h2, H0⟩ := H0
    split at H0
    · rename_i hx
      obtain ⟨x1, x2⟩ := hx
      obtain rfl := Option.some.inj H0
      obtain ⟨m1, m2⟩ := mapM_get ref12_Need p.Parts nds h2
      refine callOK_read Tryd.func17 rfl (by kernel_rfl) fun w S vs ht hs hr => ?_
      have hr0 := hr
      obtain ⟨v, rfl, rv⟩ := reps1 hr
      obtain ⟨va, rfl, rva⟩ := rv
      obtain ⟨a, b, c, hva, ra, rb, rc⟩ := reps3 rva
      subst hva
      have e1 := repC_val ra
      have e2 := repC_val rb
      subst e1 e2
      obtain ⟨ao, bb, o, cap, rfl, hao, hcell⟩ := six_of enc_api_Part (fun x j => match j with | 0 => .int .i64 x.Kind | 1 => .int .i64 x.Max | 2 => .int .i64 x.Topic | 3 => .int .i64 x.Objective | 4 => .int .i64 x.Options | _ => .int .i64 x.Key) (fun x => rfl) hs p.Parts (repC_p rc)
      have hlt : ∀ w1 : World, RowKit.Below w.heap.size w w1 → ∀ b o, S b o → b < w1.heap.size := fun w1 hb b o h => Nat.lt_of_lt_of_le (hs b o h) hb.size
      have hbel : ∀ w1 : World, w.Since w.heap.size w1 → RowKit.Below w.heap.size w w1 := fun w1 h => sinceBelow h
      have hnd : ∀ i, i < nds.length → 0 ≤ nds.getD i 0 ∧ nds.getD i 0 ≤ 30 := fun i hi => by
        rw [List.getD_eq_getElem?_getD, List.getElem?_eq_getElem hi]
        exact x2 _ (List.getElem_mem hi)
      have hmk := Tryd.make_walk p.Code p.Variant bb o cap (fun i j => match j with | 0 => .int .i64 (p.Parts.getD i default).Kind | 1 => .int .i64 (p.Parts.getD i default).Max | 2 => .int .i64 (p.Parts.getD i default).Topic | 3 => .int .i64 (p.Parts.getD i default).Objective | 4 => .int .i64 (p.Parts.getD i default).Options | _ => .int .i64 (p.Parts.getD i default).Key) nds w ao
        (fun h => hao (by omega)) (fun i hi j hj => by
          have hi' : i < p.Parts.length := by omega
          have := hcell i hi' j hj
          rw [List.getD_eq_getElem?_getD, List.getElem?_eq_getElem hi']
          exact this) (by omega) hnd
        (fun w1 h => by
          rw [m1]
          exact calls_of_ok Tryd.func37 rfl (by kernel_rfl) (ok_ref06_ValidPaper p true h1) w1 S _ (tabOK_below ht (hbel w1 h)) (hlt w1 (hbel w1 h)) (repLs_below (hbel w1 h) hs rfl hr0))
        (fun i hi w1 h => by
          have hi' : i < p.Parts.length := by omega
          have hg : p.Parts.getD i default = p.Parts[i] := by rw [List.getD_eq_getElem?_getD, List.getElem?_eq_getElem hi']; rfl
          rw [hg]
          have hn := m2 i hi' hi
          have hg2 : nds.getD i 0 = nds[i] := by rw [List.getD_eq_getElem?_getD, List.getElem?_eq_getElem hi]; rfl
          rw [hg2]
          exact calls_of_ok Tryd.func38 rfl (by kernel_rfl) (ok_ref12_Need p.Parts[i] nds[i] hn) w1 S _ (tabOK_below ht (hbel w1 h)) (hlt w1 (hbel w1 h)) (repLs_cons ⟨_, rfl, rep_six w1 S _ _ _ _ _ _⟩ repLs_nil))
      rw [m1] at hmk
      refine hmk.mono ?_
      rintro e w' ⟨H, hh, rfl, h, w1, hG⟩
      rw [m1]
      refine ⟨_, fun b o => S b o ∨ (w.heap.size ≤ b ∧ b < w'.heap.size), rfl, sinceBelow h, fun _ _ h => .inl h, fun b o h => h, _, rfl, repLs_cons ⟨_, rfl, rep_one (rep_grid hG (fun b o h1 h2 => .inr ⟨by omega, h2⟩))⟩ (repLs_cons (.p (.val _ rfl)) repLs_nil)⟩
    · cases H0
  · cases H0
set_option maxHeartbeats 4000000 in
theorem ok_make_Tape_Sitting (t : make_Tape) (n : Int) (r_ : api_Sitting × make_Tape) (H0 : make_Tape_Sitting t n = some r_) : CallOK Tryd.prog 6 [.one (.ptr 0 0), .one (.p (pi n))] [.var [.p (.sl 1 (List.map encI t.L)), .p (pi t.At)]] [.agg [.p (pi r_.1.Number), .p (.sl 3 (List.map enc_api_Paper r_.1.Papers)), .p (.sl 1 (List.map enc_api_Booklet r_.1.Booklets)), .p (.sl 3 (List.map enc_api_Expected r_.1.Expected))]] [some (.var [.p (.sl 1 (List.map encI r_.2.L)), .p (pi r_.2.At)])] := by
  refine callOK (n := 112) (rs := [.cell 4 31]) (nb := 1) (V := [0]) Tryd.func6 rfl (by kernel_rfl) rfl rfl rfl rfl (Nat.le_of_ble_eq_true rfl) (by decide) ?_
  unfold make_Tape_Sitting at H0
  refine lok_rt E0 (⟨112, mkS [(0, .x (.one (.ptr 0 0))), (1, .x (.one (.p (pi n)))), (4, .x (.one (.ptr 104 0)))], mkH [(0, .var [.p (.sl 1 (List.map encI t.L)), .p (pi t.At)]), (104, .var [.p (pi (0 : Int)), .p .nil, .p .nil, .p .nil])]⟩) ?_
  replace H0 := bind_some H0
  obtain ⟨⟨y, y1⟩, h_0, H0⟩ := H0
  try dsimp only at H0
  refine lok_rt (Env.of E0 [⟨some 12, 14, [.one (.ptr 0 0), .one (.p (pi (2 : Int)))], [.var [.p (.sl 1 (List.map encI t.L)), .p (pi t.At)]], [.one (.p (pi y))], [some (.var [.p (.sl 1 (List.map encI y1.L)), .p (pi y1.At)])], True, fun _ => ok_make_Tape_Next t (2 : Int) (y, y1) h_0, []⟩]) (⟨112, mkS [(0, .x (.one (.ptr 0 0))), (1, .x (.one (.p (pi n)))), (4, .x (.one (.ptr 104 0))), (5, .x (.one (.ptr 105 0)))], mkH [(0, .var [.p (.sl 1 (List.map encI y1.L)), .p (pi y1.At)]), (104, .var [.p (pi (0 : Int)), .p .nil, .p .nil, .p .nil]), (105, .var [.p (pi y), .p .nil, .p .nil, .p .nil])]⟩) ?_
  refine lok_join (fun x_ : (List Int) × Int × (List api_Paper) × (List api_Booklet) => make_Tape_Sitting_j5 n y x_.1 x_.2.1 x_.2.2.1 x_.2.2.2 = some r_) (fun x_ => ⟨112, mkS [(0, .x (.one (.ptr 0 0))), (1, .x (.one (.p (pi n)))), (4, .x (.one (.ptr 104 0))), (5, .x (.one (.ptr 105 0)))], mkH [(0, .var [.p (.sl 1 (List.map encI x_.1)), .p (pi x_.2.1)]), (104, .var [.p (pi (0 : Int)), .p .nil, .p .nil, .p .nil]), (105, .var [.p (pi y), .vw 134, .vw 139, .p .nil]), (134, .arr 3 (List.map enc_api_Paper x_.2.2.1)), (139, .arr 1 (List.map enc_api_Booklet x_.2.2.2))]⟩) ?hymake_Tape_Sitting_j5 ?hxmake_Tape_Sitting_j5
  case hymake_Tape_Sitting_j5 =>
    rintro ⟨t1, t2, w, w1⟩ H0
    try dsimp only at H0 ⊢
    unfold make_Tape_Sitting_j5 at H0
    refine lok_join (fun x_ : (List Int) × Int × (List api_Expected) => make_Tape_Sitting_j2 n y w w1 x_.1 x_.2.1 x_.2.2 = some r_) (fun x_ => ⟨112, mkS [(0, .x (.one (.ptr 0 0))), (1, .x (.one (.p (pi n)))), (4, .x (.one (.ptr 104 0))), (5, .x (.one (.ptr 105 0)))], mkH [(0, .var [.p (.sl 1 (List.map encI x_.1)), .p (pi x_.2.1)]), (104, .var [.p (pi (0 : Int)), .p .nil, .p .nil, .p .nil]), (105, .var [.p (pi y), .vw 134, .vw 139, .vw 161]), (134, .arr 3 (List.map enc_api_Paper w)), (139, .arr 1 (List.map enc_api_Booklet w1)), (161, .arr 3 (List.map enc_api_Expected x_.2.2))]⟩) ?hymake_Tape_Sitting_j2 ?hxmake_Tape_Sitting_j2
    case hymake_Tape_Sitting_j2 =>
      rintro ⟨t3, t4, w2⟩ H0
      try dsimp only at H0 ⊢
      unfold make_Tape_Sitting_j2 at H0
      refine lok_join (fun x_ : (List Int) × Int × Int × (List api_Paper) × (List api_Booklet) × (List api_Expected) => make_Tape_Sitting_j1 x_.1 x_.2.1 x_.2.2.1 x_.2.2.2.1 x_.2.2.2.2.1 x_.2.2.2.2.2 = some r_) (fun x_ => ⟨112, mkS [(4, .x (.one (.ptr 104 0))), (5, .x (.one (.ptr 105 0)))], mkH [(0, .var [.p (.sl 1 (List.map encI x_.1)), .p (pi x_.2.1)]), (104, .var [.p (pi (0 : Int)), .p .nil, .p .nil, .p .nil]), (105, .var [.p (pi x_.2.2.1), .vw 134, .vw 139, .vw 161]), (134, .arr 3 (List.map enc_api_Paper x_.2.2.2.1)), (139, .arr 1 (List.map enc_api_Booklet x_.2.2.2.2.1)), (161, .arr 3 (List.map enc_api_Expected x_.2.2.2.2.2))]⟩) ?hymake_Tape_Sitting_j1 ?hxmake_Tape_Sitting_j1
      case hymake_Tape_Sitting_j1 =>
        rintro ⟨t5, t6, s, w3, w4, w5⟩ H0
        try dsimp only at H0 ⊢
        unfold make_Tape_Sitting_j1 at H0
        refine lok_rt E0 (⟨112, mkS [(4, .x (.one (.ptr 104 0)))], mkH [(0, .var [.p (.sl 1 (List.map encI t5)), .p (pi t6)]), (104, .var [.p (pi s), .vw 134, .vw 139, .vw 161]), (134, .arr 3 (List.map enc_api_Paper w3)), (139, .arr 1 (List.map enc_api_Booklet w4)), (161, .arr 3 (List.map enc_api_Expected w5))]⟩) ?_
        refine lok_ret ?_
        try obtain rfl := Option.some.inj H0
        try simp only [thenL, blockL]
        exact fin_au _ (.inr rfl) [0] (⟨112, mkS [(4, .x (.one (.ptr 104 0)))], mkH [(0, .var [.p (.sl 1 (List.map encI t5)), .p (pi t6)]), (104, .var [.p (pi s), .p (.sl 3 (List.map enc_api_Paper w3)), .p (.sl 1 (List.map enc_api_Booklet w4)), .p (.sl 3 (List.map enc_api_Expected w5))])]⟩) rfl rfl (Imp.trans (imp_frz 134 3 (List.map enc_api_Paper w3)) (Imp.trans (imp_frz 139 1 (List.map enc_api_Booklet w4)) (Imp.trans (imp_frz 161 3 (List.map enc_api_Expected w5)) imp_au)))
      case hxmake_Tape_Sitting_j1 =>
        rcases bcases (decide ((0 : Int) < n)) with g_1_0 | g_1_0
        · replace H0 := cpos H0 g_1_0
          replace H0 := bind_some H0
          obtain ⟨⟨y2, y3⟩, h_1, H0⟩ := H0
          try dsimp only at H0
          refine lok_rtg (Env.of E0 [⟨some 68, 18, [.one (.ptr 0 0), .one (.p (pi n))], [.var [.p (.sl 1 (List.map encI t3)), .p (pi t4)]], [.one (.p (.val (.bool y2)))], [some (.var [.p (.sl 1 (List.map encI y3.L)), .p (pi y3.At)])], True, fun _ => ok_make_Tape_One (make_Tape.mk t3 t4) n (y2, y3) h_1, []⟩]) g_1_0 (⟨112, mkS [(0, .x (.one (.ptr 0 0))), (4, .x (.one (.ptr 104 0))), (5, .x (.one (.ptr 105 0))), (69, .x (.one (.p (.val (.bool y2)))))], mkH [(0, .var [.p (.sl 1 (List.map encI y3.L)), .p (pi y3.At)]), (104, .var [.p (pi (0 : Int)), .p .nil, .p .nil, .p .nil]), (105, .var [.p (pi y), .vw 134, .vw 139, .vw 161]), (134, .arr 3 (List.map enc_api_Paper w)), (139, .arr 1 (List.map enc_api_Booklet w1)), (161, .arr 3 (List.map enc_api_Expected w2))]⟩) ?_
          refine lok_c y2 ?_ ?_
          · intro b_16
            replace H0 := cpos H0 b_16
            replace H0 := bind_some H0
            obtain ⟨⟨y4, y5⟩, h_2, H0⟩ := H0
            try dsimp only at H0
            refine lok_rt (Env.of E0 [⟨some 71, 14, [.one (.ptr 0 0), .one (.p (pi (5 : Int)))], [.var [.p (.sl 1 (List.map encI y3.L)), .p (pi y3.At)]], [.one (.p (pi y4))], [some (.var [.p (.sl 1 (List.map encI y5.L)), .p (pi y5.At)])], True, fun _ => ok_make_Tape_Next y3 (5 : Int) (y4, y5) h_2, []⟩]) (⟨112, mkS [(0, .x (.one (.ptr 0 0))), (4, .x (.one (.ptr 104 0))), (5, .x (.one (.ptr 105 0))), (71, .x (.one (.p (pi y4))))], mkH [(0, .var [.p (.sl 1 (List.map encI y5.L)), .p (pi y5.At)]), (104, .var [.p (pi (0 : Int)), .p .nil, .p .nil, .p .nil]), (105, .var [.p (pi y), .vw 134, .vw 139, .vw 161]), (134, .arr 3 (List.map enc_api_Paper w)), (139, .arr 1 (List.map enc_api_Booklet w1)), (161, .arr 3 (List.map enc_api_Expected w2))]⟩) ?_
            refine lok_block ?_
            refine lok_rt E0 (⟨112, mkS [(0, .x (.one (.ptr 0 0))), (4, .x (.one (.ptr 104 0))), (5, .x (.one (.ptr 105 0))), (71, .x (.one (.p (pi y4)))), (73, .x (.one (.p (.val (.bool (y4 == (0 : Int)))))))], mkH [(0, .var [.p (.sl 1 (List.map encI y5.L)), .p (pi y5.At)]), (104, .var [.p (pi (0 : Int)), .p .nil, .p .nil, .p .nil]), (105, .var [.p (pi y), .vw 134, .vw 139, .vw 161]), (134, .arr 3 (List.map enc_api_Paper w)), (139, .arr 1 (List.map enc_api_Booklet w1)), (161, .arr 3 (List.map enc_api_Expected w2))]⟩) ?_
            refine lok_c (y4 == (0 : Int)) ?_ ?_
            · intro b_15
              replace H0 := cpos H0 b_15
              replace H0 := bind_some H0
              obtain ⟨⟨y6, y7⟩, h_3, H0⟩ := H0
              try dsimp only at H0
              refine lok_rl (Env.of E0 [⟨some 77, 19, [.one (.ptr 0 0), .one (.p (.sl 1 (List.map encI ([(-1 : Int), (0 : Int), (1 : Int), (31 : Int), (32 : Int)]))))], [.var [.p (.sl 1 (List.map encI y5.L)), .p (pi y5.At)]], [.one (.p (pi y6))], [some (.var [.p (.sl 1 (List.map encI y7.L)), .p (pi y7.At)])], True, fun _ => ok_make_Tape_Pick y5 ([(-1 : Int), (0 : Int), (1 : Int), (31 : Int), (32 : Int)]) (y6, y7) h_3, []⟩]) (⟨112, mkS [(4, .x (.one (.ptr 104 0))), (5, .x (.one (.ptr 105 0)))], mkH [(0, .var [.p (.sl 1 (List.map encI y7.L)), .p (pi y7.At)]), (104, .var [.p (pi (0 : Int)), .p .nil, .p .nil, .p .nil]), (105, .var [.p (pi y6), .vw 134, .vw 139, .vw 161]), (134, .arr 3 (List.map enc_api_Paper w)), (139, .arr 1 (List.map enc_api_Booklet w1)), (161, .arr 3 (List.map enc_api_Expected w2))]⟩) ?_
              try simp only [thenL, blockL, ↓reduceIte, reduceCtorEq]
              exact ⟨(y7.L, y7.At, y6, w, w1, w2), H0, imp_au⟩
            · intro b_15
              replace H0 := cneg H0 b_15
              refine lok_rt E0 (⟨112, mkS [(0, .x (.one (.ptr 0 0))), (4, .x (.one (.ptr 104 0))), (5, .x (.one (.ptr 105 0))), (71, .x (.one (.p (pi y4)))), (79, .x (.one (.p (.val (.bool (y4 == (1 : Int)))))))], mkH [(0, .var [.p (.sl 1 (List.map encI y5.L)), .p (pi y5.At)]), (104, .var [.p (pi (0 : Int)), .p .nil, .p .nil, .p .nil]), (105, .var [.p (pi y), .vw 134, .vw 139, .vw 161]), (134, .arr 3 (List.map enc_api_Paper w)), (139, .arr 1 (List.map enc_api_Booklet w1)), (161, .arr 3 (List.map enc_api_Expected w2))]⟩) ?_
              refine lok_c (y4 == (1 : Int)) ?_ ?_
              · intro b_14
                replace H0 := cpos H0 b_14
                replace H0 := req_some H0
                obtain ⟨q_4, H0⟩ := H0
                refine lok_rl E0 (⟨112, mkS [(4, .x (.one (.ptr 104 0))), (5, .x (.one (.ptr 105 0)))], mkH [(0, .var [.p (.sl 1 (List.map encI y5.L)), .p (pi y5.At)]), (104, .var [.p (pi (0 : Int)), .p .nil, .p .nil, .p .nil]), (105, .var [.p (pi y), .vw 134, .vw 139, .vw 161]), (134, .arr 3 (List.map enc_api_Paper w)), (139, .arr 1 (List.map enc_api_Booklet (w1 ++ [(api_Booklet.mk ([] : List (List Int)))]))), (161, .arr 3 (List.map enc_api_Expected w2))]⟩) ?_
                try simp only [thenL, blockL, ↓reduceIte, reduceCtorEq]
                exact ⟨(y5.L, y5.At, y, w, (w1 ++ [(api_Booklet.mk ([] : List (List Int)))]), w2), H0, imp_au⟩
              · intro b_14
                replace H0 := cneg H0 b_14
                refine lok_rt E0 (⟨112, mkS [(0, .x (.one (.ptr 0 0))), (4, .x (.one (.ptr 104 0))), (5, .x (.one (.ptr 105 0))), (71, .x (.one (.p (pi y4)))), (87, .x (.one (.p (.val (.bool (y4 == (2 : Int)))))))], mkH [(0, .var [.p (.sl 1 (List.map encI y5.L)), .p (pi y5.At)]), (104, .var [.p (pi (0 : Int)), .p .nil, .p .nil, .p .nil]), (105, .var [.p (pi y), .vw 134, .vw 139, .vw 161]), (134, .arr 3 (List.map enc_api_Paper w)), (139, .arr 1 (List.map enc_api_Booklet w1)), (161, .arr 3 (List.map enc_api_Expected w2))]⟩) ?_
                refine lok_c (y4 == (2 : Int)) ?_ ?_
                · intro b_13
                  replace H0 := cpos H0 b_13
                  replace H0 := bind_some H0
                  obtain ⟨⟨y8, y9⟩, h_5, H0⟩ := H0
                  try dsimp only at H0
                  replace H0 := bind_some H0
                  obtain ⟨⟨y10, y11⟩, h_6, H0⟩ := H0
                  try dsimp only at H0
                  replace H0 := bind_some H0
                  obtain ⟨⟨y12, y13⟩, h_7, H0⟩ := H0
                  try dsimp only at H0
                  replace H0 := req_some H0
                  obtain ⟨q_8, H0⟩ := H0
                  refine lok_el (Env.of E0 [⟨some 93, 19, [.one (.ptr 0 0), .one (.p (.sl 1 (List.map encI ([(0 : Int), (9999 : Int), (10000 : Int), (-1 : Int)]))))], [.var [.p (.sl 1 (List.map encI y5.L)), .p (pi y5.At)]], [.one (.p (pi y8))], [some (.var [.p (.sl 1 (List.map encI y9.L)), .p (pi y9.At)])], True, fun _ => ok_make_Tape_Pick y5 ([(0 : Int), (9999 : Int), (10000 : Int), (-1 : Int)]) (y8, y9) h_5, []⟩,
      ⟨some 96, 19, [.one (.ptr 0 0), .one (.p (.sl 1 (List.map encI ([(0 : Int), (1 : Int), (99 : Int), (100 : Int)]))))], [.var [.p (.sl 1 (List.map encI y9.L)), .p (pi y9.At)]], [.one (.p (pi y10))], [some (.var [.p (.sl 1 (List.map encI y11.L)), .p (pi y11.At)])], True, fun _ => ok_make_Tape_Pick y9 ([(0 : Int), (1 : Int), (99 : Int), (100 : Int)]) (y10, y11) h_6, []⟩,
      ⟨some 98, 15, [.one (.ptr 0 0), .one (.p (pi (-1 : Int))), .one (.p (pi (2 : Int)))], [.var [.p (.sl 1 (List.map encI y11.L)), .p (pi y11.At)]], [.one (.p (pi y12))], [some (.var [.p (.sl 1 (List.map encI y13.L)), .p (pi y13.At)])], True, fun _ => ok_make_Tape_Range y11 (-1 : Int) (2 : Int) (y12, y13) h_7, []⟩]) 112 [⟨[(5, .x (.one (.ptr 105 0)))], [], [(89, .x (.one (.ptr 105 3)))], [], none⟩,
      ⟨[(89, .x (.one (.ptr 105 3)))], [(105, some (.var [.p (pi y), .vw 134, .vw 139, .vw 161]))], [(90, .x (.one (.vw 161)))], [], none⟩,
      ⟨[(0, .x (.one (.ptr 0 0)))], [], [(91, .x (.one (.ptr 0 0)))], [], none⟩,
      ⟨[], [], [(92, .x (.one (.fl 1 (List.map encI ([(0 : Int), (9999 : Int), (10000 : Int), (-1 : Int)])))))], [], none⟩,
      ⟨[(91, .x (.one (.ptr 0 0))), (92, .x (.one (.fl 1 (List.map encI ([(0 : Int), (9999 : Int), (10000 : Int), (-1 : Int)])))))], [(0, some (.var [.p (.sl 1 (List.map encI y5.L)), .p (pi y5.At)]))], [(93, .x (.one (.p (pi y8))))], [(0, some (.var [.p (.sl 1 (List.map encI y9.L)), .p (pi y9.At)]))], none⟩,
      ⟨[(0, .x (.one (.ptr 0 0)))], [], [(94, .x (.one (.ptr 0 0)))], [], none⟩,
      ⟨[], [], [(95, .x (.one (.fl 1 (List.map encI ([(0 : Int), (1 : Int), (99 : Int), (100 : Int)])))))], [], none⟩,
      ⟨[(94, .x (.one (.ptr 0 0))), (95, .x (.one (.fl 1 (List.map encI ([(0 : Int), (1 : Int), (99 : Int), (100 : Int)])))))], [(0, some (.var [.p (.sl 1 (List.map encI y9.L)), .p (pi y9.At)]))], [(96, .x (.one (.p (pi y10))))], [(0, some (.var [.p (.sl 1 (List.map encI y11.L)), .p (pi y11.At)]))], none⟩,
      ⟨[(0, .x (.one (.ptr 0 0)))], [], [(97, .x (.one (.ptr 0 0)))], [], none⟩,
      ⟨[(97, .x (.one (.ptr 0 0)))], [(0, some (.var [.p (.sl 1 (List.map encI y11.L)), .p (pi y11.At)]))], [(98, .x (.one (.p (pi y12))))], [(0, some (.var [.p (.sl 1 (List.map encI y13.L)), .p (pi y13.At)]))], none⟩,
      ⟨[(93, .x (.one (.p (pi y8)))), (96, .x (.one (.p (pi y10)))), (98, .x (.one (.p (pi y12))))], [], [(99, .x (.agg [.p (pi y8), .p (pi y10), .p (pi y12)]))], [], none⟩,
      ⟨[(99, .x (.agg [.p (pi y8), .p (pi y10), .p (pi y12)]))], [], [(100, .x (.one (.fl 3 (List.map enc_api_Expected ([(api_Expected.mk y8 y10 y12)])))))], [], none⟩] (⟨112, mkS [(4, .x (.one (.ptr 104 0))), (5, .x (.one (.ptr 105 0)))], mkH [(0, .var [.p (.sl 1 (List.map encI y13.L)), .p (pi y13.At)]), (104, .var [.p (pi (0 : Int)), .p .nil, .p .nil, .p .nil]), (105, .var [.p (pi y), .vw 134, .vw 139, .vw 161]), (134, .arr 3 (List.map enc_api_Paper w)), (139, .arr 1 (List.map enc_api_Booklet w1)), (161, .arr 3 (List.map enc_api_Expected (w2 ++ [(api_Expected.mk y8 y10 y12)])))]⟩) (by kernel_rfl) (by kernel_rfl) (by kernel_rfl) rfl rfl rfl ?_
                  try simp only [thenL, blockL, ↓reduceIte, reduceCtorEq]
                  exact ⟨(y13.L, y13.At, y, w, w1, (w2 ++ [(api_Expected.mk y8 y10 y12)])), H0, imp_au⟩
                · intro b_13
                  replace H0 := cneg H0 b_13
                  refine lok_rt E0 (⟨112, mkS [(0, .x (.one (.ptr 0 0))), (4, .x (.one (.ptr 104 0))), (5, .x (.one (.ptr 105 0))), (103, .x (.one (.p (.val (.bool (y4 == (3 : Int)))))))], mkH [(0, .var [.p (.sl 1 (List.map encI y5.L)), .p (pi y5.At)]), (104, .var [.p (pi (0 : Int)), .p .nil, .p .nil, .p .nil]), (105, .var [.p (pi y), .vw 134, .vw 139, .vw 161]), (134, .arr 3 (List.map enc_api_Paper w)), (139, .arr 1 (List.map enc_api_Booklet w1)), (161, .arr 3 (List.map enc_api_Expected w2))]⟩) ?_
                  refine lok_c (y4 == (3 : Int)) ?_ ?_
                  · intro b_12
                    replace H0 := cpos H0 b_12
                    replace H0 := bind_some H0
                    obtain ⟨⟨y14, y15⟩, h_9, H0⟩ := H0
                    try dsimp only at H0
                    replace H0 := req_some H0
                    obtain ⟨q_11, H0⟩ := H0
                    replace H0 := bindV_some H0
                    obtain ⟨w6, a_10, H0⟩ := H0
                    refine lok_elg (Env.of E0 [⟨some 108, 14, [.one (.ptr 0 0), .one (.p (pi (3 : Int)))], [.var [.p (.sl 1 (List.map encI y5.L)), .p (pi y5.At)]], [.one (.p (pi y14))], [some (.var [.p (.sl 1 (List.map encI y15.L)), .p (pi y15.At)])], True, fun _ => ok_make_Tape_Next y5 (3 : Int) (y14, y15) h_9, []⟩]) 112 [⟨[(5, .x (.one (.ptr 105 0)))], [], [(105, .x (.one (.ptr 105 1)))], [], none⟩,
      ⟨[(105, .x (.one (.ptr 105 1)))], [(105, some (.var [.p (pi y), .vw 134, .vw 139, .vw 161]))], [(106, .x (.one (.vw 134)))], [], none⟩,
      ⟨[(0, .x (.one (.ptr 0 0)))], [], [(107, .x (.one (.ptr 0 0)))], [], none⟩,
      ⟨[(107, .x (.one (.ptr 0 0)))], [(0, some (.var [.p (.sl 1 (List.map encI y5.L)), .p (pi y5.At)]))], [(108, .x (.one (.p (pi y14))))], [(0, some (.var [.p (.sl 1 (List.map encI y15.L)), .p (pi y15.At)]))], none⟩] a_10 (⟨112, mkS [(4, .x (.one (.ptr 104 0))), (5, .x (.one (.ptr 105 0)))], mkH [(0, .var [.p (.sl 1 (List.map encI y15.L)), .p (pi y15.At)]), (104, .var [.p (pi (0 : Int)), .p .nil, .p .nil, .p .nil]), (105, .var [.p (pi y), .vw 134, .vw 139, .vw 161]), (134, .arr 3 (List.map enc_api_Paper w6)), (139, .arr 1 (List.map enc_api_Booklet w1)), (161, .arr 3 (List.map enc_api_Expected w2))]⟩) (by kernel_rfl) (by kernel_rfl) (by kernel_rfl) rfl rfl rfl ?_
                    try simp only [thenL, blockL, ↓reduceIte, reduceCtorEq]
                    exact ⟨(y15.L, y15.At, y, w6, w1, w2), H0, imp_au⟩
                  · intro b_12
                    replace H0 := cneg H0 b_12
                    refine lok_rl E0 (⟨112, mkS [(4, .x (.one (.ptr 104 0))), (5, .x (.one (.ptr 105 0)))], mkH [(0, .var [.p (.sl 1 (List.map encI y5.L)), .p (pi y5.At)]), (104, .var [.p (pi (0 : Int)), .p .nil, .p .nil, .p .nil]), (105, .var [.p (pi y), .p .nil, .vw 139, .vw 161]), (139, .arr 1 (List.map enc_api_Booklet w1)), (161, .arr 3 (List.map enc_api_Expected w2))]⟩) ?_
                    try simp only [thenL, blockL, ↓reduceIte, reduceCtorEq]
                    exact ⟨(y5.L, y5.At, y, ([] : List api_Paper), w1, w2), H0, imp_au⟩
          · intro b_16
            replace H0 := cneg H0 b_16
            refine lok_skip ?_
            try simp only [thenL, blockL, ↓reduceIte, reduceCtorEq]
            exact ⟨(y3.L, y3.At, y, w, w1, w2), H0, imp_au⟩
        · replace H0 := cneg H0 g_1_0
          refine lok_rtg E0 g_1_0 (⟨112, mkS [(0, .x (.one (.ptr 0 0))), (4, .x (.one (.ptr 104 0))), (5, .x (.one (.ptr 105 0))), (69, .x (.one (.p (.val (.bool false)))))], mkH [(0, .var [.p (.sl 1 (List.map encI t3)), .p (pi t4)]), (104, .var [.p (pi (0 : Int)), .p .nil, .p .nil, .p .nil]), (105, .var [.p (pi y), .vw 134, .vw 139, .vw 161]), (134, .arr 3 (List.map enc_api_Paper w)), (139, .arr 1 (List.map enc_api_Booklet w1)), (161, .arr 3 (List.map enc_api_Expected w2))]⟩) ?_
          refine lok_c false ?_ ?_
          · intro h; exact absurd h (by decide)
          · intro _
            refine lok_skip ?_
            try simp only [thenL, blockL, ↓reduceIte, reduceCtorEq]
            exact ⟨(t3, t4, y, w, w1, w2), H0, imp_au⟩
    case hxmake_Tape_Sitting_j2 =>
      refine lok_rt E0 (⟨112, mkS [(0, .x (.one (.ptr 0 0))), (1, .x (.one (.p (pi n)))), (4, .x (.one (.ptr 104 0))), (5, .x (.one (.ptr 105 0))), (10, .x (.one (.p (pi (0 : Int)))))], mkH [(0, .var [.p (.sl 1 (List.map encI t1)), .p (pi t2)]), (104, .var [.p (pi (0 : Int)), .p .nil, .p .nil, .p .nil]), (105, .var [.p (pi y), .vw 134, .vw 139, .p .nil]), (134, .arr 3 (List.map enc_api_Paper w)), (139, .arr 1 (List.map enc_api_Booklet w1))]⟩) ?_
      refine lok_block ?_
      replace H0 := bind_some H0
      obtain ⟨v_16, hv_16, H0⟩ := H0
      refine lok_iter (fun x_ => ⟨112, mkS [(0, .x (.one (.ptr 0 0))), (1, .x (.one (.p (pi n)))), (4, .x (.one (.ptr 104 0))), (5, .x (.one (.ptr 105 0))), (10, .x (.one (.p (pi x_.1))))], mkH [(0, .var [.p (.sl 1 (List.map encI x_.2.1)), .p (pi x_.2.2.1)]), (104, .var [.p (pi (0 : Int)), .p .nil, .p .nil, .p .nil]), (105, .var [.p (pi y), .vw 134, .vw 139, .vw 161]), (134, .arr 3 (List.map enc_api_Paper w)), (139, .arr 1 (List.map enc_api_Booklet w1)), (161, .arr 3 (List.map enc_api_Expected x_.2.2.2))]⟩) hv_16 imp_au ?_
      · rintro ⟨i, t7, t8, w7⟩ o_1 H1 k_1
        unfold make_Tape_Sitting_l4 at H1
        try dsimp only at H1 ⊢
        refine lok_seq ?_
        refine lok_rt E0 (⟨112, mkS [(0, .x (.one (.ptr 0 0))), (1, .x (.one (.p (pi n)))), (4, .x (.one (.ptr 104 0))), (5, .x (.one (.ptr 105 0))), (10, .x (.one (.p (pi i)))), (43, .x (.one (.p (.val (.bool (decide (i < (4 : Int))))))))], mkH [(0, .var [.p (.sl 1 (List.map encI t7)), .p (pi t8)]), (104, .var [.p (pi (0 : Int)), .p .nil, .p .nil, .p .nil]), (105, .var [.p (pi y), .vw 134, .vw 139, .vw 161]), (134, .arr 3 (List.map enc_api_Paper w)), (139, .arr 1 (List.map enc_api_Booklet w1)), (161, .arr 3 (List.map enc_api_Expected w7))]⟩) ?_
        refine lok_c (decide (i < (4 : Int))) ?_ ?_
        · intro b_22
          replace H1 := cpos H1 b_22
          refine lok_skip ?_
          try simp only [thenL, blockL, ↓reduceIte, reduceCtorEq]
          refine lok_join (fun x_ : (List Int) × Int × (List api_Expected) => make_Tape_Sitting_j3 i x_.1 x_.2.1 x_.2.2 = some o_1) (fun x_ => ⟨112, mkS [(0, .x (.one (.ptr 0 0))), (1, .x (.one (.p (pi n)))), (4, .x (.one (.ptr 104 0))), (5, .x (.one (.ptr 105 0))), (10, .x (.one (.p (pi i))))], mkH [(0, .var [.p (.sl 1 (List.map encI x_.1)), .p (pi x_.2.1)]), (104, .var [.p (pi (0 : Int)), .p .nil, .p .nil, .p .nil]), (105, .var [.p (pi y), .vw 134, .vw 139, .vw 161]), (134, .arr 3 (List.map enc_api_Paper w)), (139, .arr 1 (List.map enc_api_Booklet w1)), (161, .arr 3 (List.map enc_api_Expected x_.2.2))]⟩) ?hymake_Tape_Sitting_j3 ?hxmake_Tape_Sitting_j3
          case hymake_Tape_Sitting_j3 =>
            rintro ⟨t11, t12, w9⟩ H1
            try dsimp only at H1 ⊢
            unfold make_Tape_Sitting_j3 at H1
            refine lok_rl E0 (⟨112, mkS [(0, .x (.one (.ptr 0 0))), (1, .x (.one (.p (pi n)))), (4, .x (.one (.ptr 104 0))), (5, .x (.one (.ptr 105 0))), (10, .x (.one (.p (pi (IntKind.i64.wrap (i + (1 : Int)))))))], mkH [(0, .var [.p (.sl 1 (List.map encI t11)), .p (pi t12)]), (104, .var [.p (pi (0 : Int)), .p .nil, .p .nil, .p .nil]), (105, .var [.p (pi y), .vw 134, .vw 139, .vw 161]), (134, .arr 3 (List.map enc_api_Paper w)), (139, .arr 1 (List.map enc_api_Booklet w1)), (161, .arr 3 (List.map enc_api_Expected w9))]⟩) ?_
            try simp only [thenL, blockL, ↓reduceIte, reduceCtorEq]
            exact ⟨((IntKind.i64.wrap (i + (1 : Int))), t11, t12, w9), (Option.some.inj H1).symm, imp_au⟩
          case hxmake_Tape_Sitting_j3 =>
            refine lok_block ?_
            replace H1 := bind_some H1
            obtain ⟨⟨y16, y17⟩, h_17, H1⟩ := H1
            try dsimp only at H1
            refine lok_rt (Env.of E0 [⟨some 47, 14, [.one (.ptr 0 0), .one (.p (pi (4 : Int)))], [.var [.p (.sl 1 (List.map encI t7)), .p (pi t8)]], [.one (.p (pi y16))], [some (.var [.p (.sl 1 (List.map encI y17.L)), .p (pi y17.At)])], True, fun _ => ok_make_Tape_Next (make_Tape.mk t7 t8) (4 : Int) (y16, y17) h_17, []⟩]) (⟨112, mkS [(0, .x (.one (.ptr 0 0))), (1, .x (.one (.p (pi n)))), (4, .x (.one (.ptr 104 0))), (5, .x (.one (.ptr 105 0))), (10, .x (.one (.p (pi i)))), (48, .x (.one (.p (.val (.bool (decide ((0 : Int) < y16)))))))], mkH [(0, .var [.p (.sl 1 (List.map encI y17.L)), .p (pi y17.At)]), (104, .var [.p (pi (0 : Int)), .p .nil, .p .nil, .p .nil]), (105, .var [.p (pi y), .vw 134, .vw 139, .vw 161]), (134, .arr 3 (List.map enc_api_Paper w)), (139, .arr 1 (List.map enc_api_Booklet w1)), (161, .arr 3 (List.map enc_api_Expected w7))]⟩) ?_
            refine lok_c (decide ((0 : Int) < y16)) ?_ ?_
            · intro b_21
              replace H1 := cpos H1 b_21
              replace H1 := bind_some H1
              obtain ⟨⟨y18, y19⟩, h_18, H1⟩ := H1
              try dsimp only at H1
              replace H1 := bind_some H1
              obtain ⟨⟨y20, y21⟩, h_19, H1⟩ := H1
              try dsimp only at H1
              replace H1 := req_some H1
              obtain ⟨q_20, H1⟩ := H1
              refine lok_el (Env.of E0 [⟨some 53, 15, [.one (.ptr 0 0), .one (.p (pi (1 : Int))), .one (.p (pi (2 : Int)))], [.var [.p (.sl 1 (List.map encI y17.L)), .p (pi y17.At)]], [.one (.p (pi y18))], [some (.var [.p (.sl 1 (List.map encI y19.L)), .p (pi y19.At)])], True, fun _ => ok_make_Tape_Range y17 (1 : Int) (2 : Int) (y18, y19) h_18, []⟩,
      ⟨some 58, 14, [.one (.ptr 0 0), .one (.p (pi (w.length : Int)))], [.var [.p (.sl 1 (List.map encI y19.L)), .p (pi y19.At)]], [.one (.p (pi y20))], [some (.var [.p (.sl 1 (List.map encI y21.L)), .p (pi y21.At)])], True, fun _ => ok_make_Tape_Next y19 (w.length : Int) (y20, y21) h_19, []⟩]) 112 [⟨[(5, .x (.one (.ptr 105 0)))], [], [(49, .x (.one (.ptr 105 3)))], [], none⟩,
      ⟨[(49, .x (.one (.ptr 105 3)))], [(105, some (.var [.p (pi y), .vw 134, .vw 139, .vw 161]))], [(50, .x (.one (.vw 161)))], [], none⟩,
      ⟨[(10, .x (.one (.p (pi i))))], [], [(51, .x (.one (.p (pi i))))], [], none⟩,
      ⟨[(0, .x (.one (.ptr 0 0)))], [], [(52, .x (.one (.ptr 0 0)))], [], none⟩,
      ⟨[(52, .x (.one (.ptr 0 0)))], [(0, some (.var [.p (.sl 1 (List.map encI y17.L)), .p (pi y17.At)]))], [(53, .x (.one (.p (pi y18))))], [(0, some (.var [.p (.sl 1 (List.map encI y19.L)), .p (pi y19.At)]))], none⟩,
      ⟨[(0, .x (.one (.ptr 0 0)))], [], [(54, .x (.one (.ptr 0 0)))], [], none⟩,
      ⟨[(5, .x (.one (.ptr 105 0)))], [], [(55, .x (.one (.ptr 105 1)))], [], none⟩,
      ⟨[(55, .x (.one (.ptr 105 1)))], [(105, some (.var [.p (pi y), .vw 134, .vw 139, .vw 161]))], [(56, .x (.one (.vw 134)))], [], none⟩,
      ⟨[(56, .x (.one (.vw 134)))], [(134, some (.arr 3 (List.map enc_api_Paper w)))], [(57, .x (.one (.p (pi (w.length : Int)))))], [], none⟩,
      ⟨[(54, .x (.one (.ptr 0 0))), (57, .x (.one (.p (pi (w.length : Int)))))], [(0, some (.var [.p (.sl 1 (List.map encI y19.L)), .p (pi y19.At)]))], [(58, .x (.one (.p (pi y20))))], [(0, some (.var [.p (.sl 1 (List.map encI y21.L)), .p (pi y21.At)]))], none⟩,
      ⟨[(51, .x (.one (.p (pi i)))), (53, .x (.one (.p (pi y18)))), (58, .x (.one (.p (pi y20))))], [], [(59, .x (.agg [.p (pi i), .p (pi y18), .p (pi y20)]))], [], none⟩,
      ⟨[(59, .x (.agg [.p (pi i), .p (pi y18), .p (pi y20)]))], [], [(60, .x (.one (.fl 3 (List.map enc_api_Expected ([(api_Expected.mk i y18 y20)])))))], [], none⟩] (⟨112, mkS [(0, .x (.one (.ptr 0 0))), (1, .x (.one (.p (pi n)))), (4, .x (.one (.ptr 104 0))), (5, .x (.one (.ptr 105 0))), (10, .x (.one (.p (pi i))))], mkH [(0, .var [.p (.sl 1 (List.map encI y21.L)), .p (pi y21.At)]), (104, .var [.p (pi (0 : Int)), .p .nil, .p .nil, .p .nil]), (105, .var [.p (pi y), .vw 134, .vw 139, .vw 161]), (134, .arr 3 (List.map enc_api_Paper w)), (139, .arr 1 (List.map enc_api_Booklet w1)), (161, .arr 3 (List.map enc_api_Expected (w7 ++ [(api_Expected.mk i y18 y20)])))]⟩) (by kernel_rfl) (by kernel_rfl) (by kernel_rfl) rfl rfl rfl ?_
              try simp only [thenL, blockL, ↓reduceIte, reduceCtorEq]
              exact ⟨(y21.L, y21.At, (w7 ++ [(api_Expected.mk i y18 y20)])), H1, imp_au⟩
            · intro b_21
              replace H1 := cneg H1 b_21
              refine lok_skip ?_
              try simp only [thenL, blockL, ↓reduceIte, reduceCtorEq]
              exact ⟨(y17.L, y17.At, w7), H1, imp_au⟩
        · intro b_22
          replace H1 := cneg H1 b_22
          refine lok_exit ?_
          try simp only [thenL, blockL, ↓reduceIte, reduceCtorEq]
          have e_1 := k_1 _ (Option.some.inj H1).symm
          subst e_1
          try dsimp only at H0
          try simp only [thenL, blockL, ↓reduceIte, reduceCtorEq]
          exact ⟨(t7, t8, w7), H0, imp_au⟩
  case hxmake_Tape_Sitting_j5 =>
    refine lok_rt E0 (⟨112, mkS [(0, .x (.one (.ptr 0 0))), (1, .x (.one (.p (pi n)))), (4, .x (.one (.ptr 104 0))), (5, .x (.one (.ptr 105 0))), (6, .x (.one (.p (pi (0 : Int)))))], mkH [(0, .var [.p (.sl 1 (List.map encI y1.L)), .p (pi y1.At)]), (104, .var [.p (pi (0 : Int)), .p .nil, .p .nil, .p .nil]), (105, .var [.p (pi y), .p .nil, .p .nil, .p .nil])]⟩) ?_
    refine lok_block ?_
    replace H0 := bind_some H0
    obtain ⟨v_23, hv_23, H0⟩ := H0
    refine lok_iter (fun x_ => ⟨112, mkS [(0, .x (.one (.ptr 0 0))), (1, .x (.one (.p (pi n)))), (4, .x (.one (.ptr 104 0))), (5, .x (.one (.ptr 105 0))), (6, .x (.one (.p (pi x_.1))))], mkH [(0, .var [.p (.sl 1 (List.map encI x_.2.1)), .p (pi x_.2.2.1)]), (104, .var [.p (pi (0 : Int)), .p .nil, .p .nil, .p .nil]), (105, .var [.p (pi y), .vw 134, .vw 139, .p .nil]), (134, .arr 3 (List.map enc_api_Paper x_.2.2.2.1)), (139, .arr 1 (List.map enc_api_Booklet x_.2.2.2.2))]⟩) hv_23 imp_au ?_
    · rintro ⟨v, t13, t14, w10, w11⟩ o_1 H1 k_1
      unfold make_Tape_Sitting_l6 at H1
      try dsimp only at H1 ⊢
      refine lok_seq ?_
      replace H1 := bind_some H1
      obtain ⟨⟨y22, y23⟩, h_24, H1⟩ := H1
      try dsimp only at H1
      refine lok_rt (Env.of E0 [⟨some 16, 15, [.one (.ptr 0 0), .one (.p (pi (1 : Int))), .one (.p (pi (2 : Int)))], [.var [.p (.sl 1 (List.map encI t13)), .p (pi t14)]], [.one (.p (pi y22))], [some (.var [.p (.sl 1 (List.map encI y23.L)), .p (pi y23.At)])], True, fun _ => ok_make_Tape_Range (make_Tape.mk t13 t14) (1 : Int) (2 : Int) (y22, y23) h_24, []⟩]) (⟨112, mkS [(0, .x (.one (.ptr 0 0))), (1, .x (.one (.p (pi n)))), (4, .x (.one (.ptr 104 0))), (5, .x (.one (.ptr 105 0))), (6, .x (.one (.p (pi v)))), (17, .x (.one (.p (.val (.bool (decide (v < y22)))))))], mkH [(0, .var [.p (.sl 1 (List.map encI y23.L)), .p (pi y23.At)]), (104, .var [.p (pi (0 : Int)), .p .nil, .p .nil, .p .nil]), (105, .var [.p (pi y), .vw 134, .vw 139, .p .nil]), (134, .arr 3 (List.map enc_api_Paper w10)), (139, .arr 1 (List.map enc_api_Booklet w11))]⟩) ?_
      refine lok_c (decide (v < y22)) ?_ ?_
      · intro b_29
        replace H1 := cpos H1 b_29
        refine lok_skip ?_
        try simp only [thenL, blockL, ↓reduceIte, reduceCtorEq]
        refine lok_seq ?_
        refine lok_block ?_
        replace H1 := bind_some H1
        obtain ⟨⟨y24, y25⟩, h_25, H1⟩ := H1
        try dsimp only at H1
        refine lok_rt (Env.of E0 [⟨some 24, 16, [.one (.ptr 0 0), .one (.p (pi y)), .one (.p (pi v))], [.var [.p (.sl 1 (List.map encI y23.L)), .p (pi y23.At)]], [.agg [.p (pi y24.Code), .p (pi y24.Variant), .p (.sl 6 (List.map enc_api_Part y24.Parts))]], [some (.var [.p (.sl 1 (List.map encI y25.L)), .p (pi y25.At)])], True, fun _ => ok_make_Tape_Paper y23 y v (y24, y25) h_25, []⟩]) (⟨112, mkS [(0, .x (.one (.ptr 0 0))), (1, .x (.one (.p (pi n)))), (4, .x (.one (.ptr 104 0))), (5, .x (.one (.ptr 105 0))), (6, .x (.one (.p (pi v)))), (7, .x (.one (.ptr 107 0)))], mkH [(0, .var [.p (.sl 1 (List.map encI y25.L)), .p (pi y25.At)]), (104, .var [.p (pi (0 : Int)), .p .nil, .p .nil, .p .nil]), (105, .var [.p (pi y), .vw 134, .vw 139, .p .nil]), (107, .var [.p (pi y24.Code), .p (pi y24.Variant), .p (.sl 6 (List.map enc_api_Part y24.Parts))]), (134, .arr 3 (List.map enc_api_Paper w10)), (139, .arr 1 (List.map enc_api_Booklet w11))]⟩) ?_
        replace H1 := bind_some H1
        obtain ⟨⟨y26, y27⟩, h_26, H1⟩ := H1
        try dsimp only at H1
        refine lok_rt (Env.of E0 [⟨some 27, 17, [.agg [.p (pi y24.Code), .p (pi y24.Variant), .p (.sl 6 (List.map enc_api_Part y24.Parts))]], [], [.agg [.p (.sl 1 (List.map encL_encI y26.Pages))], .one (.p (pi y27))], [], True, fun _ => ok_ref12_Make y24 (y26, y27) h_26, []⟩]) (⟨112, mkS [(0, .x (.one (.ptr 0 0))), (1, .x (.one (.p (pi n)))), (4, .x (.one (.ptr 104 0))), (5, .x (.one (.ptr 105 0))), (6, .x (.one (.p (pi v)))), (7, .x (.one (.ptr 107 0))), (8, .x (.one (.ptr 108 0)))], mkH [(0, .var [.p (.sl 1 (List.map encI y25.L)), .p (pi y25.At)]), (104, .var [.p (pi (0 : Int)), .p .nil, .p .nil, .p .nil]), (105, .var [.p (pi y), .vw 134, .vw 139, .p .nil]), (107, .var [.p (pi y24.Code), .p (pi y24.Variant), .p (.sl 6 (List.map enc_api_Part y24.Parts))]), (108, .var [.p (.sl 1 (List.map encL_encI y26.Pages))]), (134, .arr 3 (List.map enc_api_Paper w10)), (139, .arr 1 (List.map enc_api_Booklet w11))]⟩) ?_
        replace H1 := req_some H1
        obtain ⟨⟨q_27, q_28⟩, H1⟩ := H1
        refine lok_el2 E0 112 [⟨[(5, .x (.one (.ptr 105 0)))], [], [(30, .x (.one (.ptr 105 1)))], [], none⟩,
      ⟨[(30, .x (.one (.ptr 105 1)))], [(105, some (.var [.p (pi y), .vw 134, .vw 139, .p .nil]))], [(31, .x (.one (.vw 134)))], [], none⟩,
      ⟨[(7, .x (.one (.ptr 107 0)))], [(107, some (.var [.p (pi y24.Code), .p (pi y24.Variant), .p (.sl 6 (List.map enc_api_Part y24.Parts))]))], [(32, .x (.agg [.p (pi y24.Code), .p (pi y24.Variant), .p (.sl 6 (List.map enc_api_Part y24.Parts))]))], [], none⟩,
      ⟨[(32, .x (.agg [.p (pi y24.Code), .p (pi y24.Variant), .p (.sl 6 (List.map enc_api_Part y24.Parts))]))], [], [(33, .x (.one (.fl 3 (List.map enc_api_Paper ([y24])))))], [], none⟩,
      ⟨[(31, .x (.one (.vw 134))), (33, .x (.one (.fl 3 (List.map enc_api_Paper ([y24])))))], [(134, some (.arr 3 (List.map enc_api_Paper w10))), (105, some (.var [.p (pi y), .vw 134, .vw 139, .p .nil]))], [(34, .x (.one (.vw 134)))], [(134, some (.arr 3 (List.map enc_api_Paper (w10 ++ [y24]))))], some 134⟩,
      ⟨[(5, .x (.one (.ptr 105 0)))], [], [(35, .x (.one (.ptr 105 2)))], [], none⟩,
      ⟨[(35, .x (.one (.ptr 105 2)))], [(105, some (.var [.p (pi y), .dead, .vw 139, .p .nil]))], [(36, .x (.one (.vw 139)))], [], none⟩,
      ⟨[(8, .x (.one (.ptr 108 0)))], [(108, some (.var [.p (.sl 1 (List.map encL_encI y26.Pages))]))], [(37, .x (.agg [.p (.sl 1 (List.map encL_encI y26.Pages))]))], [], none⟩,
      ⟨[(37, .x (.agg [.p (.sl 1 (List.map encL_encI y26.Pages))]))], [], [(38, .x (.one (.fl 1 (List.map enc_api_Booklet ([y26])))))], [], none⟩,
      ⟨[(36, .x (.one (.vw 139))), (38, .x (.one (.fl 1 (List.map enc_api_Booklet ([y26])))))], [(139, some (.arr 1 (List.map enc_api_Booklet w11))), (105, some (.var [.p (pi y), .dead, .vw 139, .p .nil]))], [(39, .x (.one (.vw 139)))], [(139, some (.arr 1 (List.map enc_api_Booklet (w11 ++ [y26]))))], some 139⟩,
      ⟨[(5, .x (.one (.ptr 105 0)))], [], [(40, .x (.one (.ptr 105 1)))], [], none⟩] (4, 6) ⟨[(35, .x (.one (.ptr 105 2)))], [(105, some (.var [.p (pi y), .vw 134, .vw 139, .p .nil]))], [(36, .x (.one (.vw 139)))], [], none⟩ (⟨112, mkS [(0, .x (.one (.ptr 0 0))), (1, .x (.one (.p (pi n)))), (4, .x (.one (.ptr 104 0))), (5, .x (.one (.ptr 105 0))), (6, .x (.one (.p (pi v))))], mkH [(0, .var [.p (.sl 1 (List.map encI y25.L)), .p (pi y25.At)]), (104, .var [.p (pi (0 : Int)), .p .nil, .p .nil, .p .nil]), (105, .var [.p (pi y), .vw 134, .vw 139, .p .nil]), (134, .arr 3 (List.map enc_api_Paper (w10 ++ [y24]))), (139, .arr 1 (List.map enc_api_Booklet (w11 ++ [y26])))]⟩) (by kernel_rfl) ⟨by decide, Nat.le_of_ble_eq_true rfl, _, rfl, rfl, rfl, rfl, rfl, rfl, rfl⟩ (by kernel_rfl) (by kernel_rfl) rfl rfl rfl ?_ (by intro o ho; obtain rfl := Option.some.inj ho; intro st hn hr; have hr := And.intro hn hr; simp only [Eff.reads, allS, allO, and_true] at hr; exact And.intro (by first | (simp only [go_sem, ↓reduceIte, reduceCtorEq, Nat.reduceAdd, Nat.reduceMul, Nat.reduceSub, Nat.reduceLT, Nat.reduceLeDiff, Nat.reduceEqDiff, Nat.reduceBEq, Int.reduceToNat, hr]; done) | (simp only [go_sem, ↓reduceIte, reduceCtorEq, Nat.reduceAdd, Nat.reduceMul, Nat.reduceSub, Nat.reduceLT, Nat.reduceLeDiff, Nat.reduceEqDiff, Nat.reduceBEq, Int.reduceToNat, hr]; first | trivial | (repeat' first | apply And.intro | intro _) <;> first | trivial | assumption | rfl | omega)) (by first | (simp only [go_sem, ↓reduceIte, reduceCtorEq, Nat.reduceAdd, Nat.reduceMul, Nat.reduceSub, Nat.reduceLT, Nat.reduceLeDiff, Nat.reduceEqDiff, Nat.reduceBEq, Int.reduceToNat, runT, Eff.app, Eff.wsA, Eff.wbA, dsOf, dbOf, isNew, noS, noL, noC, noB, Eff.appK, killO, killHO, updS, updH, okT, Eff.reads, allO, hr]; done) | (simp only [go_sem, ↓reduceIte, reduceCtorEq, Nat.reduceAdd, Nat.reduceMul, Nat.reduceSub, Nat.reduceLT, Nat.reduceLeDiff, Nat.reduceEqDiff, Nat.reduceBEq, Int.reduceToNat, runT, Eff.app, Eff.wsA, Eff.wbA, dsOf, dbOf, isNew, noS, noL, noC, noB, Eff.appK, killO, killHO, updS, updH, okT, Eff.reads, allO, upd_self, hr]; done))) (by simp only [List.take_succ_cons, List.take_zero, List.drop_succ_cons, List.drop_zero, List.cons_append, List.nil_append, go_sem, ↓reduceIte, reduceCtorEq, Nat.reduceAdd, Nat.reduceMul, Nat.reduceSub, Nat.reduceLT, Nat.reduceLeDiff, Nat.reduceEqDiff, Nat.reduceBEq, Int.reduceToNat, runT, Eff.app, Eff.wsA, Eff.wbA, dsOf, dbOf, isNew, noS, noL, noC, noB, Eff.appK, killO, killHO, updS, updH, okT, Eff.reads, allO])
        try simp only [thenL, blockL, ↓reduceIte, reduceCtorEq]
        refine lok_rl E0 (⟨112, mkS [(0, .x (.one (.ptr 0 0))), (1, .x (.one (.p (pi n)))), (4, .x (.one (.ptr 104 0))), (5, .x (.one (.ptr 105 0))), (6, .x (.one (.p (pi (IntKind.i64.wrap (v + (1 : Int)))))))], mkH [(0, .var [.p (.sl 1 (List.map encI y25.L)), .p (pi y25.At)]), (104, .var [.p (pi (0 : Int)), .p .nil, .p .nil, .p .nil]), (105, .var [.p (pi y), .vw 134, .vw 139, .p .nil]), (134, .arr 3 (List.map enc_api_Paper (w10 ++ [y24]))), (139, .arr 1 (List.map enc_api_Booklet (w11 ++ [y26])))]⟩) ?_
        try simp only [thenL, blockL, ↓reduceIte, reduceCtorEq]
        exact ⟨((IntKind.i64.wrap (v + (1 : Int))), y25.L, y25.At, (w10 ++ [y24]), (w11 ++ [y26])), (Option.some.inj H1).symm, imp_au⟩
      · intro b_29
        replace H1 := cneg H1 b_29
        refine lok_exit ?_
        try simp only [thenL, blockL, ↓reduceIte, reduceCtorEq]
        have e_1 := k_1 _ (Option.some.inj H1).symm
        subst e_1
        try dsimp only at H0
        try simp only [thenL, blockL, ↓reduceIte, reduceCtorEq]
        exact ⟨(y23.L, y23.At, w10, w11), H0, imp_au⟩
set_option maxHeartbeats 4000000 in
theorem ok_top_TopLabels (t : List Int) (r_ : Bool) (H0 : top_TopLabels t = some r_) : CallOK Tryd.prog 3 [.one (.p (.sl 1 (List.map encI t)))] [] [.one (.p (.val (.bool r_)))] [] := by
  refine callOK (n := 91) (rs := [.tmp 2]) (nb := 0) (V := []) Tryd.func3 rfl (by kernel_rfl) rfl rfl rfl rfl (Nat.le_of_ble_eq_true rfl) (by decide) ?_
  unfold top_TopLabels at H0
  refine lok_rt E0 (⟨91, mkS [(0, .x (.one (.p (.sl 1 (List.map encI t)))))], mkH []⟩) ?_
  replace H0 := bind_some H0
  obtain ⟨y, h_0, H0⟩ := H0
  refine lok_rt (Env.of E0 [⟨some 16, 4, [.one (.p (.sl 1 (List.map encI t)))], [], [.one (.ptr 0 0)], [some (.var [.p (.sl 1 (List.map encI y.L)), .p (pi y.At)])], True, fun _ => ok_make_New t y h_0, []⟩]) (⟨91, mkS [(3, .x (.one (.ptr 1016 0)))], mkH [(1016, .var [.p (.sl 1 (List.map encI y.L)), .p (pi y.At)])]⟩) ?_
  replace H0 := bind_some H0
  obtain ⟨⟨y1, y2⟩, h_1, H0⟩ := H0
  try dsimp only at H0
  replace H0 := bind_some H0
  obtain ⟨y3, h_2, H0⟩ := H0
  refine lok_rt (Env.of E0 [⟨some 18, 6, [.one (.ptr 0 0), .one (.p (pi (0 : Int)))], [.var [.p (.sl 1 (List.map encI y.L)), .p (pi y.At)]], [.agg [.p (pi y1.Number), .p (.sl 3 (List.map enc_api_Paper y1.Papers)), .p (.sl 1 (List.map enc_api_Booklet y1.Booklets)), .p (.sl 3 (List.map enc_api_Expected y1.Expected))]], [some (.var [.p (.sl 1 (List.map encI y2.L)), .p (pi y2.At)])], True, fun _ => ok_make_Tape_Sitting y (0 : Int) (y1, y2) h_1, []⟩,
      ⟨some 19, 5, [.agg [.p (pi y1.Number), .p (.sl 3 (List.map enc_api_Paper y1.Papers)), .p (.sl 1 (List.map enc_api_Booklet y1.Booklets)), .p (.sl 3 (List.map enc_api_Expected y1.Expected))]], [], [.one (.p (.sl 4 (List.map enc_api_Label y3)))], [], True, fun _ => ok_top_pagesOf y1 y3 h_2, []⟩]) (⟨91, mkS [(3, .x (.one (.ptr 1016 0))), (4, .x (.one (.p (.sl 4 (List.map enc_api_Label y3)))))], mkH [(1016, .var [.p (.sl 1 (List.map encI y2.L)), .p (pi y2.At)])]⟩) ?_
  refine lok_rt E0 (⟨91, mkS [(3, .x (.one (.ptr 1016 0))), (4, .x (.one (.p (.sl 4 (List.map enc_api_Label y3))))), (5, .x (.one (.vw 105)))], mkH [(105, .arr 1 (List.map encL_encI ([] : List (List Int)))), (1016, .var [.p (.sl 1 (List.map encI y2.L)), .p (pi y2.At)])]⟩) ?_
  refine lok_join (fun x_ : Unit => top_TopLabels_j1 = some r_) (fun x_ => ⟨91, mkS [], mkH []⟩) ?hytop_TopLabels_j1 ?hxtop_TopLabels_j1
  case hytop_TopLabels_j1 =>
    rintro _ H0
    try dsimp only at H0 ⊢
    unfold top_TopLabels_j1 at H0
    replace H0 := bind_some H0
    obtain ⟨y4, h_3, H0⟩ := H0
    refine lok_rt (Env.of E0 [⟨some 90, 13, [], [], [.one (.p (.val (.bool y4)))], [], True, fun _ => ok_top_awake19 y4 h_3, []⟩]) (⟨91, mkS [(2, .x (.one (.p (.val (.bool y4)))))], mkH []⟩) ?_
    refine lok_ret ?_
    try obtain rfl := Option.some.inj H0
    try simp only [thenL, blockL]
    exact fin_au _ (.inr rfl) [] (⟨91, mkS [(2, .x (.one (.p (.val (.bool y4)))))], mkH []⟩) rfl rfl imp_au
  case hxtop_TopLabels_j1 =>
    refine lok_rt E0 (⟨91, mkS [(3, .x (.one (.ptr 1016 0))), (4, .x (.one (.p (.sl 4 (List.map enc_api_Label y3))))), (5, .x (.one (.vw 105))), (6, .x (.one (.p (pi (0 : Int)))))], mkH [(105, .arr 1 (List.map encL_encI ([] : List (List Int)))), (1016, .var [.p (.sl 1 (List.map encI y2.L)), .p (pi y2.At)])]⟩) ?_
    refine lok_block ?_
    replace H0 := bind_some H0
    obtain ⟨v_4, hv_4, H0⟩ := H0
    refine lok_iter (fun x_ => ⟨91, mkS [(3, .x (.one (.ptr 1016 0))), (4, .x (.one (.p (.sl 4 (List.map enc_api_Label y3))))), (5, .x (.one (.vw 105))), (6, .x (.one (.p (pi x_.1))))], mkH [(105, .arr 1 (List.map encL_encI x_.2.1)), (1016, .var [.p (.sl 1 (List.map encI x_.2.2.1)), .p (pi x_.2.2.2)])]⟩) hv_4 imp_au ?_
    · rintro ⟨i, words, w, w1⟩ o_1 H1 k_1
      unfold top_TopLabels_l5 at H1
      try dsimp only at H1 ⊢
      refine lok_seq ?_
      refine lok_rt E0 (⟨91, mkS [(3, .x (.one (.ptr 1016 0))), (4, .x (.one (.p (.sl 4 (List.map enc_api_Label y3))))), (5, .x (.one (.vw 105))), (6, .x (.one (.p (pi i)))), (23, .x (.one (.p (.val (.bool (decide (i < (y3.length : Int))))))))], mkH [(105, .arr 1 (List.map encL_encI words)), (1016, .var [.p (.sl 1 (List.map encI w)), .p (pi w1)])]⟩) ?_
      refine lok_c (decide (i < (y3.length : Int))) ?_ ?_
      · intro b_20
        replace H1 := cpos H1 b_20
        refine lok_skip ?_
        try simp only [thenL, blockL, ↓reduceIte, reduceCtorEq]
        refine lok_join (fun x_ : (List (List Int)) × (List Int) × Int => top_TopLabels_j2 i x_.1 x_.2.1 x_.2.2 = some o_1) (fun x_ => ⟨91, mkS [(3, .x (.one (.ptr 1016 0))), (4, .x (.one (.p (.sl 4 (List.map enc_api_Label y3))))), (5, .x (.one (.vw 105))), (6, .x (.one (.p (pi i))))], mkH [(105, .arr 1 (List.map encL_encI x_.1)), (1016, .var [.p (.sl 1 (List.map encI x_.2.1)), .p (pi x_.2.2)])]⟩) ?hytop_TopLabels_j2 ?hxtop_TopLabels_j2
        case hytop_TopLabels_j2 =>
          rintro ⟨words1, w2, w3⟩ H1
          try dsimp only at H1 ⊢
          unfold top_TopLabels_j2 at H1
          refine lok_rl E0 (⟨91, mkS [(3, .x (.one (.ptr 1016 0))), (4, .x (.one (.p (.sl 4 (List.map enc_api_Label y3))))), (5, .x (.one (.vw 105))), (6, .x (.one (.p (pi (IntKind.i64.wrap (i + (1 : Int)))))))], mkH [(105, .arr 1 (List.map encL_encI words1)), (1016, .var [.p (.sl 1 (List.map encI w2)), .p (pi w3)])]⟩) ?_
          try simp only [thenL, blockL, ↓reduceIte, reduceCtorEq]
          exact ⟨((IntKind.i64.wrap (i + (1 : Int))), words1, w2, w3), (Option.some.inj H1).symm, imp_au⟩
        case hxtop_TopLabels_j2 =>
          refine lok_block ?_
          replace H1 := req_some H1
          obtain ⟨q_19, H1⟩ := H1
          replace H1 := bind_some H1
          obtain ⟨⟨y5, y6⟩, h_5, H1⟩ := H1
          try dsimp only at H1
          refine lok_rt (Env.of E0 [⟨some 31, 7, [.agg [.p (pi ((ix y3 i).Paper)), .p (pi ((ix y3 i).Candidate)), .p (pi ((ix y3 i).Page)), .p (pi ((ix y3 i).Variant))]], [], [.one (.p (.val (.string (bs y5)))), .one (.p (pi y6))], [], True, fun _ => ok_strip_Draw (ix y3 i) (y5, y6) h_5, []⟩]) (⟨91, mkS [(3, .x (.one (.ptr 1016 0))), (4, .x (.one (.p (.sl 4 (List.map enc_api_Label y3))))), (5, .x (.one (.vw 105))), (6, .x (.one (.p (pi i)))), (7, .x (.one (.p (.val (.string (bs y5)))))), (8, .x (.one (.p (pi y6))))], mkH [(105, .arr 1 (List.map encL_encI words)), (1016, .var [.p (.sl 1 (List.map encI w)), .p (pi w1)])]⟩) ?_
          replace H1 := bind_some H1
          obtain ⟨⟨y7, y8⟩, h_6, H1⟩ := H1
          try dsimp only at H1
          refine lok_rt (Env.of E0 [⟨some 36, 8, [.one (.p (.val (.string (bs y5))))], [], [.one (.p (.sl 1 (List.map encI y7))), .one (.p (pi y8))], [], True, fun _ => ok_strip_Word y5 (y7, y8) h_6, []⟩]) (⟨91, mkS [(3, .x (.one (.ptr 1016 0))), (4, .x (.one (.p (.sl 4 (List.map enc_api_Label y3))))), (5, .x (.one (.vw 105))), (6, .x (.one (.p (pi i)))), (7, .x (.one (.p (.val (.string (bs y5)))))), (8, .x (.one (.p (pi y6)))), (9, .x (.one (.p (.sl 1 (List.map encI y7))))), (10, .x (.one (.p (pi y8))))], mkH [(105, .arr 1 (List.map encL_encI words)), (1016, .var [.p (.sl 1 (List.map encI w)), .p (pi w1)])]⟩) ?_
          refine lok_seq ?_
          replace H1 := req_some H1
          obtain ⟨q_18, H1⟩ := H1
          refine lok_rt (Env.of E0 [⟨some 52, 9, [.one (.p (.sl 1 (List.map encI y7)))], [], [.one (.p (.val (.bool ((rscode_Codeword y7).getD default))))], [], (rscode_Codeword y7).isSome = true, fun h => ok_rscode_Codeword y7 _ (isSome_get h), []⟩]) (⟨91, mkS [(3, .x (.one (.ptr 1016 0))), (4, .x (.one (.p (.sl 4 (List.map enc_api_Label y3))))), (5, .x (.one (.vw 105))), (6, .x (.one (.p (pi i)))), (7, .x (.one (.p (.val (.string (bs y5)))))), (9, .x (.one (.p (.sl 1 (List.map encI y7))))), (54, .x (.one (.p (.val (.bool ((((y6 != (0 : Int)) || (y8 != (0 : Int))) || ((y5.length : Int) != (74 : Int))) || (!((rscode_Codeword y7).getD default))))))))], mkH [(105, .arr 1 (List.map encL_encI words)), (1016, .var [.p (.sl 1 (List.map encI w)), .p (pi w1)])]⟩) ?_
          refine lok_c ((((y6 != (0 : Int)) || (y8 != (0 : Int))) || ((y5.length : Int) != (74 : Int))) || (!((rscode_Codeword y7).getD default))) ?_ ?_
          · intro b_17
            replace H1 := cpos H1 b_17
            refine lok_rt E0 (⟨91, mkS [(2, .x (.one (.p (.val (.bool false)))))], mkH []⟩) ?_
            refine lok_ret ?_
            try simp only [thenL, blockL, ↓reduceIte, reduceCtorEq]
            have e_1 := k_1 _ (Option.some.inj H1).symm
            subst e_1
            try dsimp only at H0
            try obtain rfl := Option.some.inj H0
            try simp only [thenL, blockL]
            exact fin_au _ (.inr rfl) [] (⟨91, mkS [(2, .x (.one (.p (.val (.bool false)))))], mkH []⟩) rfl rfl imp_au
          · intro b_17
            replace H1 := cneg H1 b_17
            refine lok_skip ?_
            try simp only [thenL, blockL, ↓reduceIte, reduceCtorEq]
            refine lok_join (fun x_ : Unit => top_TopLabels_j3 y3 i words w w1 y5 y7 = some o_1) (fun x_ => ⟨91, mkS [(3, .x (.one (.ptr 1016 0))), (4, .x (.one (.p (.sl 4 (List.map enc_api_Label y3))))), (5, .x (.one (.vw 105))), (6, .x (.one (.p (pi i)))), (7, .x (.one (.p (.val (.string (bs y5)))))), (9, .x (.one (.p (.sl 1 (List.map encI y7)))))], mkH [(105, .arr 1 (List.map encL_encI words)), (1016, .var [.p (.sl 1 (List.map encI w)), .p (pi w1)])]⟩) ?hytop_TopLabels_j3 ?hxtop_TopLabels_j3
            case hytop_TopLabels_j3 =>
              rintro _ H1
              try dsimp only at H1 ⊢
              unfold top_TopLabels_j3 at H1
              replace H1 := req_some H1
              obtain ⟨q_11, H1⟩ := H1
              refine lok_rt E0 (⟨91, mkS [(3, .x (.one (.ptr 1016 0))), (4, .x (.one (.p (.sl 4 (List.map enc_api_Label y3))))), (5, .x (.one (.vw 105))), (6, .x (.one (.p (pi i)))), (7, .x (.one (.p (.val (.string (bs y5))))))], mkH [(105, .arr 1 (List.map encL_encI (words ++ [y7]))), (1016, .var [.p (.sl 1 (List.map encI w)), .p (pi w1)])]⟩) ?_
              replace H1 := bind_some H1
              obtain ⟨⟨y9, y10⟩, h_7, H1⟩ := H1
              try dsimp only at H1
              replace H1 := bind_some H1
              obtain ⟨⟨y11, y12, y13⟩, h_8, H1⟩ := H1
              try dsimp only at H1
              refine lok_rt (Env.of E0 [⟨some 75, 12, [.one (.ptr 0 0), .one (.p (.val (.string (bs y5))))], [.var [.p (.sl 1 (List.map encI w)), .p (pi w1)]], [.one (.p (.val (.string (bs y9))))], [some (.var [.p (.sl 1 (List.map encI y10.L)), .p (pi y10.At)])], True, fun _ => ok_top_pagesDamage (make_Tape.mk w w1) y5 (y9, y10) h_7, []⟩,
      ⟨some 76, 11, [.one (.p (.val (.string (bs y9))))], [], [.agg [.p (pi y11.Paper), .p (pi y11.Candidate), .p (pi y11.Page), .p (pi y11.Variant)], .one (.p (pi y12)), .one (.p (pi y13))], [], True, fun _ => ok_strip_Read y9 (y11, y12, y13) h_8, []⟩]) (⟨91, mkS [(3, .x (.one (.ptr 1016 0))), (4, .x (.one (.p (.sl 4 (List.map enc_api_Label y3))))), (5, .x (.one (.vw 105))), (6, .x (.one (.p (pi i)))), (12, .x (.one (.ptr 112 0))), (14, .x (.one (.p (pi y13))))], mkH [(105, .arr 1 (List.map encL_encI (words ++ [y7]))), (112, .var [.p (pi y11.Paper), .p (pi y11.Candidate), .p (pi y11.Page), .p (pi y11.Variant)]), (1016, .var [.p (.sl 1 (List.map encI y10.L)), .p (pi y10.At)])]⟩) ?_
              replace H1 := req_some H1
              obtain ⟨q_10, H1⟩ := H1
              refine lok_dt E0 8 (⟨91, mkS [(3, .x (.one (.ptr 1016 0))), (4, .x (.one (.p (.sl 4 (List.map enc_api_Label y3))))), (5, .x (.one (.vw 105))), (6, .x (.one (.p (pi i)))), (89, .x (.one (.p (.val (.bool ((y13 != (0 : Int)) || (!((y11.Paper == (ix y3 i).Paper) && ((y11.Candidate == (ix y3 i).Candidate) && ((y11.Page == (ix y3 i).Page) && (y11.Variant == (ix y3 i).Variant)))))))))))], mkH [(105, .arr 1 (List.map encL_encI (words ++ [y7]))), (1016, .var [.p (.sl 1 (List.map encI y10.L)), .p (pi y10.At)])]⟩) (by kernel_rfl) (by kernel_rfl) ?_
              refine lok_c ((y13 != (0 : Int)) || (!((y11.Paper == (ix y3 i).Paper) && ((y11.Candidate == (ix y3 i).Candidate) && ((y11.Page == (ix y3 i).Page) && (y11.Variant == (ix y3 i).Variant)))))) ?_ ?_
              · intro b_9
                replace H1 := cpos H1 b_9
                refine lok_rt E0 (⟨91, mkS [(2, .x (.one (.p (.val (.bool false)))))], mkH []⟩) ?_
                refine lok_ret ?_
                try simp only [thenL, blockL, ↓reduceIte, reduceCtorEq]
                have e_1 := k_1 _ (Option.some.inj H1).symm
                subst e_1
                try dsimp only at H0
                try obtain rfl := Option.some.inj H0
                try simp only [thenL, blockL]
                exact fin_au _ (.inr rfl) [] (⟨91, mkS [(2, .x (.one (.p (.val (.bool false)))))], mkH []⟩) rfl rfl imp_au
              · intro b_9
                replace H1 := cneg H1 b_9
                refine lok_skip ?_
                try simp only [thenL, blockL, ↓reduceIte, reduceCtorEq]
                exact ⟨((words ++ [y7]), y10.L, y10.At), H1, imp_au⟩
            case hxtop_TopLabels_j3 =>
              refine lok_rt E0 (⟨91, mkS [(3, .x (.one (.ptr 1016 0))), (4, .x (.one (.p (.sl 4 (List.map enc_api_Label y3))))), (5, .x (.one (.vw 105))), (6, .x (.one (.p (pi i)))), (7, .x (.one (.p (.val (.string (bs y5)))))), (9, .x (.one (.p (.sl 1 (List.map encI y7))))), (11, .x (.one (.p (pi (0 : Int)))))], mkH [(105, .arr 1 (List.map encL_encI words)), (1016, .var [.p (.sl 1 (List.map encI w)), .p (pi w1)])]⟩) ?_
              refine lok_block ?_
              replace H1 := bind_some H1
              obtain ⟨v_12, hv_12, H1⟩ := H1
              refine lok_iter (fun x_ => ⟨91, mkS [(3, .x (.one (.ptr 1016 0))), (4, .x (.one (.p (.sl 4 (List.map enc_api_Label y3))))), (5, .x (.one (.vw 105))), (6, .x (.one (.p (pi i)))), (7, .x (.one (.p (.val (.string (bs y5)))))), (9, .x (.one (.p (.sl 1 (List.map encI y7))))), (11, .x (.one (.p (pi x_))))], mkH [(105, .arr 1 (List.map encL_encI words)), (1016, .var [.p (.sl 1 (List.map encI w)), .p (pi w1)])]⟩) hv_12 imp_au ?_
              · rintro k o_2 H2 k_2
                unfold top_TopLabels_l4 at H2
                try dsimp only at H2 ⊢
                refine lok_seq ?_
                refine lok_rt E0 (⟨91, mkS [(3, .x (.one (.ptr 1016 0))), (4, .x (.one (.p (.sl 4 (List.map enc_api_Label y3))))), (5, .x (.one (.vw 105))), (6, .x (.one (.p (pi i)))), (7, .x (.one (.p (.val (.string (bs y5)))))), (9, .x (.one (.p (.sl 1 (List.map encI y7))))), (11, .x (.one (.p (pi k)))), (58, .x (.one (.p (.val (.bool (decide (k < (words.length : Int))))))))], mkH [(105, .arr 1 (List.map encL_encI words)), (1016, .var [.p (.sl 1 (List.map encI w)), .p (pi w1)])]⟩) ?_
                refine lok_c (decide (k < (words.length : Int))) ?_ ?_
                · intro b_16
                  replace H2 := cpos H2 b_16
                  refine lok_skip ?_
                  try simp only [thenL, blockL, ↓reduceIte, reduceCtorEq]
                  refine lok_seq ?_
                  refine lok_block ?_
                  replace H2 := req_some H2
                  obtain ⟨q_15, H2⟩ := H2
                  replace H2 := bind_some H2
                  obtain ⟨y14, h_13, H2⟩ := H2
                  refine lok_rt (Env.of E0 [⟨some 66, 10, [.one (.p (.sl 1 (List.map encI y7))), .one (.p (.sl 1 (List.map encI (ix words k))))], [], [.one (.p (pi y14))], [], True, fun _ => ok_rscode_Distance y7 (ix words k) y14 h_13, []⟩]) (⟨91, mkS [(3, .x (.one (.ptr 1016 0))), (4, .x (.one (.p (.sl 4 (List.map enc_api_Label y3))))), (5, .x (.one (.vw 105))), (6, .x (.one (.p (pi i)))), (7, .x (.one (.p (.val (.string (bs y5)))))), (9, .x (.one (.p (.sl 1 (List.map encI y7))))), (11, .x (.one (.p (pi k)))), (67, .x (.one (.p (.val (.bool (decide (y14 < (7 : Int))))))))], mkH [(105, .arr 1 (List.map encL_encI words)), (1016, .var [.p (.sl 1 (List.map encI w)), .p (pi w1)])]⟩) ?_
                  refine lok_c (decide (y14 < (7 : Int))) ?_ ?_
                  · intro b_14
                    replace H2 := cpos H2 b_14
                    refine lok_rt E0 (⟨91, mkS [(2, .x (.one (.p (.val (.bool false)))))], mkH []⟩) ?_
                    refine lok_ret ?_
                    try simp only [thenL, blockL, ↓reduceIte, reduceCtorEq]
                    have e_2 := k_2 _ (Option.some.inj H2).symm
                    subst e_2
                    try dsimp only at H1
                    try simp only [thenL, blockL, ↓reduceIte, reduceCtorEq]
                    have e_1 := k_1 _ (Option.some.inj H1).symm
                    subst e_1
                    try dsimp only at H0
                    try obtain rfl := Option.some.inj H0
                    try simp only [thenL, blockL]
                    exact fin_au _ (.inr rfl) [] (⟨91, mkS [(2, .x (.one (.p (.val (.bool false)))))], mkH []⟩) rfl rfl imp_au
                  · intro b_14
                    replace H2 := cneg H2 b_14
                    refine lok_skip ?_
                    try simp only [thenL, blockL, ↓reduceIte, reduceCtorEq]
                    refine lok_rl E0 (⟨91, mkS [(3, .x (.one (.ptr 1016 0))), (4, .x (.one (.p (.sl 4 (List.map enc_api_Label y3))))), (5, .x (.one (.vw 105))), (6, .x (.one (.p (pi i)))), (7, .x (.one (.p (.val (.string (bs y5)))))), (9, .x (.one (.p (.sl 1 (List.map encI y7))))), (11, .x (.one (.p (pi (IntKind.i64.wrap (k + (1 : Int)))))))], mkH [(105, .arr 1 (List.map encL_encI words)), (1016, .var [.p (.sl 1 (List.map encI w)), .p (pi w1)])]⟩) ?_
                    try simp only [thenL, blockL, ↓reduceIte, reduceCtorEq]
                    exact ⟨(IntKind.i64.wrap (k + (1 : Int))), (Option.some.inj H2).symm, imp_au⟩
                · intro b_16
                  replace H2 := cneg H2 b_16
                  refine lok_exit ?_
                  try simp only [thenL, blockL, ↓reduceIte, reduceCtorEq]
                  have e_2 := k_2 _ (Option.some.inj H2).symm
                  subst e_2
                  try dsimp only at H1
                  try simp only [thenL, blockL, ↓reduceIte, reduceCtorEq]
                  exact ⟨(), H1, imp_au⟩
      · intro b_20
        replace H1 := cneg H1 b_20
        refine lok_exit ?_
        try simp only [thenL, blockL, ↓reduceIte, reduceCtorEq]
        have e_1 := k_1 _ (Option.some.inj H1).symm
        subst e_1
        try dsimp only at H0
        try simp only [thenL, blockL, ↓reduceIte, reduceCtorEq]
        exact ⟨(), H0, imp_au⟩
end Go.LS
