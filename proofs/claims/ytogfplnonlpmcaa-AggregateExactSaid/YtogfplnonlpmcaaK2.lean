/-
  The walks: the functions compute what the plain ones say. Condition: the plain function has a value.
-/
import Derived.Test.YtogfplnonlpmcaaK1
import Derived.Test.YtogfplnonlpmcaaD2
namespace Go.LS
open Go.Proofs
set_option linter.all false
set_option linter.unusedSimpArgs false
set_option linter.unusedVariables false
set_option maxRecDepth 20000

theorem ok_ratio_New (num:Int) (den:Int) (r_ : api_Ratio × Int) (H0 : ratio_New num den = some r_) : CallOK Try.prog 47 [.one (.p (pi num)),.one (.p (pi den))] [] [.agg [.p (pi r_.1.Num),.p (pi r_.1.Den)],.one (.p (pi r_.2))] []:=by
  refine callOK (n:=25) (rs:=[.cell 4 36,.tmp 5]) (nb:=0) (V:=[]) Try.func47 rfl (by kernel_rfl) rfl rfl rfl rfl (Nat.le_of_ble_eq_true rfl) (by decide) ?_
  unfold ratio_New at H0
  refine lok_rt E0 (⟨25,mkS [(0,.x (.one (.p (pi num)))),(1,.x (.one (.p (pi den)))),(4,.x (.one (.ptr 104 0)))],mkH [(104,.var [.p (pi (0:Int)),.p (pi (0:Int))])]⟩) ?_
  refine lok_seq ?_
  refine lok_rt E0 (⟨25,mkS [(0,.x (.one (.p (pi num)))),(1,.x (.one (.p (pi den)))),(4,.x (.one (.ptr 104 0))),(8,.x (.one (.p (.val (.bool (den == (0:Int)))))))],mkH [(104,.var [.p (pi (0:Int)),.p (pi (0:Int))])]⟩) ?_
  refine lok_c (den == (0:Int)) ?_ ?_
  · intro b_3
    replace H0:=cpos H0 b_3
    refine lok_rt E0 (⟨25,mkS [(4,.x (.one (.ptr 104 0))),(5,.x (.one (.p (pi (2:Int)))))],mkH [(104,.var [.p (pi (0:Int)),.p (pi (0:Int))])]⟩) ?_
    refine lok_ret ?_
    obtain rfl:=Option.some.inj H0
    try simp only [thenL,blockL]
    exact fin_au _ (.inr rfl) [] (⟨25,mkS [(4,.x (.one (.ptr 104 0))),(5,.x (.one (.p (pi (2:Int)))))],mkH [(104,.var [.p (pi (0:Int)),.p (pi (0:Int))])]⟩) rfl rfl imp_au
  · intro b_3
    replace H0:=cneg H0 b_3
    refine lok_skip ?_
    try simp only [thenL,blockL,↓reduceIte,reduceCtorEq]
    refine lok_rt E0 (⟨25,mkS [(0,.x (.one (.p (pi num)))),(1,.x (.one (.p (pi den)))),(4,.x (.one (.ptr 104 0))),(6,.x (.one (.p (.val (.bool (!((decide (num < (0:Int))) == (decide (den < (0:Int))))))))))],mkH [(104,.var [.p (pi (0:Int)),.p (pi (0:Int))])]⟩) ?_
    replace H0:=bind_some H0
    obtain ⟨y,h_0,H0⟩:=H0
    replace H0:=bind_some H0
    obtain ⟨y1,h_1,H0⟩:=H0
    replace H0:=bind_some H0
    obtain ⟨⟨y2,y3⟩,h_2,H0⟩:=H0
    try dsimp only at H0
    refine lok_rt (Env.of E0 [⟨some 17,77,[.one (.p (pi num))],[],[.one (.p (.val (.int .u64 y)))],[],True,fun _ => ok_ratio_magnitude num y h_0,[]⟩,
      ⟨some 21,77,[.one (.p (pi den))],[],[.one (.p (.val (.int .u64 y1)))],[],True,fun _ => ok_ratio_magnitude den y1 h_1,[]⟩,
      ⟨some 22,76,[.agg [.p (.val (.bool (!((decide (num < (0:Int))) == (decide (den < (0:Int))))))),.p (.val (.int .u64 (0:Int))),.p (.val (.int .u64 y))],.one (.p (.val (.int .u64 y1)))],[],[.agg [.p (pi y2.Num),.p (pi y2.Den)],.one (.p (pi y3))],[],True,fun _ => ok_ratio_reduced (ratio_signed.mk (!((decide (num < (0:Int))) == (decide (den < (0:Int))))) (ratio_wide.mk (0:Int) y)) y1 (y2,y3) h_2,[]⟩]) (⟨25,mkS [(4,.x (.one (.ptr 104 0))),(5,.x (.one (.p (pi y3))))],mkH [(104,.var [.p (pi y2.Num),.p (pi y2.Den)])]⟩) ?_
    refine lok_ret ?_
    obtain rfl:=Option.some.inj H0
    try simp only [thenL,blockL]
    exact fin_au _ (.inr rfl) [] (⟨25,mkS [(4,.x (.one (.ptr 104 0))),(5,.x (.one (.p (pi y3))))],mkH [(104,.var [.p (pi y2.Num),.p (pi y2.Den)])]⟩) rfl rfl imp_au
theorem ok_bits_Add64 (x y carry:Int) (r_ : Int × Int) (H0 : bits_Add64 x y carry = some r_) : CallOK Try.prog 111 [.int .u64 x,.int .u64 y,.int .u64 carry] [] [.int .u64 r_.1,.int .u64 r_.2] [] :=
  okAdd64 Try.func111 (by kernel_rfl) (by kernel_rfl) (by kernel_rfl) (by kernel_rfl) _ _ _ r_ H0
theorem ok_ratio_wide_plus (a : ratio_wide) (b : ratio_wide) (r_ : ratio_wide) (H0 : ratio_wide_plus a b = some r_) : CallOK Try.prog 101 [.agg [.p (.val (.int .u64 a.hi)),.p (.val (.int .u64 a.lo))],.agg [.p (.val (.int .u64 b.hi)),.p (.val (.int .u64 b.lo))]] [] [.agg [.p (.val (.int .u64 r_.hi)),.p (.val (.int .u64 r_.lo))]] []:=by
  refine callOK (n:=29) (rs:=[.cell 4 113]) (nb:=0) (V:=[]) Try.func101 rfl (by kernel_rfl) rfl rfl rfl rfl (Nat.le_of_ble_eq_true rfl) (by decide) ?_
  unfold ratio_wide_plus at H0
  refine lok_rt E0 (⟨29,mkS [(2,.x (.one (.ptr 102 0))),(3,.x (.one (.ptr 103 0))),(4,.x (.one (.ptr 104 0)))],mkH [(102,.var [.p (.val (.int .u64 a.hi)),.p (.val (.int .u64 a.lo))]),(103,.var [.p (.val (.int .u64 b.hi)),.p (.val (.int .u64 b.lo))]),(104,.var [.p (.val (.int .u64 (0:Int))),.p (.val (.int .u64 (0:Int)))])]⟩) ?_
  replace H0:=bind_some H0
  obtain ⟨⟨y,y1⟩,h_0,H0⟩:=H0
  try dsimp only at H0
  refine lok_rt (Env.of E0 [⟨some 14,111,[.one (.p (.val (.int .u64 a.lo))),.one (.p (.val (.int .u64 b.lo))),.one (.p (.val (.int .u64 (0:Int))))],[],[.one (.p (.val (.int .u64 y))),.one (.p (.val (.int .u64 y1)))],[],True,fun _ => ok_bits_Add64 a.lo b.lo (0:Int) (y,y1) h_0,[]⟩]) (⟨29,mkS [(2,.x (.one (.ptr 102 0))),(3,.x (.one (.ptr 103 0))),(4,.x (.one (.ptr 104 0))),(5,.x (.one (.p (.val (.int .u64 y))))),(6,.x (.one (.p (.val (.int .u64 y1)))))],mkH [(102,.var [.p (.val (.int .u64 a.hi)),.p (.val (.int .u64 a.lo))]),(103,.var [.p (.val (.int .u64 b.hi)),.p (.val (.int .u64 b.lo))]),(104,.var [.p (.val (.int .u64 (0:Int))),.p (.val (.int .u64 (0:Int)))])]⟩) ?_
  replace H0:=bind_some H0
  obtain ⟨⟨y2,y3⟩,h_1,H0⟩:=H0
  try dsimp only at H0
  refine lok_rt (Env.of E0 [⟨some 23,111,[.one (.p (.val (.int .u64 a.hi))),.one (.p (.val (.int .u64 b.hi))),.one (.p (.val (.int .u64 y1)))],[],[.one (.p (.val (.int .u64 y2))),.one (.p (.val (.int .u64 y3)))],[],True,fun _ => ok_bits_Add64 a.hi b.hi y1 (y2,y3) h_1,[]⟩]) (⟨29,mkS [(4,.x (.one (.ptr 104 0))),(5,.x (.one (.p (.val (.int .u64 y))))),(7,.x (.one (.p (.val (.int .u64 y2)))))],mkH [(104,.var [.p (.val (.int .u64 (0:Int))),.p (.val (.int .u64 (0:Int)))])]⟩) ?_
  refine lok_rt E0 (⟨29,mkS [(4,.x (.one (.ptr 104 0)))],mkH [(104,.var [.p (.val (.int .u64 y2)),.p (.val (.int .u64 y))])]⟩) ?_
  refine lok_ret ?_
  obtain rfl:=Option.some.inj H0
  try simp only [thenL,blockL]
  exact fin_au _ (.inr rfl) [] (⟨29,mkS [(4,.x (.one (.ptr 104 0)))],mkH [(104,.var [.p (.val (.int .u64 y2)),.p (.val (.int .u64 y))])]⟩) rfl rfl imp_au
theorem ok_bits_Sub64 (x y borrow:Int) (r_ : Int × Int) (H0 : bits_Sub64 x y borrow = some r_) : CallOK Try.prog 113 [.int .u64 x,.int .u64 y,.int .u64 borrow] [] [.int .u64 r_.1,.int .u64 r_.2] [] :=
  okSub64 Try.func113 (by kernel_rfl) (by kernel_rfl) (by kernel_rfl) (by kernel_rfl) _ _ _ r_ H0
theorem ok_ratio_wide_minus (a : ratio_wide) (b : ratio_wide) (r_ : ratio_wide) (H0 : ratio_wide_minus a b = some r_) : CallOK Try.prog 103 [.agg [.p (.val (.int .u64 a.hi)),.p (.val (.int .u64 a.lo))],.agg [.p (.val (.int .u64 b.hi)),.p (.val (.int .u64 b.lo))]] [] [.agg [.p (.val (.int .u64 r_.hi)),.p (.val (.int .u64 r_.lo))]] []:=by
  refine callOK (n:=29) (rs:=[.cell 4 113]) (nb:=0) (V:=[]) Try.func103 rfl (by kernel_rfl) rfl rfl rfl rfl (Nat.le_of_ble_eq_true rfl) (by decide) ?_
  unfold ratio_wide_minus at H0
  refine lok_rt E0 (⟨29,mkS [(2,.x (.one (.ptr 102 0))),(3,.x (.one (.ptr 103 0))),(4,.x (.one (.ptr 104 0)))],mkH [(102,.var [.p (.val (.int .u64 a.hi)),.p (.val (.int .u64 a.lo))]),(103,.var [.p (.val (.int .u64 b.hi)),.p (.val (.int .u64 b.lo))]),(104,.var [.p (.val (.int .u64 (0:Int))),.p (.val (.int .u64 (0:Int)))])]⟩) ?_
  replace H0:=bind_some H0
  obtain ⟨⟨y,y1⟩,h_0,H0⟩:=H0
  try dsimp only at H0
  refine lok_rt (Env.of E0 [⟨some 14,113,[.one (.p (.val (.int .u64 a.lo))),.one (.p (.val (.int .u64 b.lo))),.one (.p (.val (.int .u64 (0:Int))))],[],[.one (.p (.val (.int .u64 y))),.one (.p (.val (.int .u64 y1)))],[],True,fun _ => ok_bits_Sub64 a.lo b.lo (0:Int) (y,y1) h_0,[]⟩]) (⟨29,mkS [(2,.x (.one (.ptr 102 0))),(3,.x (.one (.ptr 103 0))),(4,.x (.one (.ptr 104 0))),(5,.x (.one (.p (.val (.int .u64 y))))),(6,.x (.one (.p (.val (.int .u64 y1)))))],mkH [(102,.var [.p (.val (.int .u64 a.hi)),.p (.val (.int .u64 a.lo))]),(103,.var [.p (.val (.int .u64 b.hi)),.p (.val (.int .u64 b.lo))]),(104,.var [.p (.val (.int .u64 (0:Int))),.p (.val (.int .u64 (0:Int)))])]⟩) ?_
  replace H0:=bind_some H0
  obtain ⟨⟨y2,y3⟩,h_1,H0⟩:=H0
  try dsimp only at H0
  refine lok_rt (Env.of E0 [⟨some 23,113,[.one (.p (.val (.int .u64 a.hi))),.one (.p (.val (.int .u64 b.hi))),.one (.p (.val (.int .u64 y1)))],[],[.one (.p (.val (.int .u64 y2))),.one (.p (.val (.int .u64 y3)))],[],True,fun _ => ok_bits_Sub64 a.hi b.hi y1 (y2,y3) h_1,[]⟩]) (⟨29,mkS [(4,.x (.one (.ptr 104 0))),(5,.x (.one (.p (.val (.int .u64 y))))),(7,.x (.one (.p (.val (.int .u64 y2)))))],mkH [(104,.var [.p (.val (.int .u64 (0:Int))),.p (.val (.int .u64 (0:Int)))])]⟩) ?_
  refine lok_rt E0 (⟨29,mkS [(4,.x (.one (.ptr 104 0)))],mkH [(104,.var [.p (.val (.int .u64 y2)),.p (.val (.int .u64 y))])]⟩) ?_
  refine lok_ret ?_
  obtain rfl:=Option.some.inj H0
  try simp only [thenL,blockL]
  exact fin_au _ (.inr rfl) [] (⟨29,mkS [(4,.x (.one (.ptr 104 0)))],mkH [(104,.var [.p (.val (.int .u64 y2)),.p (.val (.int .u64 y))])]⟩) rfl rfl imp_au
theorem ok_ratio_signed_plus (a : ratio_signed) (b : ratio_signed) (r_ : ratio_signed) (H0 : ratio_signed_plus a b = some r_) : CallOK Try.prog 81 [.agg [.p (.val (.bool a.neg)),.p (.val (.int .u64 a.abs.hi)),.p (.val (.int .u64 a.abs.lo))],.agg [.p (.val (.bool b.neg)),.p (.val (.int .u64 b.abs.hi)),.p (.val (.int .u64 b.abs.lo))]] [] [.agg [.p (.val (.bool r_.neg)),.p (.val (.int .u64 r_.abs.hi)),.p (.val (.int .u64 r_.abs.lo))]] []:=by
  refine callOK (n:=40) (rs:=[.cell 4 115]) (nb:=0) (V:=[]) Try.func81 rfl (by kernel_rfl) rfl rfl rfl rfl (Nat.le_of_ble_eq_true rfl) (by decide) ?_
  unfold ratio_signed_plus at H0
  refine lok_rt E0 (⟨40,mkS [(2,.x (.one (.ptr 102 0))),(3,.x (.one (.ptr 103 0))),(4,.x (.one (.ptr 104 0)))],mkH [(102,.var [.p (.val (.bool a.neg)),.p (.val (.int .u64 a.abs.hi)),.p (.val (.int .u64 a.abs.lo))]),(103,.var [.p (.val (.bool b.neg)),.p (.val (.int .u64 b.abs.hi)),.p (.val (.int .u64 b.abs.lo))]),(104,.var [.p (.val (.bool false)),.p (.val (.int .u64 (0:Int))),.p (.val (.int .u64 (0:Int)))])]⟩) ?_
  refine lok_seq ?_
  refine lok_rt E0 (⟨40,mkS [(2,.x (.one (.ptr 102 0))),(3,.x (.one (.ptr 103 0))),(4,.x (.one (.ptr 104 0))),(9,.x (.one (.p (.val (.bool (a.neg == b.neg))))))],mkH [(102,.var [.p (.val (.bool a.neg)),.p (.val (.int .u64 a.abs.hi)),.p (.val (.int .u64 a.abs.lo))]),(103,.var [.p (.val (.bool b.neg)),.p (.val (.int .u64 b.abs.hi)),.p (.val (.int .u64 b.abs.lo))]),(104,.var [.p (.val (.bool false)),.p (.val (.int .u64 (0:Int))),.p (.val (.int .u64 (0:Int)))])]⟩) ?_
  refine lok_c (a.neg == b.neg) ?_ ?_
  · intro b_5
    replace H0:=cpos H0 b_5
    replace H0:=bind_some H0
    obtain ⟨y,h_0,H0⟩:=H0
    refine lok_dt (Env.of E0 [⟨some 16,101,[.agg [.p (.val (.int .u64 a.abs.hi)),.p (.val (.int .u64 a.abs.lo))],.agg [.p (.val (.int .u64 b.abs.hi)),.p (.val (.int .u64 b.abs.lo))]],[],[.agg [.p (.val (.int .u64 y.hi)),.p (.val (.int .u64 y.lo))]],[],True,fun _ => ok_ratio_wide_plus a.abs b.abs y h_0,[]⟩]) 7 (⟨40,mkS [(4,.x (.one (.ptr 104 0)))],mkH [(104,.var [.p (.val (.bool a.neg)),.p (.val (.int .u64 y.hi)),.p (.val (.int .u64 y.lo))])]⟩) (by kernel_rfl) (by kernel_rfl) ?_
    refine lok_ret ?_
    obtain rfl:=Option.some.inj H0
    try simp only [thenL,blockL]
    exact fin_au _ (.inr rfl) [] (⟨40,mkS [(4,.x (.one (.ptr 104 0)))],mkH [(104,.var [.p (.val (.bool a.neg)),.p (.val (.int .u64 y.hi)),.p (.val (.int .u64 y.lo))])]⟩) rfl rfl imp_au
  · intro b_5
    replace H0:=cneg H0 b_5
    refine lok_skip ?_
    try simp only [thenL,blockL,↓reduceIte,reduceCtorEq]
    refine lok_seq ?_
    replace H0:=bind_some H0
    obtain ⟨y1,h_1,H0⟩:=H0
    refine lok_rt (Env.of E0 [⟨some 22,102,[.agg [.p (.val (.int .u64 a.abs.hi)),.p (.val (.int .u64 a.abs.lo))],.agg [.p (.val (.int .u64 b.abs.hi)),.p (.val (.int .u64 b.abs.lo))]],[],[.one (.p (pi y1))],[],True,fun _ => ok_ratio_wide_compare a.abs b.abs y1 h_1,[]⟩]) (⟨40,mkS [(2,.x (.one (.ptr 102 0))),(3,.x (.one (.ptr 103 0))),(4,.x (.one (.ptr 104 0))),(23,.x (.one (.p (.val (.bool (decide ((0:Int) ≤ y1)))))))],mkH [(102,.var [.p (.val (.bool a.neg)),.p (.val (.int .u64 a.abs.hi)),.p (.val (.int .u64 a.abs.lo))]),(103,.var [.p (.val (.bool b.neg)),.p (.val (.int .u64 b.abs.hi)),.p (.val (.int .u64 b.abs.lo))]),(104,.var [.p (.val (.bool false)),.p (.val (.int .u64 (0:Int))),.p (.val (.int .u64 (0:Int)))])]⟩) ?_
    refine lok_c (decide ((0:Int) ≤ y1)) ?_ ?_
    · intro b_4
      replace H0:=cpos H0 b_4
      replace H0:=bind_some H0
      obtain ⟨y2,h_2,H0⟩:=H0
      refine lok_dt (Env.of E0 [⟨some 30,103,[.agg [.p (.val (.int .u64 a.abs.hi)),.p (.val (.int .u64 a.abs.lo))],.agg [.p (.val (.int .u64 b.abs.hi)),.p (.val (.int .u64 b.abs.lo))]],[],[.agg [.p (.val (.int .u64 y2.hi)),.p (.val (.int .u64 y2.lo))]],[],True,fun _ => ok_ratio_wide_minus a.abs b.abs y2 h_2,[]⟩]) 7 (⟨40,mkS [(4,.x (.one (.ptr 104 0)))],mkH [(104,.var [.p (.val (.bool a.neg)),.p (.val (.int .u64 y2.hi)),.p (.val (.int .u64 y2.lo))])]⟩) (by kernel_rfl) (by kernel_rfl) ?_
      refine lok_ret ?_
      obtain rfl:=Option.some.inj H0
      try simp only [thenL,blockL]
      exact fin_au _ (.inr rfl) [] (⟨40,mkS [(4,.x (.one (.ptr 104 0)))],mkH [(104,.var [.p (.val (.bool a.neg)),.p (.val (.int .u64 y2.hi)),.p (.val (.int .u64 y2.lo))])]⟩) rfl rfl imp_au
    · intro b_4
      replace H0:=cneg H0 b_4
      refine lok_skip ?_
      try simp only [thenL,blockL,↓reduceIte,reduceCtorEq]
      replace H0:=bind_some H0
      obtain ⟨y3,h_3,H0⟩:=H0
      refine lok_dt (Env.of E0 [⟨some 38,103,[.agg [.p (.val (.int .u64 b.abs.hi)),.p (.val (.int .u64 b.abs.lo))],.agg [.p (.val (.int .u64 a.abs.hi)),.p (.val (.int .u64 a.abs.lo))]],[],[.agg [.p (.val (.int .u64 y3.hi)),.p (.val (.int .u64 y3.lo))]],[],True,fun _ => ok_ratio_wide_minus b.abs a.abs y3 h_3,[]⟩]) 7 (⟨40,mkS [(4,.x (.one (.ptr 104 0)))],mkH [(104,.var [.p (.val (.bool b.neg)),.p (.val (.int .u64 y3.hi)),.p (.val (.int .u64 y3.lo))])]⟩) (by kernel_rfl) (by kernel_rfl) ?_
      refine lok_ret ?_
      obtain rfl:=Option.some.inj H0
      try simp only [thenL,blockL]
      exact fin_au _ (.inr rfl) [] (⟨40,mkS [(4,.x (.one (.ptr 104 0)))],mkH [(104,.var [.p (.val (.bool b.neg)),.p (.val (.int .u64 y3.hi)),.p (.val (.int .u64 y3.lo))])]⟩) rfl rfl imp_au
theorem ok_ratio_Sum (l : List api_Ratio) (r_ : api_Ratio × Int) (H0 : ratio_Sum l = some r_) : CallOK Try.prog 100 [.one (.p (.sl 2 (List.map enc_api_Ratio l)))] [] [.agg [.p (pi r_.1.Num),.p (pi r_.1.Den)],.one (.p (pi r_.2))] []:=by
  refine callOK (n:=79) (rs:=[.cell 2 36,.tmp 3]) (nb:=0) (V:=[]) Try.func100 rfl (by kernel_rfl) rfl rfl rfl rfl (Nat.le_of_ble_eq_true rfl) (by decide) ?_
  unfold ratio_Sum at H0
  refine lok_rt E0 (⟨79,mkS [(0,.x (.one (.p (.sl 2 (List.map enc_api_Ratio l))))),(2,.x (.one (.ptr 102 0)))],mkH [(102,.var [.p (pi (0:Int)),.p (pi (0:Int))])]⟩) ?_
  refine lok_seq ?_
  refine lok_rt E0 (⟨79,mkS [(0,.x (.one (.p (.sl 2 (List.map enc_api_Ratio l))))),(2,.x (.one (.ptr 102 0))),(16,.x (.one (.p (.val (.bool (decide ((100:Int) < (l.length:Int))))))))],mkH [(102,.var [.p (pi (0:Int)),.p (pi (0:Int))])]⟩) ?_
  refine lok_c (decide ((100:Int) < (l.length:Int))) ?_ ?_
  · intro b_19
    replace H0:=cpos H0 b_19
    refine lok_rt E0 (⟨79,mkS [(2,.x (.one (.ptr 102 0))),(3,.x (.one (.p (pi (3:Int)))))],mkH [(102,.var [.p (pi (0:Int)),.p (pi (0:Int))])]⟩) ?_
    refine lok_ret ?_
    obtain rfl:=Option.some.inj H0
    try simp only [thenL,blockL]
    exact fin_au _ (.inr rfl) [] (⟨79,mkS [(2,.x (.one (.ptr 102 0))),(3,.x (.one (.p (pi (3:Int)))))],mkH [(102,.var [.p (pi (0:Int)),.p (pi (0:Int))])]⟩) rfl rfl imp_au
  · intro b_19
    replace H0:=cneg H0 b_19
    refine lok_skip ?_
    try simp only [thenL,blockL,↓reduceIte,reduceCtorEq]
    refine lok_join (fun x_ : Unit => ratio_Sum_j5 l = some r_) (fun x_ => ⟨79,mkS [(0,.x (.one (.p (.sl 2 (List.map enc_api_Ratio l))))),(2,.x (.one (.ptr 102 0)))],mkH [(102,.var [.p (pi (0:Int)),.p (pi (0:Int))])]⟩) ?hyratio_Sum_j5 ?hxratio_Sum_j5
    case hyratio_Sum_j5 =>
      rintro _ H0
      try dsimp only at H0 ⊢
      unfold ratio_Sum_j5 at H0
      refine lok_rt E0 (⟨79,mkS [(0,.x (.one (.p (.sl 2 (List.map enc_api_Ratio l))))),(2,.x (.one (.ptr 102 0))),(6,.x (.one (.p (.val (.int .u64 (1:Int))))))],mkH [(102,.var [.p (pi (0:Int)),.p (pi (0:Int))])]⟩) ?_
      refine lok_join (fun x_ : Int => ratio_Sum_j3 l x_ = some r_) (fun x_ => ⟨79,mkS [(0,.x (.one (.p (.sl 2 (List.map enc_api_Ratio l))))),(2,.x (.one (.ptr 102 0))),(6,.x (.one (.p (.val (.int .u64 x_)))))],mkH [(102,.var [.p (pi (0:Int)),.p (pi (0:Int))])]⟩) ?hyratio_Sum_j3 ?hxratio_Sum_j3
      case hyratio_Sum_j3 =>
        rintro common H0
        try dsimp only at H0 ⊢
        unfold ratio_Sum_j3 at H0
        refine lok_rt E0 (⟨79,mkS [(0,.x (.one (.p (.sl 2 (List.map enc_api_Ratio l))))),(2,.x (.one (.ptr 102 0))),(6,.x (.one (.p (.val (.int .u64 common))))),(11,.x (.one (.ptr 111 0)))],mkH [(102,.var [.p (pi (0:Int)),.p (pi (0:Int))]),(111,.var [.p (.val (.bool false)),.p (.val (.int .u64 (0:Int))),.p (.val (.int .u64 (0:Int)))])]⟩) ?_
        refine lok_join (fun x_ : Bool × Int × Int => ratio_Sum_j1 common x_.1 x_.2.1 x_.2.2 = some r_) (fun x_ => ⟨79,mkS [(2,.x (.one (.ptr 102 0))),(6,.x (.one (.p (.val (.int .u64 common))))),(11,.x (.one (.ptr 111 0)))],mkH [(102,.var [.p (pi (0:Int)),.p (pi (0:Int))]),(111,.var [.p (.val (.bool x_.1)),.p (.val (.int .u64 x_.2.1)),.p (.val (.int .u64 x_.2.2))])]⟩) ?hyratio_Sum_j1 ?hxratio_Sum_j1
        case hyratio_Sum_j1 =>
          rintro ⟨sum,sum1,sum2⟩ H0
          try dsimp only at H0 ⊢
          unfold ratio_Sum_j1 at H0
          replace H0:=bind_some H0
          obtain ⟨⟨y,y1⟩,h_0,H0⟩:=H0
          try dsimp only at H0
          refine lok_rt (Env.of E0 [⟨some 76,76,[.agg [.p (.val (.bool sum)),.p (.val (.int .u64 sum1)),.p (.val (.int .u64 sum2))],.one (.p (.val (.int .u64 common)))],[],[.agg [.p (pi y.Num),.p (pi y.Den)],.one (.p (pi y1))],[],True,fun _ => ok_ratio_reduced (ratio_signed.mk sum (ratio_wide.mk sum1 sum2)) common (y,y1) h_0,[]⟩]) (⟨79,mkS [(2,.x (.one (.ptr 102 0))),(3,.x (.one (.p (pi y1))))],mkH [(102,.var [.p (pi y.Num),.p (pi y.Den)])]⟩) ?_
          refine lok_ret ?_
          obtain rfl:=Option.some.inj H0
          try simp only [thenL,blockL]
          exact fin_au _ (.inr rfl) [] (⟨79,mkS [(2,.x (.one (.ptr 102 0))),(3,.x (.one (.p (pi y1))))],mkH [(102,.var [.p (pi y.Num),.p (pi y.Den)])]⟩) rfl rfl imp_au
        case hxratio_Sum_j1 =>
          refine lok_rt E0 (⟨79,mkS [(2,.x (.one (.ptr 102 0))),(6,.x (.one (.p (.val (.int .u64 common))))),(11,.x (.one (.ptr 111 0))),(57,.x (.one (.p (.sl 2 (List.map enc_api_Ratio l))))),(58,.x (.one (.p (pi (l.length:Int))))),(59,.x (.one (.p (pi (0:Int)))))],mkH [(102,.var [.p (pi (0:Int)),.p (pi (0:Int))]),(111,.var [.p (.val (.bool false)),.p (.val (.int .u64 (0:Int))),.p (.val (.int .u64 (0:Int)))])]⟩) ?_
          refine lok_block ?_
          replace H0:=bind_some H0
          obtain ⟨v_1,hv_1,H0⟩:=H0
          refine lok_iter (fun x_ => ⟨79,mkS [(2,.x (.one (.ptr 102 0))),(6,.x (.one (.p (.val (.int .u64 common))))),(11,.x (.one (.ptr 111 0))),(57,.x (.one (.p (.sl 2 (List.map enc_api_Ratio l))))),(58,.x (.one (.p (pi (l.length:Int))))),(59,.x (.one (.p (pi x_.1))))],mkH [(102,.var [.p (pi (0:Int)),.p (pi (0:Int))]),(111,.var [.p (.val (.bool x_.2.1)),.p (.val (.int .u64 x_.2.2.1)),.p (.val (.int .u64 x_.2.2.2))])]⟩) hv_1 imp_au ?_
          · rintro ⟨v,sum3,sum4,sum5⟩ o_1 H1 k_1
            unfold ratio_Sum_l2 at H1
            try dsimp only at H1 ⊢
            refine lok_rt E0 (⟨79,mkS [(2,.x (.one (.ptr 102 0))),(6,.x (.one (.p (.val (.int .u64 common))))),(11,.x (.one (.ptr 111 0))),(57,.x (.one (.p (.sl 2 (List.map enc_api_Ratio l))))),(58,.x (.one (.p (pi (l.length:Int))))),(59,.x (.one (.p (pi v)))),(60,.x (.one (.p (.val (.bool (decide (v < (l.length:Int))))))))],mkH [(102,.var [.p (pi (0:Int)),.p (pi (0:Int))]),(111,.var [.p (.val (.bool sum3)),.p (.val (.int .u64 sum4)),.p (.val (.int .u64 sum5))])]⟩) ?_
            refine lok_seq ?_
            refine lok_c (decide (v < (l.length:Int))) ?_ ?_
            · intro b_6
              replace H1:=cpos H1 b_6
              refine lok_skip ?_
              try simp only [thenL,blockL,↓reduceIte,reduceCtorEq]
              refine lok_seq ?_
              refine lok_block ?_
              replace H1:=req_some H1
              obtain ⟨q_5,H1⟩:=H1
              refine lok_rt E0 (⟨79,mkS [(2,.x (.one (.ptr 102 0))),(6,.x (.one (.p (.val (.int .u64 common))))),(11,.x (.one (.ptr 111 0))),(13,.x (.one (.ptr 113 0))),(57,.x (.one (.p (.sl 2 (List.map enc_api_Ratio l))))),(58,.x (.one (.p (pi (l.length:Int))))),(59,.x (.one (.p (pi v))))],mkH [(102,.var [.p (pi (0:Int)),.p (pi (0:Int))]),(111,.var [.p (.val (.bool sum3)),.p (.val (.int .u64 sum4)),.p (.val (.int .u64 sum5))]),(113,.var [.p (pi ((ix l v).Num)),.p (pi ((ix l v).Den))])]⟩) ?_
              replace H1:=req_some H1
              obtain ⟨q_4,H1⟩:=H1
              replace H1:=bind_some H1
              obtain ⟨y2,h_2,H1⟩:=H1
              replace H1:=bind_some H1
              obtain ⟨y3,h_3,H1⟩:=H1
              refine lok_dl (Env.of E0 [⟨some 71,80,[.one (.p (pi ((ix l v).Num))),.one (.p (.val (.int .u64 (IntKind.u64.wrap (Int.tdiv common (IntKind.u64.wrap ((ix l v).Den)))))))],[],[.agg [.p (.val (.bool y2.neg)),.p (.val (.int .u64 y2.abs.hi)),.p (.val (.int .u64 y2.abs.lo))]],[],True,fun _ => ok_ratio_signedProduct ((ix l v).Num) (IntKind.u64.wrap (Int.tdiv common (IntKind.u64.wrap ((ix l v).Den)))) y2 h_2,[]⟩,
      ⟨some 72,81,[.agg [.p (.val (.bool sum3)),.p (.val (.int .u64 sum4)),.p (.val (.int .u64 sum5))],.agg [.p (.val (.bool y2.neg)),.p (.val (.int .u64 y2.abs.hi)),.p (.val (.int .u64 y2.abs.lo))]],[],[.agg [.p (.val (.bool y3.neg)),.p (.val (.int .u64 y3.abs.hi)),.p (.val (.int .u64 y3.abs.lo))]],[],True,fun _ => ok_ratio_signed_plus (ratio_signed.mk sum3 (ratio_wide.mk sum4 sum5)) y2 y3 h_3,[]⟩]) 9 (⟨79,mkS [(2,.x (.one (.ptr 102 0))),(6,.x (.one (.p (.val (.int .u64 common))))),(11,.x (.one (.ptr 111 0))),(57,.x (.one (.p (.sl 2 (List.map enc_api_Ratio l))))),(58,.x (.one (.p (pi (l.length:Int))))),(59,.x (.one (.p (pi v))))],mkH [(102,.var [.p (pi (0:Int)),.p (pi (0:Int))]),(111,.var [.p (.val (.bool y3.neg)),.p (.val (.int .u64 y3.abs.hi)),.p (.val (.int .u64 y3.abs.lo))])]⟩) (by kernel_rfl) (by kernel_rfl) ?_
              try simp only [thenL,blockL,↓reduceIte,reduceCtorEq]
              refine lok_rl E0 (⟨79,mkS [(2,.x (.one (.ptr 102 0))),(6,.x (.one (.p (.val (.int .u64 common))))),(11,.x (.one (.ptr 111 0))),(57,.x (.one (.p (.sl 2 (List.map enc_api_Ratio l))))),(58,.x (.one (.p (pi (l.length:Int))))),(59,.x (.one (.p (pi (IntKind.i64.wrap (v + (1:Int)))))))],mkH [(102,.var [.p (pi (0:Int)),.p (pi (0:Int))]),(111,.var [.p (.val (.bool y3.neg)),.p (.val (.int .u64 y3.abs.hi)),.p (.val (.int .u64 y3.abs.lo))])]⟩) ?_
              try simp only [thenL,blockL,↓reduceIte,reduceCtorEq]
              exact ⟨((IntKind.i64.wrap (v + (1:Int))),y3.neg,y3.abs.hi,y3.abs.lo),(Option.some.inj H1).symm,imp_au⟩
            · intro b_6
              replace H1:=cneg H1 b_6
              refine lok_exit ?_
              try simp only [thenL,blockL,↓reduceIte,reduceCtorEq]
              have e_1:=k_1 _ (Option.some.inj H1).symm
              subst e_1
              try dsimp only at H0
              try simp only [thenL,blockL,↓reduceIte,reduceCtorEq]
              exact ⟨(sum3,sum4,sum5),H0,imp_au⟩
      case hxratio_Sum_j3 =>
        refine lok_rt E0 (⟨79,mkS [(0,.x (.one (.p (.sl 2 (List.map enc_api_Ratio l))))),(2,.x (.one (.ptr 102 0))),(6,.x (.one (.p (.val (.int .u64 (1:Int)))))),(29,.x (.one (.p (.sl 2 (List.map enc_api_Ratio l))))),(30,.x (.one (.p (pi (l.length:Int))))),(31,.x (.one (.p (pi (0:Int)))))],mkH [(102,.var [.p (pi (0:Int)),.p (pi (0:Int))])]⟩) ?_
        refine lok_block ?_
        replace H0:=bind_some H0
        obtain ⟨v_7,hv_7,H0⟩:=H0
        refine lok_iter (fun x_ => ⟨79,mkS [(0,.x (.one (.p (.sl 2 (List.map enc_api_Ratio l))))),(2,.x (.one (.ptr 102 0))),(6,.x (.one (.p (.val (.int .u64 x_.1))))),(29,.x (.one (.p (.sl 2 (List.map enc_api_Ratio l))))),(30,.x (.one (.p (pi (l.length:Int))))),(31,.x (.one (.p (pi x_.2))))],mkH [(102,.var [.p (pi (0:Int)),.p (pi (0:Int))])]⟩) hv_7 imp_au ?_
        · rintro ⟨common1,v1⟩ o_1 H1 k_1
          unfold ratio_Sum_l4 at H1
          try dsimp only at H1 ⊢
          refine lok_rt E0 (⟨79,mkS [(0,.x (.one (.p (.sl 2 (List.map enc_api_Ratio l))))),(2,.x (.one (.ptr 102 0))),(6,.x (.one (.p (.val (.int .u64 common1))))),(29,.x (.one (.p (.sl 2 (List.map enc_api_Ratio l))))),(30,.x (.one (.p (pi (l.length:Int))))),(31,.x (.one (.p (pi v1)))),(32,.x (.one (.p (.val (.bool (decide (v1 < (l.length:Int))))))))],mkH [(102,.var [.p (pi (0:Int)),.p (pi (0:Int))])]⟩) ?_
          refine lok_seq ?_
          refine lok_c (decide (v1 < (l.length:Int))) ?_ ?_
          · intro b_13
            replace H1:=cpos H1 b_13
            refine lok_skip ?_
            try simp only [thenL,blockL,↓reduceIte,reduceCtorEq]
            refine lok_seq ?_
            refine lok_block ?_
            replace H1:=req_some H1
            obtain ⟨q_12,H1⟩:=H1
            refine lok_rt E0 (⟨79,mkS [(0,.x (.one (.p (.sl 2 (List.map enc_api_Ratio l))))),(2,.x (.one (.ptr 102 0))),(6,.x (.one (.p (.val (.int .u64 common1))))),(8,.x (.one (.ptr 108 0))),(29,.x (.one (.p (.sl 2 (List.map enc_api_Ratio l))))),(30,.x (.one (.p (pi (l.length:Int))))),(31,.x (.one (.p (pi v1))))],mkH [(102,.var [.p (pi (0:Int)),.p (pi (0:Int))]),(108,.var [.p (pi ((ix l v1).Num)),.p (pi ((ix l v1).Den))])]⟩) ?_
            refine lok_rt E0 (⟨79,mkS [(0,.x (.one (.p (.sl 2 (List.map enc_api_Ratio l))))),(2,.x (.one (.ptr 102 0))),(6,.x (.one (.p (.val (.int .u64 common1))))),(9,.x (.one (.p (.val (.int .u64 (IntKind.u64.wrap ((ix l v1).Den))))))),(29,.x (.one (.p (.sl 2 (List.map enc_api_Ratio l))))),(30,.x (.one (.p (pi (l.length:Int))))),(31,.x (.one (.p (pi v1))))],mkH [(102,.var [.p (pi (0:Int)),.p (pi (0:Int))])]⟩) ?_
            replace H1:=bind_some H1
            obtain ⟨y4,h_8,H1⟩:=H1
            replace H1:=req_some H1
            obtain ⟨q_11,H1⟩:=H1
            replace H1:=bind_some H1
            obtain ⟨y5,h_9,H1⟩:=H1
            refine lok_rt (Env.of E0 [⟨some 42,79,[.one (.p (.val (.int .u64 common1))),.one (.p (.val (.int .u64 (IntKind.u64.wrap ((ix l v1).Den)))))],[],[.one (.p (.val (.int .u64 y4)))],[],True,fun _ => ok_ratio_gcd common1 (IntKind.u64.wrap ((ix l v1).Den)) y4 h_8,[]⟩,
      ⟨some 44,85,[.one (.p (.val (.int .u64 common1))),.one (.p (.val (.int .u64 (IntKind.u64.wrap (Int.tdiv (IntKind.u64.wrap ((ix l v1).Den)) y4)))))],[],[.agg [.p (.val (.int .u64 y5.hi)),.p (.val (.int .u64 y5.lo))]],[],True,fun _ => ok_ratio_product common1 (IntKind.u64.wrap (Int.tdiv (IntKind.u64.wrap ((ix l v1).Den)) y4)) y5 h_9,[]⟩]) (⟨79,mkS [(0,.x (.one (.p (.sl 2 (List.map enc_api_Ratio l))))),(2,.x (.one (.ptr 102 0))),(10,.x (.one (.ptr 110 0))),(29,.x (.one (.p (.sl 2 (List.map enc_api_Ratio l))))),(30,.x (.one (.p (pi (l.length:Int))))),(31,.x (.one (.p (pi v1))))],mkH [(102,.var [.p (pi (0:Int)),.p (pi (0:Int))]),(110,.var [.p (.val (.int .u64 y5.hi)),.p (.val (.int .u64 y5.lo))])]⟩) ?_
            refine lok_seq ?_
            refine lok_rt E0 (⟨79,mkS [(0,.x (.one (.p (.sl 2 (List.map enc_api_Ratio l))))),(2,.x (.one (.ptr 102 0))),(10,.x (.one (.ptr 110 0))),(29,.x (.one (.p (.sl 2 (List.map enc_api_Ratio l))))),(30,.x (.one (.p (pi (l.length:Int))))),(31,.x (.one (.p (pi v1)))),(52,.x (.one (.p (.val (.bool ((y5.hi != (0:Int)) || (decide ((1152921504606846976:Int) < y5.lo))))))))],mkH [(102,.var [.p (pi (0:Int)),.p (pi (0:Int))]),(110,.var [.p (.val (.int .u64 y5.hi)),.p (.val (.int .u64 y5.lo))])]⟩) ?_
            refine lok_c ((y5.hi != (0:Int)) || (decide ((1152921504606846976:Int) < y5.lo))) ?_ ?_
            · intro b_10
              replace H1:=cpos H1 b_10
              refine lok_rt E0 (⟨79,mkS [(2,.x (.one (.ptr 102 0))),(3,.x (.one (.p (pi (6:Int)))))],mkH [(102,.var [.p (pi (0:Int)),.p (pi (0:Int))])]⟩) ?_
              refine lok_ret ?_
              try simp only [thenL,blockL,↓reduceIte,reduceCtorEq]
              have e_1:=k_1 _ (Option.some.inj H1).symm
              subst e_1
              try dsimp only at H0
              obtain rfl:=Option.some.inj H0
              try simp only [thenL,blockL]
              exact fin_au _ (.inr rfl) [] (⟨79,mkS [(2,.x (.one (.ptr 102 0))),(3,.x (.one (.p (pi (6:Int)))))],mkH [(102,.var [.p (pi (0:Int)),.p (pi (0:Int))])]⟩) rfl rfl imp_au
            · intro b_10
              replace H1:=cneg H1 b_10
              refine lok_skip ?_
              try simp only [thenL,blockL,↓reduceIte,reduceCtorEq]
              refine lok_rl E0 (⟨79,mkS [(0,.x (.one (.p (.sl 2 (List.map enc_api_Ratio l))))),(2,.x (.one (.ptr 102 0))),(6,.x (.one (.p (.val (.int .u64 y5.lo))))),(29,.x (.one (.p (.sl 2 (List.map enc_api_Ratio l))))),(30,.x (.one (.p (pi (l.length:Int))))),(31,.x (.one (.p (pi v1))))],mkH [(102,.var [.p (pi (0:Int)),.p (pi (0:Int))])]⟩) ?_
              try simp only [thenL,blockL,↓reduceIte,reduceCtorEq]
              refine lok_rl E0 (⟨79,mkS [(0,.x (.one (.p (.sl 2 (List.map enc_api_Ratio l))))),(2,.x (.one (.ptr 102 0))),(6,.x (.one (.p (.val (.int .u64 y5.lo))))),(29,.x (.one (.p (.sl 2 (List.map enc_api_Ratio l))))),(30,.x (.one (.p (pi (l.length:Int))))),(31,.x (.one (.p (pi (IntKind.i64.wrap (v1 + (1:Int)))))))],mkH [(102,.var [.p (pi (0:Int)),.p (pi (0:Int))])]⟩) ?_
              try simp only [thenL,blockL,↓reduceIte,reduceCtorEq]
              exact ⟨(y5.lo,(IntKind.i64.wrap (v1 + (1:Int)))),(Option.some.inj H1).symm,imp_au⟩
          · intro b_13
            replace H1:=cneg H1 b_13
            refine lok_exit ?_
            try simp only [thenL,blockL,↓reduceIte,reduceCtorEq]
            have e_1:=k_1 _ (Option.some.inj H1).symm
            subst e_1
            try dsimp only at H0
            try simp only [thenL,blockL,↓reduceIte,reduceCtorEq]
            exact ⟨common1,H0,imp_au⟩
    case hxratio_Sum_j5 =>
      refine lok_rt E0 (⟨79,mkS [(0,.x (.one (.p (.sl 2 (List.map enc_api_Ratio l))))),(2,.x (.one (.ptr 102 0))),(18,.x (.one (.p (.sl 2 (List.map enc_api_Ratio l))))),(19,.x (.one (.p (pi (l.length:Int))))),(20,.x (.one (.p (pi (0:Int)))))],mkH [(102,.var [.p (pi (0:Int)),.p (pi (0:Int))])]⟩) ?_
      refine lok_block ?_
      replace H0:=bind_some H0
      obtain ⟨v_14,hv_14,H0⟩:=H0
      refine lok_iter (fun x_ => ⟨79,mkS [(0,.x (.one (.p (.sl 2 (List.map enc_api_Ratio l))))),(2,.x (.one (.ptr 102 0))),(18,.x (.one (.p (.sl 2 (List.map enc_api_Ratio l))))),(19,.x (.one (.p (pi (l.length:Int))))),(20,.x (.one (.p (pi x_))))],mkH [(102,.var [.p (pi (0:Int)),.p (pi (0:Int))])]⟩) hv_14 imp_au ?_
      · rintro v2 o_1 H1 k_1
        unfold ratio_Sum_l6 at H1
        try dsimp only at H1 ⊢
        refine lok_rt E0 (⟨79,mkS [(0,.x (.one (.p (.sl 2 (List.map enc_api_Ratio l))))),(2,.x (.one (.ptr 102 0))),(18,.x (.one (.p (.sl 2 (List.map enc_api_Ratio l))))),(19,.x (.one (.p (pi (l.length:Int))))),(20,.x (.one (.p (pi v2)))),(21,.x (.one (.p (.val (.bool (decide (v2 < (l.length:Int))))))))],mkH [(102,.var [.p (pi (0:Int)),.p (pi (0:Int))])]⟩) ?_
        refine lok_seq ?_
        refine lok_c (decide (v2 < (l.length:Int))) ?_ ?_
        · intro b_18
          replace H1:=cpos H1 b_18
          refine lok_skip ?_
          try simp only [thenL,blockL,↓reduceIte,reduceCtorEq]
          refine lok_seq ?_
          refine lok_block ?_
          replace H1:=req_some H1
          obtain ⟨q_17,H1⟩:=H1
          refine lok_rt E0 (⟨79,mkS [(0,.x (.one (.p (.sl 2 (List.map enc_api_Ratio l))))),(2,.x (.one (.ptr 102 0))),(5,.x (.one (.ptr 105 0))),(18,.x (.one (.p (.sl 2 (List.map enc_api_Ratio l))))),(19,.x (.one (.p (pi (l.length:Int))))),(20,.x (.one (.p (pi v2))))],mkH [(102,.var [.p (pi (0:Int)),.p (pi (0:Int))]),(105,.var [.p (pi ((ix l v2).Num)),.p (pi ((ix l v2).Den))])]⟩) ?_
          replace H1:=bind_some H1
          obtain ⟨y6,h_15,H1⟩:=H1
          refine lok_rt (Env.of E0 [⟨some 25,78,[.agg [.p (pi ((ix l v2).Num)),.p (pi ((ix l v2).Den))]],[],[.one (.p (.val (.bool y6)))],[],True,fun _ => ok_ratio_Valid (ix l v2) y6 h_15,[]⟩]) (⟨79,mkS [(0,.x (.one (.p (.sl 2 (List.map enc_api_Ratio l))))),(2,.x (.one (.ptr 102 0))),(18,.x (.one (.p (.sl 2 (List.map enc_api_Ratio l))))),(19,.x (.one (.p (pi (l.length:Int))))),(20,.x (.one (.p (pi v2)))),(26,.x (.one (.p (.val (.bool (!y6))))))],mkH [(102,.var [.p (pi (0:Int)),.p (pi (0:Int))])]⟩) ?_
          refine lok_c (!y6) ?_ ?_
          · intro b_16
            replace H1:=cpos H1 b_16
            refine lok_rt E0 (⟨79,mkS [(2,.x (.one (.ptr 102 0))),(3,.x (.one (.p (pi (1:Int)))))],mkH [(102,.var [.p (pi (0:Int)),.p (pi (0:Int))])]⟩) ?_
            refine lok_ret ?_
            try simp only [thenL,blockL,↓reduceIte,reduceCtorEq]
            have e_1:=k_1 _ (Option.some.inj H1).symm
            subst e_1
            try dsimp only at H0
            obtain rfl:=Option.some.inj H0
            try simp only [thenL,blockL]
            exact fin_au _ (.inr rfl) [] (⟨79,mkS [(2,.x (.one (.ptr 102 0))),(3,.x (.one (.p (pi (1:Int)))))],mkH [(102,.var [.p (pi (0:Int)),.p (pi (0:Int))])]⟩) rfl rfl imp_au
          · intro b_16
            replace H1:=cneg H1 b_16
            refine lok_skip ?_
            try simp only [thenL,blockL,↓reduceIte,reduceCtorEq]
            refine lok_rl E0 (⟨79,mkS [(0,.x (.one (.p (.sl 2 (List.map enc_api_Ratio l))))),(2,.x (.one (.ptr 102 0))),(18,.x (.one (.p (.sl 2 (List.map enc_api_Ratio l))))),(19,.x (.one (.p (pi (l.length:Int))))),(20,.x (.one (.p (pi (IntKind.i64.wrap (v2 + (1:Int)))))))],mkH [(102,.var [.p (pi (0:Int)),.p (pi (0:Int))])]⟩) ?_
            try simp only [thenL,blockL,↓reduceIte,reduceCtorEq]
            exact ⟨(IntKind.i64.wrap (v2 + (1:Int))),(Option.some.inj H1).symm,imp_au⟩
        · intro b_18
          replace H1:=cneg H1 b_18
          refine lok_exit ?_
          try simp only [thenL,blockL,↓reduceIte,reduceCtorEq]
          have e_1:=k_1 _ (Option.some.inj H1).symm
          subst e_1
          try dsimp only at H0
          try simp only [thenL,blockL,↓reduceIte,reduceCtorEq]
          exact ⟨(),H0,imp_au⟩
theorem ok_ratio_Mul (a : api_Ratio) (b : api_Ratio) (r_ : api_Ratio × Int) (H0 : ratio_Mul a b = some r_) : CallOK Try.prog 75 [.agg [.p (pi a.Num),.p (pi a.Den)],.agg [.p (pi b.Num),.p (pi b.Den)]] [] [.agg [.p (pi r_.1.Num),.p (pi r_.1.Den)],.one (.p (pi r_.2))] []:=by
  refine callOK (n:=65) (rs:=[.cell 4 36,.tmp 5]) (nb:=0) (V:=[]) Try.func75 rfl (by kernel_rfl) rfl rfl rfl rfl (Nat.le_of_ble_eq_true rfl) (by decide) ?_
  unfold ratio_Mul at H0
  refine lok_rt E0 (⟨65,mkS [(2,.x (.one (.ptr 102 0))),(3,.x (.one (.ptr 103 0))),(4,.x (.one (.ptr 104 0)))],mkH [(102,.var [.p (pi a.Num),.p (pi a.Den)]),(103,.var [.p (pi b.Num),.p (pi b.Den)]),(104,.var [.p (pi (0:Int)),.p (pi (0:Int))])]⟩) ?_
  refine lok_seq ?_
  replace H0:=bind_some H0
  obtain ⟨y,h_0,H0⟩:=H0
  replace H0:=req_some H0
  obtain ⟨q_13,H0⟩:=H0
  refine lok_rt (Env.of E0 [⟨some 14,78,[.agg [.p (pi a.Num),.p (pi a.Den)]],[],[.one (.p (.val (.bool y)))],[],True,fun _ => ok_ratio_Valid a y h_0,[]⟩,
      ⟨some 18,78,[.agg [.p (pi b.Num),.p (pi b.Den)]],[],[.one (.p (.val (.bool ((ratio_Valid b).getD default))))],[],(ratio_Valid b).isSome = true,fun h => ok_ratio_Valid b _ (isSome_get h),[]⟩]) (⟨65,mkS [(2,.x (.one (.ptr 102 0))),(3,.x (.one (.ptr 103 0))),(4,.x (.one (.ptr 104 0))),(20,.x (.one (.p (.val (.bool ((!y) || (!((ratio_Valid b).getD default))))))))],mkH [(102,.var [.p (pi a.Num),.p (pi a.Den)]),(103,.var [.p (pi b.Num),.p (pi b.Den)]),(104,.var [.p (pi (0:Int)),.p (pi (0:Int))])]⟩) ?_
  refine lok_c ((!y) || (!((ratio_Valid b).getD default))) ?_ ?_
  · intro b_12
    replace H0:=cpos H0 b_12
    refine lok_rt E0 (⟨65,mkS [(4,.x (.one (.ptr 104 0))),(5,.x (.one (.p (pi (1:Int)))))],mkH [(104,.var [.p (pi (0:Int)),.p (pi (0:Int))])]⟩) ?_
    refine lok_ret ?_
    obtain rfl:=Option.some.inj H0
    try simp only [thenL,blockL]
    exact fin_au _ (.inr rfl) [] (⟨65,mkS [(4,.x (.one (.ptr 104 0))),(5,.x (.one (.p (pi (1:Int)))))],mkH [(104,.var [.p (pi (0:Int)),.p (pi (0:Int))])]⟩) rfl rfl imp_au
  · intro b_12
    replace H0:=cneg H0 b_12
    refine lok_skip ?_
    try simp only [thenL,blockL,↓reduceIte,reduceCtorEq]
    replace H0:=bind_some H0
    obtain ⟨y1,h_1,H0⟩:=H0
    replace H0:=bind_some H0
    obtain ⟨y2,h_2,H0⟩:=H0
    refine lok_dt (Env.of E0 [⟨some 24,77,[.one (.p (pi a.Num))],[],[.one (.p (.val (.int .u64 y1)))],[],True,fun _ => ok_ratio_magnitude a.Num y1 h_1,[]⟩,
      ⟨some 27,77,[.one (.p (pi b.Num))],[],[.one (.p (.val (.int .u64 y2)))],[],True,fun _ => ok_ratio_magnitude b.Num y2 h_2,[]⟩]) 5 (⟨65,mkS [(2,.x (.one (.ptr 102 0))),(3,.x (.one (.ptr 103 0))),(4,.x (.one (.ptr 104 0))),(6,.x (.one (.p (.val (.int .u64 y1))))),(7,.x (.one (.p (.val (.int .u64 y2)))))],mkH [(102,.var [.p (pi a.Num),.p (pi a.Den)]),(103,.var [.p (pi b.Num),.p (pi b.Den)]),(104,.var [.p (pi (0:Int)),.p (pi (0:Int))])]⟩) (by kernel_rfl) (by kernel_rfl) ?_
    refine lok_dt E0 7 (⟨65,mkS [(2,.x (.one (.ptr 102 0))),(3,.x (.one (.ptr 103 0))),(4,.x (.one (.ptr 104 0))),(6,.x (.one (.p (.val (.int .u64 y1))))),(7,.x (.one (.p (.val (.int .u64 y2))))),(8,.x (.one (.p (.val (.int .u64 (IntKind.u64.wrap a.Den)))))),(9,.x (.one (.p (.val (.int .u64 (IntKind.u64.wrap b.Den))))))],mkH [(102,.var [.p (pi a.Num),.p (pi a.Den)]),(103,.var [.p (pi b.Num),.p (pi b.Den)]),(104,.var [.p (pi (0:Int)),.p (pi (0:Int))])]⟩) (by kernel_rfl) (by kernel_rfl) ?_
    replace H0:=bind_some H0
    obtain ⟨y3,h_3,H0⟩:=H0
    replace H0:=bind_some H0
    obtain ⟨y4,h_4,H0⟩:=H0
    refine lok_rt (Env.of E0 [⟨some 36,79,[.one (.p (.val (.int .u64 y1))),.one (.p (.val (.int .u64 (IntKind.u64.wrap b.Den))))],[],[.one (.p (.val (.int .u64 y3)))],[],True,fun _ => ok_ratio_gcd y1 (IntKind.u64.wrap b.Den) y3 h_3,[]⟩,
      ⟨some 39,79,[.one (.p (.val (.int .u64 y2))),.one (.p (.val (.int .u64 (IntKind.u64.wrap a.Den))))],[],[.one (.p (.val (.int .u64 y4)))],[],True,fun _ => ok_ratio_gcd y2 (IntKind.u64.wrap a.Den) y4 h_4,[]⟩]) (⟨65,mkS [(2,.x (.one (.ptr 102 0))),(3,.x (.one (.ptr 103 0))),(4,.x (.one (.ptr 104 0))),(6,.x (.one (.p (.val (.int .u64 y1))))),(7,.x (.one (.p (.val (.int .u64 y2))))),(8,.x (.one (.p (.val (.int .u64 (IntKind.u64.wrap a.Den)))))),(9,.x (.one (.p (.val (.int .u64 (IntKind.u64.wrap b.Den)))))),(10,.x (.one (.p (.val (.int .u64 y3))))),(11,.x (.one (.p (.val (.int .u64 y4)))))],mkH [(102,.var [.p (pi a.Num),.p (pi a.Den)]),(103,.var [.p (pi b.Num),.p (pi b.Den)]),(104,.var [.p (pi (0:Int)),.p (pi (0:Int))])]⟩) ?_
    refine lok_rt E0 (⟨65,mkS [(4,.x (.one (.ptr 104 0))),(6,.x (.one (.p (.val (.int .u64 y1))))),(7,.x (.one (.p (.val (.int .u64 y2))))),(8,.x (.one (.p (.val (.int .u64 (IntKind.u64.wrap a.Den)))))),(9,.x (.one (.p (.val (.int .u64 (IntKind.u64.wrap b.Den)))))),(10,.x (.one (.p (.val (.int .u64 y3))))),(11,.x (.one (.p (.val (.int .u64 y4))))),(12,.x (.one (.p (.val (.bool (!((decide (a.Num < (0:Int))) == (decide (b.Num < (0:Int))))))))))],mkH [(104,.var [.p (pi (0:Int)),.p (pi (0:Int))])]⟩) ?_
    replace H0:=req_some H0
    obtain ⟨⟨q_8,q_9⟩,H0⟩:=H0
    replace H0:=bind_some H0
    obtain ⟨y5,h_5,H0⟩:=H0
    replace H0:=req_some H0
    obtain ⟨⟨q_10,q_11⟩,H0⟩:=H0
    replace H0:=bind_some H0
    obtain ⟨y6,h_6,H0⟩:=H0
    replace H0:=bind_some H0
    obtain ⟨⟨y7,y8⟩,h_7,H0⟩:=H0
    try dsimp only at H0
    refine lok_dt (Env.of E0 [⟨some 54,85,[.one (.p (.val (.int .u64 (IntKind.u64.wrap (Int.tdiv y1 y3))))),.one (.p (.val (.int .u64 (IntKind.u64.wrap (Int.tdiv y2 y4)))))],[],[.agg [.p (.val (.int .u64 y5.hi)),.p (.val (.int .u64 y5.lo))]],[],True,fun _ => ok_ratio_product (IntKind.u64.wrap (Int.tdiv y1 y3)) (IntKind.u64.wrap (Int.tdiv y2 y4)) y5 h_5,[]⟩,
      ⟨some 61,85,[.one (.p (.val (.int .u64 (IntKind.u64.wrap (Int.tdiv (IntKind.u64.wrap a.Den) y4))))),.one (.p (.val (.int .u64 (IntKind.u64.wrap (Int.tdiv (IntKind.u64.wrap b.Den) y3)))))],[],[.agg [.p (.val (.int .u64 y6.hi)),.p (.val (.int .u64 y6.lo))]],[],True,fun _ => ok_ratio_product (IntKind.u64.wrap (Int.tdiv (IntKind.u64.wrap a.Den) y4)) (IntKind.u64.wrap (Int.tdiv (IntKind.u64.wrap b.Den) y3)) y6 h_6,[]⟩,
      ⟨some 62,83,[.one (.p (.val (.bool (!((decide (a.Num < (0:Int))) == (decide (b.Num < (0:Int)))))))),.agg [.p (.val (.int .u64 y5.hi)),.p (.val (.int .u64 y5.lo))],.agg [.p (.val (.int .u64 y6.hi)),.p (.val (.int .u64 y6.lo))]],[],[.agg [.p (pi y7.Num),.p (pi y7.Den)],.one (.p (pi y8))],[],True,fun _ => ok_ratio_fitted (!((decide (a.Num < (0:Int))) == (decide (b.Num < (0:Int))))) y5 y6 (y7,y8) h_7,[]⟩]) 18 (⟨65,mkS [(4,.x (.one (.ptr 104 0))),(5,.x (.one (.p (pi y8))))],mkH [(104,.var [.p (pi y7.Num),.p (pi y7.Den)])]⟩) (by kernel_rfl) (by kernel_rfl) ?_
    refine lok_ret ?_
    obtain rfl:=Option.some.inj H0
    try simp only [thenL,blockL]
    exact fin_au _ (.inr rfl) [] (⟨65,mkS [(4,.x (.one (.ptr 104 0))),(5,.x (.one (.p (pi y8))))],mkH [(104,.var [.p (pi y7.Num),.p (pi y7.Den)])]⟩) rfl rfl imp_au
theorem ok_aggregate_weighted (a : api_Award) (l : List api_UnitMark) (r_ : api_Ratio × Int × Int) (H0 : aggregate_weighted a l = some r_) : CallOK Try.prog 74 [.agg [.p (.sl 3 (List.map enc_api_Unit a.Units)),.p (.sl 1 (List.map encI a.Bounds)),.p (pi a.Max)],.one (.p (.sl 3 (List.map enc_api_UnitMark l)))] [] [.agg [.p (pi r_.1.Num),.p (pi r_.1.Den)],.one (.p (pi r_.2.1)),.one (.p (pi r_.2.2))] []:=by
  refine callOK (n:=77) (rs:=[.cell 4 36,.tmp 5,.tmp 6]) (nb:=0) (V:=[]) Try.func74 rfl (by kernel_rfl) rfl rfl rfl rfl (Nat.le_of_ble_eq_true rfl) (by decide) ?_
  unfold aggregate_weighted at H0
  refine lok_rt E0 (⟨77,mkS [(1,.x (.one (.p (.sl 3 (List.map enc_api_UnitMark l))))),(2,.x (.one (.ptr 102 0))),(4,.x (.one (.ptr 104 0)))],mkH [(102,.var [.p (.sl 3 (List.map enc_api_Unit a.Units)),.p (.sl 1 (List.map encI a.Bounds)),.p (pi a.Max)]),(104,.var [.p (pi (0:Int)),.p (pi (0:Int))])]⟩) ?_
  refine lok_rt E0 (⟨77,mkS [(1,.x (.one (.p (.sl 3 (List.map enc_api_UnitMark l))))),(2,.x (.one (.ptr 102 0))),(4,.x (.one (.ptr 104 0))),(7,.x (.one (.p (pi (0:Int)))))],mkH [(102,.var [.p (.sl 3 (List.map enc_api_Unit a.Units)),.p (.sl 1 (List.map encI a.Bounds)),.p (pi a.Max)]),(104,.var [.p (pi (0:Int)),.p (pi (0:Int))])]⟩) ?_
  refine lok_rt E0 (⟨77,mkS [(1,.x (.one (.p (.sl 3 (List.map enc_api_UnitMark l))))),(2,.x (.one (.ptr 102 0))),(4,.x (.one (.ptr 104 0))),(7,.x (.one (.p (pi (0:Int))))),(8,.x (.one (.vw 108)))],mkH [(102,.var [.p (.sl 3 (List.map enc_api_Unit a.Units)),.p (.sl 1 (List.map encI a.Bounds)),.p (pi a.Max)]),(104,.var [.p (pi (0:Int)),.p (pi (0:Int))]),(108,.arr 2 (List.map enc_api_Ratio ([] : List api_Ratio)))]⟩) ?_
  refine lok_join (fun x_ : Int × (List api_Ratio) => aggregate_weighted_j1 x_.1 x_.2 = some r_) (fun x_ => ⟨77,mkS [(4,.x (.one (.ptr 104 0))),(7,.x (.one (.p (pi x_.1)))),(8,.x (.one (.vw 108)))],mkH [(104,.var [.p (pi (0:Int)),.p (pi (0:Int))]),(108,.arr 2 (List.map enc_api_Ratio x_.2))]⟩) ?hyaggregate_weighted_j1 ?hxaggregate_weighted_j1
  case hyaggregate_weighted_j1 =>
    rintro ⟨weights,terms⟩ H0
    try dsimp only at H0 ⊢
    unfold aggregate_weighted_j1 at H0
    replace H0:=bind_some H0
    obtain ⟨⟨y,y1⟩,h_0,H0⟩:=H0
    try dsimp only at H0
    refine lok_rt (Env.of E0 [⟨some 71,100,[.one (.p (.sl 2 (List.map enc_api_Ratio terms)))],[],[.agg [.p (pi y.Num),.p (pi y.Den)],.one (.p (pi y1))],[],True,fun _ => ok_ratio_Sum terms (y,y1) h_0,[]⟩]) (⟨77,mkS [(4,.x (.one (.ptr 104 0))),(7,.x (.one (.p (pi weights)))),(15,.x (.one (.ptr 115 0))),(16,.x (.one (.p (pi y1))))],mkH [(104,.var [.p (pi (0:Int)),.p (pi (0:Int))]),(115,.var [.p (pi y.Num),.p (pi y.Den)])]⟩) ?_
    refine lok_rt E0 (⟨77,mkS [(4,.x (.one (.ptr 104 0))),(5,.x (.one (.p (pi weights)))),(6,.x (.one (.p (pi y1))))],mkH [(104,.var [.p (pi y.Num),.p (pi y.Den)])]⟩) ?_
    refine lok_ret ?_
    obtain rfl:=Option.some.inj H0
    try simp only [thenL,blockL]
    exact fin_au _ (.inr rfl) [] (⟨77,mkS [(4,.x (.one (.ptr 104 0))),(5,.x (.one (.p (pi weights)))),(6,.x (.one (.p (pi y1))))],mkH [(104,.var [.p (pi y.Num),.p (pi y.Den)])]⟩) rfl rfl imp_au
  case hxaggregate_weighted_j1 =>
    refine lok_rt E0 (⟨77,mkS [(2,.x (.one (.ptr 102 0))),(4,.x (.one (.ptr 104 0))),(7,.x (.one (.p (pi (0:Int))))),(8,.x (.one (.vw 108))),(17,.x (.one (.p (.sl 3 (List.map enc_api_UnitMark l))))),(18,.x (.one (.p (pi (l.length:Int))))),(19,.x (.one (.p (pi (0:Int)))))],mkH [(102,.var [.p (.sl 3 (List.map enc_api_Unit a.Units)),.p (.sl 1 (List.map encI a.Bounds)),.p (pi a.Max)]),(104,.var [.p (pi (0:Int)),.p (pi (0:Int))]),(108,.arr 2 (List.map enc_api_Ratio ([] : List api_Ratio)))]⟩) ?_
    refine lok_block ?_
    replace H0:=bind_some H0
    obtain ⟨v_1,hv_1,H0⟩:=H0
    refine lok_iter (fun x_ => ⟨77,mkS [(2,.x (.one (.ptr 102 0))),(4,.x (.one (.ptr 104 0))),(7,.x (.one (.p (pi x_.1)))),(8,.x (.one (.vw 108))),(17,.x (.one (.p (.sl 3 (List.map enc_api_UnitMark l))))),(18,.x (.one (.p (pi (l.length:Int))))),(19,.x (.one (.p (pi x_.2.1))))],mkH [(102,.var [.p (.sl 3 (List.map enc_api_Unit a.Units)),.p (.sl 1 (List.map encI a.Bounds)),.p (pi a.Max)]),(104,.var [.p (pi (0:Int)),.p (pi (0:Int))]),(108,.arr 2 (List.map enc_api_Ratio x_.2.2))]⟩) hv_1 imp_au ?_
    · rintro ⟨weights1,v,terms1⟩ o_1 H1 k_1
      unfold aggregate_weighted_l3 at H1
      try dsimp only at H1 ⊢
      refine lok_rt E0 (⟨77,mkS [(2,.x (.one (.ptr 102 0))),(4,.x (.one (.ptr 104 0))),(7,.x (.one (.p (pi weights1)))),(8,.x (.one (.vw 108))),(17,.x (.one (.p (.sl 3 (List.map enc_api_UnitMark l))))),(18,.x (.one (.p (pi (l.length:Int))))),(19,.x (.one (.p (pi v)))),(20,.x (.one (.p (.val (.bool (decide (v < (l.length:Int))))))))],mkH [(102,.var [.p (.sl 3 (List.map enc_api_Unit a.Units)),.p (.sl 1 (List.map encI a.Bounds)),.p (pi a.Max)]),(104,.var [.p (pi (0:Int)),.p (pi (0:Int))]),(108,.arr 2 (List.map enc_api_Ratio terms1))]⟩) ?_
      refine lok_seq ?_
      refine lok_c (decide (v < (l.length:Int))) ?_ ?_
      · intro b_10
        replace H1:=cpos H1 b_10
        refine lok_skip ?_
        try simp only [thenL,blockL,↓reduceIte,reduceCtorEq]
        refine lok_join (fun x_ : Int × (List api_Ratio) => aggregate_weighted_j2 v x_.1 x_.2 = some o_1) (fun x_ => ⟨77,mkS [(2,.x (.one (.ptr 102 0))),(4,.x (.one (.ptr 104 0))),(7,.x (.one (.p (pi x_.1)))),(8,.x (.one (.vw 108))),(17,.x (.one (.p (.sl 3 (List.map enc_api_UnitMark l))))),(18,.x (.one (.p (pi (l.length:Int))))),(19,.x (.one (.p (pi v))))],mkH [(102,.var [.p (.sl 3 (List.map enc_api_Unit a.Units)),.p (.sl 1 (List.map encI a.Bounds)),.p (pi a.Max)]),(104,.var [.p (pi (0:Int)),.p (pi (0:Int))]),(108,.arr 2 (List.map enc_api_Ratio x_.2))]⟩) ?hyaggregate_weighted_j2 ?hxaggregate_weighted_j2
        case hyaggregate_weighted_j2 =>
          rintro ⟨weights3,terms3⟩ H1
          try dsimp only at H1 ⊢
          unfold aggregate_weighted_j2 at H1
          refine lok_rl E0 (⟨77,mkS [(2,.x (.one (.ptr 102 0))),(4,.x (.one (.ptr 104 0))),(7,.x (.one (.p (pi weights3)))),(8,.x (.one (.vw 108))),(17,.x (.one (.p (.sl 3 (List.map enc_api_UnitMark l))))),(18,.x (.one (.p (pi (l.length:Int))))),(19,.x (.one (.p (pi (IntKind.i64.wrap (v + (1:Int)))))))],mkH [(102,.var [.p (.sl 3 (List.map enc_api_Unit a.Units)),.p (.sl 1 (List.map encI a.Bounds)),.p (pi a.Max)]),(104,.var [.p (pi (0:Int)),.p (pi (0:Int))]),(108,.arr 2 (List.map enc_api_Ratio terms3))]⟩) ?_
          try simp only [thenL,blockL,↓reduceIte,reduceCtorEq]
          exact ⟨(weights3,(IntKind.i64.wrap (v + (1:Int))),terms3),(Option.some.inj H1).symm,imp_au⟩
        case hxaggregate_weighted_j2 =>
          refine lok_block ?_
          replace H1:=req_some H1
          obtain ⟨q_9,H1⟩:=H1
          refine lok_rt E0 (⟨77,mkS [(2,.x (.one (.ptr 102 0))),(4,.x (.one (.ptr 104 0))),(7,.x (.one (.p (pi weights1)))),(8,.x (.one (.vw 108))),(9,.x (.one (.p (pi v)))),(10,.x (.one (.ptr 110 0))),(17,.x (.one (.p (.sl 3 (List.map enc_api_UnitMark l))))),(18,.x (.one (.p (pi (l.length:Int))))),(19,.x (.one (.p (pi v))))],mkH [(102,.var [.p (.sl 3 (List.map enc_api_Unit a.Units)),.p (.sl 1 (List.map encI a.Bounds)),.p (pi a.Max)]),(104,.var [.p (pi (0:Int)),.p (pi (0:Int))]),(108,.arr 2 (List.map enc_api_Ratio terms1)),(110,.var [.p (pi ((ix l v).Kind)),.p (pi (((ix l v).Value).Num)),.p (pi (((ix l v).Value).Den))])]⟩) ?_
          refine lok_seq ?_
          refine lok_rt E0 (⟨77,mkS [(2,.x (.one (.ptr 102 0))),(4,.x (.one (.ptr 104 0))),(7,.x (.one (.p (pi weights1)))),(8,.x (.one (.vw 108))),(9,.x (.one (.p (pi v)))),(10,.x (.one (.ptr 110 0))),(17,.x (.one (.p (.sl 3 (List.map enc_api_UnitMark l))))),(18,.x (.one (.p (pi (l.length:Int))))),(19,.x (.one (.p (pi v)))),(31,.x (.one (.p (.val (.bool (((ix l v).Kind != (0:Int)) && ((ix l v).Kind != (1:Int))))))))],mkH [(102,.var [.p (.sl 3 (List.map enc_api_Unit a.Units)),.p (.sl 1 (List.map encI a.Bounds)),.p (pi a.Max)]),(104,.var [.p (pi (0:Int)),.p (pi (0:Int))]),(108,.arr 2 (List.map enc_api_Ratio terms1)),(110,.var [.p (pi ((ix l v).Kind)),.p (pi (((ix l v).Value).Num)),.p (pi (((ix l v).Value).Den))])]⟩) ?_
          refine lok_c (((ix l v).Kind != (0:Int)) && ((ix l v).Kind != (1:Int))) ?_ ?_
          · intro b_8
            replace H1:=cpos H1 b_8
            refine lok_exit ?_
            try simp only [thenL,blockL,↓reduceIte,reduceCtorEq]
            exact ⟨(weights1,terms1),H1,imp_au⟩
          · intro b_8
            replace H1:=cneg H1 b_8
            refine lok_skip ?_
            try simp only [thenL,blockL,↓reduceIte,reduceCtorEq]
            replace H1:=req_some H1
            obtain ⟨q_7,H1⟩:=H1
            refine lok_rt E0 (⟨77,mkS [(2,.x (.one (.ptr 102 0))),(4,.x (.one (.ptr 104 0))),(7,.x (.one (.p (pi weights1)))),(8,.x (.one (.vw 108))),(10,.x (.one (.ptr 110 0))),(11,.x (.one (.ptr 111 0))),(17,.x (.one (.p (.sl 3 (List.map enc_api_UnitMark l))))),(18,.x (.one (.p (pi (l.length:Int))))),(19,.x (.one (.p (pi v))))],mkH [(102,.var [.p (.sl 3 (List.map enc_api_Unit a.Units)),.p (.sl 1 (List.map encI a.Bounds)),.p (pi a.Max)]),(104,.var [.p (pi (0:Int)),.p (pi (0:Int))]),(108,.arr 2 (List.map enc_api_Ratio terms1)),(110,.var [.p (pi ((ix l v).Kind)),.p (pi (((ix l v).Value).Num)),.p (pi (((ix l v).Value).Den))]),(111,.var [.p (pi ((ix a.Units v).Paper)),.p (pi ((ix a.Units v).Weight)),.p (pi ((ix a.Units v).Max))])]⟩) ?_
            refine lok_rt E0 (⟨77,mkS [(2,.x (.one (.ptr 102 0))),(4,.x (.one (.ptr 104 0))),(7,.x (.one (.p (pi (IntKind.i64.wrap (weights1 + (ix a.Units v).Weight)))))),(8,.x (.one (.vw 108))),(10,.x (.one (.ptr 110 0))),(11,.x (.one (.ptr 111 0))),(17,.x (.one (.p (.sl 3 (List.map enc_api_UnitMark l))))),(18,.x (.one (.p (pi (l.length:Int))))),(19,.x (.one (.p (pi v))))],mkH [(102,.var [.p (.sl 3 (List.map enc_api_Unit a.Units)),.p (.sl 1 (List.map encI a.Bounds)),.p (pi a.Max)]),(104,.var [.p (pi (0:Int)),.p (pi (0:Int))]),(108,.arr 2 (List.map enc_api_Ratio terms1)),(110,.var [.p (pi ((ix l v).Kind)),.p (pi (((ix l v).Value).Num)),.p (pi (((ix l v).Value).Den))]),(111,.var [.p (pi ((ix a.Units v).Paper)),.p (pi ((ix a.Units v).Weight)),.p (pi ((ix a.Units v).Max))])]⟩) ?_
            replace H1:=bind_some H1
            obtain ⟨⟨y2,y3⟩,h_2,H1⟩:=H1
            try dsimp only at H1
            refine lok_rt (Env.of E0 [⟨some 46,47,[.one (.p (pi ((ix a.Units v).Weight))),.one (.p (pi ((ix a.Units v).Max)))],[],[.agg [.p (pi y2.Num),.p (pi y2.Den)],.one (.p (pi y3))],[],True,fun _ => ok_ratio_New ((ix a.Units v).Weight) ((ix a.Units v).Max) (y2,y3) h_2,[]⟩]) (⟨77,mkS [(2,.x (.one (.ptr 102 0))),(4,.x (.one (.ptr 104 0))),(7,.x (.one (.p (pi (IntKind.i64.wrap (weights1 + (ix a.Units v).Weight)))))),(8,.x (.one (.vw 108))),(10,.x (.one (.ptr 110 0))),(12,.x (.one (.ptr 112 0))),(13,.x (.one (.p (pi y3)))),(17,.x (.one (.p (.sl 3 (List.map enc_api_UnitMark l))))),(18,.x (.one (.p (pi (l.length:Int))))),(19,.x (.one (.p (pi v))))],mkH [(102,.var [.p (.sl 3 (List.map enc_api_Unit a.Units)),.p (.sl 1 (List.map encI a.Bounds)),.p (pi a.Max)]),(104,.var [.p (pi (0:Int)),.p (pi (0:Int))]),(108,.arr 2 (List.map enc_api_Ratio terms1)),(110,.var [.p (pi ((ix l v).Kind)),.p (pi (((ix l v).Value).Num)),.p (pi (((ix l v).Value).Den))]),(112,.var [.p (pi y2.Num),.p (pi y2.Den)])]⟩) ?_
            refine lok_seq ?_
            refine lok_rt E0 (⟨77,mkS [(2,.x (.one (.ptr 102 0))),(4,.x (.one (.ptr 104 0))),(7,.x (.one (.p (pi (IntKind.i64.wrap (weights1 + (ix a.Units v).Weight)))))),(8,.x (.one (.vw 108))),(10,.x (.one (.ptr 110 0))),(12,.x (.one (.ptr 112 0))),(13,.x (.one (.p (pi y3)))),(17,.x (.one (.p (.sl 3 (List.map enc_api_UnitMark l))))),(18,.x (.one (.p (pi (l.length:Int))))),(19,.x (.one (.p (pi v)))),(50,.x (.one (.p (.val (.bool (y3 != (0:Int)))))))],mkH [(102,.var [.p (.sl 3 (List.map enc_api_Unit a.Units)),.p (.sl 1 (List.map encI a.Bounds)),.p (pi a.Max)]),(104,.var [.p (pi (0:Int)),.p (pi (0:Int))]),(108,.arr 2 (List.map enc_api_Ratio terms1)),(110,.var [.p (pi ((ix l v).Kind)),.p (pi (((ix l v).Value).Num)),.p (pi (((ix l v).Value).Den))]),(112,.var [.p (pi y2.Num),.p (pi y2.Den)])]⟩) ?_
            refine lok_c (y3 != (0:Int)) ?_ ?_
            · intro b_6
              replace H1:=cpos H1 b_6
              refine lok_rt E0 (⟨77,mkS [(4,.x (.one (.ptr 104 0))),(5,.x (.one (.p (pi (0:Int))))),(6,.x (.one (.p (pi y3))))],mkH [(104,.var [.p (pi (0:Int)),.p (pi (0:Int))])]⟩) ?_
              refine lok_ret ?_
              try simp only [thenL,blockL,↓reduceIte,reduceCtorEq]
              have e_1:=k_1 _ (Option.some.inj H1).symm
              subst e_1
              try dsimp only at H0
              obtain rfl:=Option.some.inj H0
              try simp only [thenL,blockL]
              exact fin_au _ (.inr rfl) [] (⟨77,mkS [(4,.x (.one (.ptr 104 0))),(5,.x (.one (.p (pi (0:Int))))),(6,.x (.one (.p (pi y3))))],mkH [(104,.var [.p (pi (0:Int)),.p (pi (0:Int))])]⟩) rfl rfl imp_au
            · intro b_6
              replace H1:=cneg H1 b_6
              refine lok_skip ?_
              try simp only [thenL,blockL,↓reduceIte,reduceCtorEq]
              replace H1:=bind_some H1
              obtain ⟨⟨y4,y5⟩,h_3,H1⟩:=H1
              try dsimp only at H1
              refine lok_rt (Env.of E0 [⟨some 57,75,[.agg [.p (pi (((ix l v).Value).Num)),.p (pi (((ix l v).Value).Den))],.agg [.p (pi y2.Num),.p (pi y2.Den)]],[],[.agg [.p (pi y4.Num),.p (pi y4.Den)],.one (.p (pi y5))],[],True,fun _ => ok_ratio_Mul ((ix l v).Value) y2 (y4,y5) h_3,[]⟩]) (⟨77,mkS [(2,.x (.one (.ptr 102 0))),(4,.x (.one (.ptr 104 0))),(7,.x (.one (.p (pi (IntKind.i64.wrap (weights1 + (ix a.Units v).Weight)))))),(8,.x (.one (.vw 108))),(13,.x (.one (.p (pi y5)))),(14,.x (.one (.ptr 114 0))),(17,.x (.one (.p (.sl 3 (List.map enc_api_UnitMark l))))),(18,.x (.one (.p (pi (l.length:Int))))),(19,.x (.one (.p (pi v))))],mkH [(102,.var [.p (.sl 3 (List.map enc_api_Unit a.Units)),.p (.sl 1 (List.map encI a.Bounds)),.p (pi a.Max)]),(104,.var [.p (pi (0:Int)),.p (pi (0:Int))]),(108,.arr 2 (List.map enc_api_Ratio terms1)),(114,.var [.p (pi y4.Num),.p (pi y4.Den)])]⟩) ?_
              refine lok_seq ?_
              refine lok_rt E0 (⟨77,mkS [(2,.x (.one (.ptr 102 0))),(4,.x (.one (.ptr 104 0))),(7,.x (.one (.p (pi (IntKind.i64.wrap (weights1 + (ix a.Units v).Weight)))))),(8,.x (.one (.vw 108))),(13,.x (.one (.p (pi y5)))),(14,.x (.one (.ptr 114 0))),(17,.x (.one (.p (.sl 3 (List.map enc_api_UnitMark l))))),(18,.x (.one (.p (pi (l.length:Int))))),(19,.x (.one (.p (pi v)))),(61,.x (.one (.p (.val (.bool (y5 != (0:Int)))))))],mkH [(102,.var [.p (.sl 3 (List.map enc_api_Unit a.Units)),.p (.sl 1 (List.map encI a.Bounds)),.p (pi a.Max)]),(104,.var [.p (pi (0:Int)),.p (pi (0:Int))]),(108,.arr 2 (List.map enc_api_Ratio terms1)),(114,.var [.p (pi y4.Num),.p (pi y4.Den)])]⟩) ?_
              refine lok_c (y5 != (0:Int)) ?_ ?_
              · intro b_5
                replace H1:=cpos H1 b_5
                refine lok_rt E0 (⟨77,mkS [(4,.x (.one (.ptr 104 0))),(5,.x (.one (.p (pi (0:Int))))),(6,.x (.one (.p (pi y5))))],mkH [(104,.var [.p (pi (0:Int)),.p (pi (0:Int))])]⟩) ?_
                refine lok_ret ?_
                try simp only [thenL,blockL,↓reduceIte,reduceCtorEq]
                have e_1:=k_1 _ (Option.some.inj H1).symm
                subst e_1
                try dsimp only at H0
                obtain rfl:=Option.some.inj H0
                try simp only [thenL,blockL]
                exact fin_au _ (.inr rfl) [] (⟨77,mkS [(4,.x (.one (.ptr 104 0))),(5,.x (.one (.p (pi (0:Int))))),(6,.x (.one (.p (pi y5))))],mkH [(104,.var [.p (pi (0:Int)),.p (pi (0:Int))])]⟩) rfl rfl imp_au
              · intro b_5
                replace H1:=cneg H1 b_5
                refine lok_skip ?_
                try simp only [thenL,blockL,↓reduceIte,reduceCtorEq]
                replace H1:=req_some H1
                obtain ⟨q_4,H1⟩:=H1
                refine lok_rl E0 (⟨77,mkS [(2,.x (.one (.ptr 102 0))),(4,.x (.one (.ptr 104 0))),(7,.x (.one (.p (pi (IntKind.i64.wrap (weights1 + (ix a.Units v).Weight)))))),(8,.x (.one (.vw 108))),(17,.x (.one (.p (.sl 3 (List.map enc_api_UnitMark l))))),(18,.x (.one (.p (pi (l.length:Int))))),(19,.x (.one (.p (pi v))))],mkH [(102,.var [.p (.sl 3 (List.map enc_api_Unit a.Units)),.p (.sl 1 (List.map encI a.Bounds)),.p (pi a.Max)]),(104,.var [.p (pi (0:Int)),.p (pi (0:Int))]),(108,.arr 2 (List.map enc_api_Ratio (terms1 ++ [y4])))]⟩) ?_
                try simp only [thenL,blockL,↓reduceIte,reduceCtorEq]
                exact ⟨((IntKind.i64.wrap (weights1 + (ix a.Units v).Weight)),(terms1 ++ [y4])),H1,imp_au⟩
      · intro b_10
        replace H1:=cneg H1 b_10
        refine lok_exit ?_
        try simp only [thenL,blockL,↓reduceIte,reduceCtorEq]
        have e_1:=k_1 _ (Option.some.inj H1).symm
        subst e_1
        try dsimp only at H0
        try simp only [thenL,blockL,↓reduceIte,reduceCtorEq]
        exact ⟨(weights1,terms1),H0,imp_au⟩
theorem ok_aggregate_scaled (a : api_Award) (l : List api_UnitMark) (most:Int) (r_ : api_Ratio × Int) (H0 : aggregate_scaled a l most = some r_) : CallOK Try.prog 46 [.agg [.p (.sl 3 (List.map enc_api_Unit a.Units)),.p (.sl 1 (List.map encI a.Bounds)),.p (pi a.Max)],.one (.p (.sl 3 (List.map enc_api_UnitMark l))),.one (.p (pi most))] [] [.agg [.p (pi r_.1.Num),.p (pi r_.1.Den)],.one (.p (pi r_.2))] []:=by
  refine callOK (n:=38) (rs:=[.cell 6 36,.tmp 7]) (nb:=0) (V:=[]) Try.func46 rfl (by kernel_rfl) rfl rfl rfl rfl (Nat.le_of_ble_eq_true rfl) (by decide) ?_
  unfold aggregate_scaled at H0
  refine lok_rt E0 (⟨38,mkS [(1,.x (.one (.p (.sl 3 (List.map enc_api_UnitMark l))))),(2,.x (.one (.p (pi most)))),(3,.x (.one (.ptr 103 0))),(6,.x (.one (.ptr 106 0)))],mkH [(103,.var [.p (.sl 3 (List.map enc_api_Unit a.Units)),.p (.sl 1 (List.map encI a.Bounds)),.p (pi a.Max)]),(106,.var [.p (pi (0:Int)),.p (pi (0:Int))])]⟩) ?_
  replace H0:=bind_some H0
  obtain ⟨⟨y,y1,y2⟩,h_0,H0⟩:=H0
  try dsimp only at H0
  refine lok_rt (Env.of E0 [⟨some 15,74,[.agg [.p (.sl 3 (List.map enc_api_Unit a.Units)),.p (.sl 1 (List.map encI a.Bounds)),.p (pi a.Max)],.one (.p (.sl 3 (List.map enc_api_UnitMark l)))],[],[.agg [.p (pi y.Num),.p (pi y.Den)],.one (.p (pi y1)),.one (.p (pi y2))],[],True,fun _ => ok_aggregate_weighted a l (y,y1,y2) h_0,[]⟩]) (⟨38,mkS [(2,.x (.one (.p (pi most)))),(6,.x (.one (.ptr 106 0))),(8,.x (.one (.ptr 108 0))),(9,.x (.one (.p (pi y1)))),(10,.x (.one (.p (pi y2))))],mkH [(106,.var [.p (pi (0:Int)),.p (pi (0:Int))]),(108,.var [.p (pi y.Num),.p (pi y.Den)])]⟩) ?_
  refine lok_seq ?_
  refine lok_rt E0 (⟨38,mkS [(2,.x (.one (.p (pi most)))),(6,.x (.one (.ptr 106 0))),(8,.x (.one (.ptr 108 0))),(9,.x (.one (.p (pi y1)))),(10,.x (.one (.p (pi y2)))),(20,.x (.one (.p (.val (.bool (y2 != (0:Int)))))))],mkH [(106,.var [.p (pi (0:Int)),.p (pi (0:Int))]),(108,.var [.p (pi y.Num),.p (pi y.Den)])]⟩) ?_
  refine lok_c (y2 != (0:Int)) ?_ ?_
  · intro b_4
    replace H0:=cpos H0 b_4
    refine lok_rt E0 (⟨38,mkS [(6,.x (.one (.ptr 106 0))),(7,.x (.one (.p (pi y2))))],mkH [(106,.var [.p (pi (0:Int)),.p (pi (0:Int))])]⟩) ?_
    refine lok_ret ?_
    obtain rfl:=Option.some.inj H0
    try simp only [thenL,blockL]
    exact fin_au _ (.inr rfl) [] (⟨38,mkS [(6,.x (.one (.ptr 106 0))),(7,.x (.one (.p (pi y2))))],mkH [(106,.var [.p (pi (0:Int)),.p (pi (0:Int))])]⟩) rfl rfl imp_au
  · intro b_4
    replace H0:=cneg H0 b_4
    refine lok_skip ?_
    try simp only [thenL,blockL,↓reduceIte,reduceCtorEq]
    replace H0:=bind_some H0
    obtain ⟨⟨y3,y4⟩,h_1,H0⟩:=H0
    try dsimp only at H0
    refine lok_rt (Env.of E0 [⟨some 26,47,[.one (.p (pi most)),.one (.p (pi y1))],[],[.agg [.p (pi y3.Num),.p (pi y3.Den)],.one (.p (pi y4))],[],True,fun _ => ok_ratio_New most y1 (y3,y4) h_1,[]⟩]) (⟨38,mkS [(6,.x (.one (.ptr 106 0))),(8,.x (.one (.ptr 108 0))),(10,.x (.one (.p (pi y4)))),(11,.x (.one (.ptr 111 0)))],mkH [(106,.var [.p (pi (0:Int)),.p (pi (0:Int))]),(108,.var [.p (pi y.Num),.p (pi y.Den)]),(111,.var [.p (pi y3.Num),.p (pi y3.Den)])]⟩) ?_
    refine lok_seq ?_
    refine lok_rt E0 (⟨38,mkS [(6,.x (.one (.ptr 106 0))),(8,.x (.one (.ptr 108 0))),(10,.x (.one (.p (pi y4)))),(11,.x (.one (.ptr 111 0))),(30,.x (.one (.p (.val (.bool (y4 != (0:Int)))))))],mkH [(106,.var [.p (pi (0:Int)),.p (pi (0:Int))]),(108,.var [.p (pi y.Num),.p (pi y.Den)]),(111,.var [.p (pi y3.Num),.p (pi y3.Den)])]⟩) ?_
    refine lok_c (y4 != (0:Int)) ?_ ?_
    · intro b_3
      replace H0:=cpos H0 b_3
      refine lok_rt E0 (⟨38,mkS [(6,.x (.one (.ptr 106 0))),(7,.x (.one (.p (pi y4))))],mkH [(106,.var [.p (pi (0:Int)),.p (pi (0:Int))])]⟩) ?_
      refine lok_ret ?_
      obtain rfl:=Option.some.inj H0
      try simp only [thenL,blockL]
      exact fin_au _ (.inr rfl) [] (⟨38,mkS [(6,.x (.one (.ptr 106 0))),(7,.x (.one (.p (pi y4))))],mkH [(106,.var [.p (pi (0:Int)),.p (pi (0:Int))])]⟩) rfl rfl imp_au
    · intro b_3
      replace H0:=cneg H0 b_3
      refine lok_skip ?_
      try simp only [thenL,blockL,↓reduceIte,reduceCtorEq]
      replace H0:=bind_some H0
      obtain ⟨⟨y5,y6⟩,h_2,H0⟩:=H0
      try dsimp only at H0
      refine lok_rt (Env.of E0 [⟨some 35,75,[.agg [.p (pi y.Num),.p (pi y.Den)],.agg [.p (pi y3.Num),.p (pi y3.Den)]],[],[.agg [.p (pi y5.Num),.p (pi y5.Den)],.one (.p (pi y6))],[],True,fun _ => ok_ratio_Mul y y3 (y5,y6) h_2,[]⟩]) (⟨38,mkS [(6,.x (.one (.ptr 106 0))),(7,.x (.one (.p (pi y6))))],mkH [(106,.var [.p (pi y5.Num),.p (pi y5.Den)])]⟩) ?_
      refine lok_ret ?_
      obtain rfl:=Option.some.inj H0
      try simp only [thenL,blockL]
      exact fin_au _ (.inr rfl) [] (⟨38,mkS [(6,.x (.one (.ptr 106 0))),(7,.x (.one (.p (pi y6))))],mkH [(106,.var [.p (pi y5.Num),.p (pi y5.Den)])]⟩) rfl rfl imp_au
theorem ok_ratio_Add (a : api_Ratio) (b : api_Ratio) (r_ : api_Ratio × Int) (H0 : ratio_Add a b = some r_) : CallOK Try.prog 48 [.agg [.p (pi a.Num),.p (pi a.Den)],.agg [.p (pi b.Num),.p (pi b.Den)]] [] [.agg [.p (pi r_.1.Num),.p (pi r_.1.Den)],.one (.p (pi r_.2))] []:=by
  refine callOK (n:=64) (rs:=[.cell 4 36,.tmp 5]) (nb:=0) (V:=[]) Try.func48 rfl (by kernel_rfl) rfl rfl rfl rfl (Nat.le_of_ble_eq_true rfl) (by decide) ?_
  unfold ratio_Add at H0
  refine lok_rt E0 (⟨64,mkS [(2,.x (.one (.ptr 102 0))),(3,.x (.one (.ptr 103 0))),(4,.x (.one (.ptr 104 0)))],mkH [(102,.var [.p (pi a.Num),.p (pi a.Den)]),(103,.var [.p (pi b.Num),.p (pi b.Den)]),(104,.var [.p (pi (0:Int)),.p (pi (0:Int))])]⟩) ?_
  refine lok_seq ?_
  replace H0:=bind_some H0
  obtain ⟨y,h_0,H0⟩:=H0
  replace H0:=req_some H0
  obtain ⟨q_15,H0⟩:=H0
  refine lok_rt (Env.of E0 [⟨some 12,78,[.agg [.p (pi a.Num),.p (pi a.Den)]],[],[.one (.p (.val (.bool y)))],[],True,fun _ => ok_ratio_Valid a y h_0,[]⟩,
      ⟨some 16,78,[.agg [.p (pi b.Num),.p (pi b.Den)]],[],[.one (.p (.val (.bool ((ratio_Valid b).getD default))))],[],(ratio_Valid b).isSome = true,fun h => ok_ratio_Valid b _ (isSome_get h),[]⟩]) (⟨64,mkS [(2,.x (.one (.ptr 102 0))),(3,.x (.one (.ptr 103 0))),(4,.x (.one (.ptr 104 0))),(18,.x (.one (.p (.val (.bool ((!y) || (!((ratio_Valid b).getD default))))))))],mkH [(102,.var [.p (pi a.Num),.p (pi a.Den)]),(103,.var [.p (pi b.Num),.p (pi b.Den)]),(104,.var [.p (pi (0:Int)),.p (pi (0:Int))])]⟩) ?_
  refine lok_c ((!y) || (!((ratio_Valid b).getD default))) ?_ ?_
  · intro b_14
    replace H0:=cpos H0 b_14
    refine lok_rt E0 (⟨64,mkS [(4,.x (.one (.ptr 104 0))),(5,.x (.one (.p (pi (1:Int)))))],mkH [(104,.var [.p (pi (0:Int)),.p (pi (0:Int))])]⟩) ?_
    refine lok_ret ?_
    obtain rfl:=Option.some.inj H0
    try simp only [thenL,blockL]
    exact fin_au _ (.inr rfl) [] (⟨64,mkS [(4,.x (.one (.ptr 104 0))),(5,.x (.one (.p (pi (1:Int)))))],mkH [(104,.var [.p (pi (0:Int)),.p (pi (0:Int))])]⟩) rfl rfl imp_au
  · intro b_14
    replace H0:=cneg H0 b_14
    refine lok_skip ?_
    try simp only [thenL,blockL,↓reduceIte,reduceCtorEq]
    refine lok_dt E0 7 (⟨64,mkS [(2,.x (.one (.ptr 102 0))),(3,.x (.one (.ptr 103 0))),(4,.x (.one (.ptr 104 0))),(6,.x (.one (.p (.val (.int .u64 (IntKind.u64.wrap a.Den)))))),(7,.x (.one (.p (.val (.int .u64 (IntKind.u64.wrap b.Den))))))],mkH [(102,.var [.p (pi a.Num),.p (pi a.Den)]),(103,.var [.p (pi b.Num),.p (pi b.Den)]),(104,.var [.p (pi (0:Int)),.p (pi (0:Int))])]⟩) (by kernel_rfl) (by kernel_rfl) ?_
    replace H0:=bind_some H0
    obtain ⟨y1,h_1,H0⟩:=H0
    refine lok_rt (Env.of E0 [⟨some 28,79,[.one (.p (.val (.int .u64 (IntKind.u64.wrap a.Den)))),.one (.p (.val (.int .u64 (IntKind.u64.wrap b.Den))))],[],[.one (.p (.val (.int .u64 y1)))],[],True,fun _ => ok_ratio_gcd (IntKind.u64.wrap a.Den) (IntKind.u64.wrap b.Den) y1 h_1,[]⟩]) (⟨64,mkS [(2,.x (.one (.ptr 102 0))),(3,.x (.one (.ptr 103 0))),(4,.x (.one (.ptr 104 0))),(6,.x (.one (.p (.val (.int .u64 (IntKind.u64.wrap a.Den)))))),(7,.x (.one (.p (.val (.int .u64 (IntKind.u64.wrap b.Den)))))),(8,.x (.one (.p (.val (.int .u64 y1)))))],mkH [(102,.var [.p (pi a.Num),.p (pi a.Den)]),(103,.var [.p (pi b.Num),.p (pi b.Den)]),(104,.var [.p (pi (0:Int)),.p (pi (0:Int))])]⟩) ?_
    replace H0:=req_some H0
    obtain ⟨q_12,H0⟩:=H0
    replace H0:=bind_some H0
    obtain ⟨y2,h_2,H0⟩:=H0
    replace H0:=req_some H0
    obtain ⟨q_13,H0⟩:=H0
    replace H0:=bind_some H0
    obtain ⟨y3,h_3,H0⟩:=H0
    replace H0:=bind_some H0
    obtain ⟨y4,h_4,H0⟩:=H0
    refine lok_et (Env.of E0 [⟨some 34,80,[.one (.p (pi a.Num)),.one (.p (.val (.int .u64 (IntKind.u64.wrap (Int.tdiv (IntKind.u64.wrap b.Den) y1)))))],[],[.agg [.p (.val (.bool y2.neg)),.p (.val (.int .u64 y2.abs.hi)),.p (.val (.int .u64 y2.abs.lo))]],[],True,fun _ => ok_ratio_signedProduct a.Num (IntKind.u64.wrap (Int.tdiv (IntKind.u64.wrap b.Den) y1)) y2 h_2,[]⟩,
      ⟨some 40,80,[.one (.p (pi b.Num)),.one (.p (.val (.int .u64 (IntKind.u64.wrap (Int.tdiv (IntKind.u64.wrap a.Den) y1)))))],[],[.agg [.p (.val (.bool y3.neg)),.p (.val (.int .u64 y3.abs.hi)),.p (.val (.int .u64 y3.abs.lo))]],[],True,fun _ => ok_ratio_signedProduct b.Num (IntKind.u64.wrap (Int.tdiv (IntKind.u64.wrap a.Den) y1)) y3 h_3,[]⟩,
      ⟨some 41,81,[.agg [.p (.val (.bool y2.neg)),.p (.val (.int .u64 y2.abs.hi)),.p (.val (.int .u64 y2.abs.lo))],.agg [.p (.val (.bool y3.neg)),.p (.val (.int .u64 y3.abs.hi)),.p (.val (.int .u64 y3.abs.lo))]],[],[.agg [.p (.val (.bool y4.neg)),.p (.val (.int .u64 y4.abs.hi)),.p (.val (.int .u64 y4.abs.lo))]],[],True,fun _ => ok_ratio_signed_plus y2 y3 y4 h_4,[]⟩]) 64 [⟨[(2,.x (.one (.ptr 102 0)))],[],[(29,.x (.one (.ptr 102 0)))],[],none⟩,
      ⟨[(29,.x (.one (.ptr 102 0)))],[(102,some (.var [.p (pi a.Num),.p (pi a.Den)]))],[(30,.x (.one (.p (pi a.Num))))],[],none⟩,
      ⟨[(7,.x (.one (.p (.val (.int .u64 (IntKind.u64.wrap b.Den))))))],[],[(31,.x (.one (.p (.val (.int .u64 (IntKind.u64.wrap b.Den))))))],[],none⟩,
      ⟨[(8,.x (.one (.p (.val (.int .u64 y1)))))],[],[(32,.x (.one (.p (.val (.int .u64 y1)))))],[],none⟩,
      ⟨[(31,.x (.one (.p (.val (.int .u64 (IntKind.u64.wrap b.Den)))))),(32,.x (.one (.p (.val (.int .u64 y1)))))],[],[(33,.x (.one (.p (.val (.int .u64 (IntKind.u64.wrap (Int.tdiv (IntKind.u64.wrap b.Den) y1)))))))],[],none⟩,
      ⟨[(30,.x (.one (.p (pi a.Num)))),(33,.x (.one (.p (.val (.int .u64 (IntKind.u64.wrap (Int.tdiv (IntKind.u64.wrap b.Den) y1)))))))],[],[(34,.x (.agg [.p (.val (.bool y2.neg)),.p (.val (.int .u64 y2.abs.hi)),.p (.val (.int .u64 y2.abs.lo))]))],[],none⟩,
      ⟨[(3,.x (.one (.ptr 103 0)))],[],[(35,.x (.one (.ptr 103 0)))],[],none⟩,
      ⟨[(35,.x (.one (.ptr 103 0)))],[(103,some (.var [.p (pi b.Num),.p (pi b.Den)]))],[(36,.x (.one (.p (pi b.Num))))],[],none⟩,
      ⟨[(6,.x (.one (.p (.val (.int .u64 (IntKind.u64.wrap a.Den))))))],[],[(37,.x (.one (.p (.val (.int .u64 (IntKind.u64.wrap a.Den))))))],[],none⟩,
      ⟨[(8,.x (.one (.p (.val (.int .u64 y1)))))],[],[(38,.x (.one (.p (.val (.int .u64 y1)))))],[],none⟩,
      ⟨[(37,.x (.one (.p (.val (.int .u64 (IntKind.u64.wrap a.Den)))))),(38,.x (.one (.p (.val (.int .u64 y1)))))],[],[(39,.x (.one (.p (.val (.int .u64 (IntKind.u64.wrap (Int.tdiv (IntKind.u64.wrap a.Den) y1)))))))],[],none⟩,
      ⟨[(36,.x (.one (.p (pi b.Num)))),(39,.x (.one (.p (.val (.int .u64 (IntKind.u64.wrap (Int.tdiv (IntKind.u64.wrap a.Den) y1)))))))],[],[(40,.x (.agg [.p (.val (.bool y3.neg)),.p (.val (.int .u64 y3.abs.hi)),.p (.val (.int .u64 y3.abs.lo))]))],[],none⟩,
      ⟨[(34,.x (.agg [.p (.val (.bool y2.neg)),.p (.val (.int .u64 y2.abs.hi)),.p (.val (.int .u64 y2.abs.lo))])),(40,.x (.agg [.p (.val (.bool y3.neg)),.p (.val (.int .u64 y3.abs.hi)),.p (.val (.int .u64 y3.abs.lo))]))],[],[(41,.x (.agg [.p (.val (.bool y4.neg)),.p (.val (.int .u64 y4.abs.hi)),.p (.val (.int .u64 y4.abs.lo))]))],[],none⟩,
      ⟨[],[(109,none)],[(9,.x (.one (.ptr 109 0)))],[(109,some (.var [.p (.val (.bool false)),.p (.val (.int .u64 (0:Int))),.p (.val (.int .u64 (0:Int)))]))],some 109⟩] (⟨64,mkS [(4,.x (.one (.ptr 104 0))),(6,.x (.one (.p (.val (.int .u64 (IntKind.u64.wrap a.Den)))))),(7,.x (.one (.p (.val (.int .u64 (IntKind.u64.wrap b.Den)))))),(8,.x (.one (.p (.val (.int .u64 y1))))),(9,.x (.one (.ptr 109 0)))],mkH [(104,.var [.p (pi (0:Int)),.p (pi (0:Int))]),(109,.var [.p (.val (.bool y4.neg)),.p (.val (.int .u64 y4.abs.hi)),.p (.val (.int .u64 y4.abs.lo))])]⟩) (by kernel_rfl) (by kernel_rfl) (by kernel_rfl) rfl rfl rfl ?_
    replace H0:=bind_some H0
    obtain ⟨y5,h_5,H0⟩:=H0
    replace H0:=bind_some H0
    obtain ⟨y6,h_6,H0⟩:=H0
    refine lok_rt (Env.of E0 [⟨some 45,82,[.agg [.p (.val (.int .u64 y4.abs.hi)),.p (.val (.int .u64 y4.abs.lo))],.one (.p (.val (.int .u64 y1)))],[],[.one (.p (.val (.int .u64 y5)))],[],True,fun _ => ok_ratio_wide_mod y4.abs y1 y5 h_5,[]⟩,
      ⟨some 47,79,[.one (.p (.val (.int .u64 y5))),.one (.p (.val (.int .u64 y1)))],[],[.one (.p (.val (.int .u64 y6)))],[],True,fun _ => ok_ratio_gcd y5 y1 y6 h_6,[]⟩]) (⟨64,mkS [(4,.x (.one (.ptr 104 0))),(6,.x (.one (.p (.val (.int .u64 (IntKind.u64.wrap a.Den)))))),(7,.x (.one (.p (.val (.int .u64 (IntKind.u64.wrap b.Den)))))),(8,.x (.one (.p (.val (.int .u64 y1))))),(9,.x (.one (.ptr 109 0))),(10,.x (.one (.p (.val (.int .u64 y6)))))],mkH [(104,.var [.p (pi (0:Int)),.p (pi (0:Int))]),(109,.var [.p (.val (.bool y4.neg)),.p (.val (.int .u64 y4.abs.hi)),.p (.val (.int .u64 y4.abs.lo))])]⟩) ?_
    replace H0:=bind_some H0
    obtain ⟨y7,h_7,H0⟩:=H0
    replace H0:=req_some H0
    obtain ⟨⟨q_10,q_11⟩,H0⟩:=H0
    replace H0:=bind_some H0
    obtain ⟨y8,h_8,H0⟩:=H0
    replace H0:=bind_some H0
    obtain ⟨⟨y9,y10⟩,h_9,H0⟩:=H0
    try dsimp only at H0
    refine lok_dt (Env.of E0 [⟨some 53,84,[.agg [.p (.val (.int .u64 y4.abs.hi)),.p (.val (.int .u64 y4.abs.lo))],.one (.p (.val (.int .u64 y6)))],[],[.agg [.p (.val (.int .u64 y7.hi)),.p (.val (.int .u64 y7.lo))]],[],True,fun _ => ok_ratio_wide_over y4.abs y6 y7 h_7,[]⟩,
      ⟨some 60,85,[.one (.p (.val (.int .u64 (IntKind.u64.wrap (Int.tdiv (IntKind.u64.wrap a.Den) y1))))),.one (.p (.val (.int .u64 (IntKind.u64.wrap (Int.tdiv (IntKind.u64.wrap b.Den) y6)))))],[],[.agg [.p (.val (.int .u64 y8.hi)),.p (.val (.int .u64 y8.lo))]],[],True,fun _ => ok_ratio_product (IntKind.u64.wrap (Int.tdiv (IntKind.u64.wrap a.Den) y1)) (IntKind.u64.wrap (Int.tdiv (IntKind.u64.wrap b.Den) y6)) y8 h_8,[]⟩,
      ⟨some 61,83,[.one (.p (.val (.bool y4.neg))),.agg [.p (.val (.int .u64 y7.hi)),.p (.val (.int .u64 y7.lo))],.agg [.p (.val (.int .u64 y8.hi)),.p (.val (.int .u64 y8.lo))]],[],[.agg [.p (pi y9.Num),.p (pi y9.Den)],.one (.p (pi y10))],[],True,fun _ => ok_ratio_fitted y4.neg y7 y8 (y9,y10) h_9,[]⟩]) 16 (⟨64,mkS [(4,.x (.one (.ptr 104 0))),(5,.x (.one (.p (pi y10))))],mkH [(104,.var [.p (pi y9.Num),.p (pi y9.Den)])]⟩) (by kernel_rfl) (by kernel_rfl) ?_
    refine lok_ret ?_
    obtain rfl:=Option.some.inj H0
    try simp only [thenL,blockL]
    exact fin_au _ (.inr rfl) [] (⟨64,mkS [(4,.x (.one (.ptr 104 0))),(5,.x (.one (.p (pi y10))))],mkH [(104,.var [.p (pi y9.Num),.p (pi y9.Den)])]⟩) rfl rfl imp_au
theorem ok_ratio_Less (a : api_Ratio) (b : api_Ratio) (r_ : Bool) (H0 : ratio_Less a b = some r_) : CallOK Try.prog 49 [.agg [.p (pi a.Num),.p (pi a.Den)],.agg [.p (pi b.Num),.p (pi b.Den)]] [] [.one (.p (.val (.bool r_)))] []:=by
  refine callOK (n:=9) (rs:=[.tmp 4]) (nb:=0) (V:=[]) Try.func49 rfl (by kernel_rfl) rfl rfl rfl rfl (Nat.le_of_ble_eq_true rfl) (by decide) ?_
  unfold ratio_Less at H0
  refine lok_rt E0 (⟨9,mkS [(2,.x (.one (.ptr 102 0))),(3,.x (.one (.ptr 103 0)))],mkH [(102,.var [.p (pi a.Num),.p (pi a.Den)]),(103,.var [.p (pi b.Num),.p (pi b.Den)])]⟩) ?_
  replace H0:=bind_some H0
  obtain ⟨y,h_0,H0⟩:=H0
  refine lok_rt (Env.of E0 [⟨some 7,86,[.agg [.p (pi a.Num),.p (pi a.Den)],.agg [.p (pi b.Num),.p (pi b.Den)]],[],[.one (.p (pi y))],[],True,fun _ => ok_ratio_Compare a b y h_0,[]⟩]) (⟨9,mkS [(4,.x (.one (.p (.val (.bool (y == (-1:Int)))))))],mkH []⟩) ?_
  refine lok_ret ?_
  obtain rfl:=Option.some.inj H0
  try simp only [thenL,blockL]
  exact fin_au _ (.inr rfl) [] (⟨9,mkS [(4,.x (.one (.p (.val (.bool (y == (-1:Int)))))))],mkH []⟩) rfl rfl imp_au
theorem ok_aggregate_Exact (a : api_Award) (l : List api_UnitMark) (special:Int) (r_ : api_Ratio × Int) (H0 : aggregate_Exact a l special = some r_) : CallOK Try.prog 21 [.agg [.p (.sl 3 (List.map enc_api_Unit a.Units)),.p (.sl 1 (List.map encI a.Bounds)),.p (pi a.Max)],.one (.p (.sl 3 (List.map enc_api_UnitMark l))),.one (.p (pi special))] [] [.agg [.p (pi r_.1.Num),.p (pi r_.1.Den)],.one (.p (pi r_.2))] []:=by
  refine callOK (n:=76) (rs:=[.cell 6 36,.tmp 7]) (nb:=0) (V:=[]) Try.func21 rfl (by kernel_rfl) rfl rfl rfl rfl (Nat.le_of_ble_eq_true rfl) (by decide) ?_
  unfold aggregate_Exact at H0
  refine lok_rt E0 (⟨76,mkS [(1,.x (.one (.p (.sl 3 (List.map enc_api_UnitMark l))))),(2,.x (.one (.p (pi special)))),(3,.x (.one (.ptr 103 0))),(6,.x (.one (.ptr 106 0)))],mkH [(103,.var [.p (.sl 3 (List.map enc_api_Unit a.Units)),.p (.sl 1 (List.map encI a.Bounds)),.p (pi a.Max)]),(106,.var [.p (pi (0:Int)),.p (pi (0:Int))])]⟩) ?_
  refine lok_seq ?_
  replace H0:=bind_some H0
  obtain ⟨y,h_0,H0⟩:=H0
  refine lok_rt (Env.of E0 [⟨some 17,44,[.agg [.p (.sl 3 (List.map enc_api_Unit a.Units)),.p (.sl 1 (List.map encI a.Bounds)),.p (pi a.Max)],.one (.p (.sl 3 (List.map enc_api_UnitMark l))),.one (.p (pi special))],[],[.one (.p (pi y))],[],True,fun _ => ok_aggregate_checkMarks a l special y h_0,[]⟩]) (⟨76,mkS [(1,.x (.one (.p (.sl 3 (List.map enc_api_UnitMark l))))),(2,.x (.one (.p (pi special)))),(3,.x (.one (.ptr 103 0))),(6,.x (.one (.ptr 106 0))),(8,.x (.one (.p (pi y))))],mkH [(103,.var [.p (.sl 3 (List.map enc_api_Unit a.Units)),.p (.sl 1 (List.map encI a.Bounds)),.p (pi a.Max)]),(106,.var [.p (pi (0:Int)),.p (pi (0:Int))])]⟩) ?_
  refine lok_rt E0 (⟨76,mkS [(1,.x (.one (.p (.sl 3 (List.map enc_api_UnitMark l))))),(2,.x (.one (.p (pi special)))),(3,.x (.one (.ptr 103 0))),(6,.x (.one (.ptr 106 0))),(8,.x (.one (.p (pi y)))),(19,.x (.one (.p (.val (.bool (y != (0:Int)))))))],mkH [(103,.var [.p (.sl 3 (List.map enc_api_Unit a.Units)),.p (.sl 1 (List.map encI a.Bounds)),.p (pi a.Max)]),(106,.var [.p (pi (0:Int)),.p (pi (0:Int))])]⟩) ?_
  refine lok_c (y != (0:Int)) ?_ ?_
  · intro b_14
    replace H0:=cpos H0 b_14
    refine lok_rt E0 (⟨76,mkS [(6,.x (.one (.ptr 106 0))),(7,.x (.one (.p (pi y))))],mkH [(106,.var [.p (pi (0:Int)),.p (pi (0:Int))])]⟩) ?_
    refine lok_ret ?_
    obtain rfl:=Option.some.inj H0
    try simp only [thenL,blockL]
    exact fin_au _ (.inr rfl) [] (⟨76,mkS [(6,.x (.one (.ptr 106 0))),(7,.x (.one (.p (pi y))))],mkH [(106,.var [.p (pi (0:Int)),.p (pi (0:Int))])]⟩) rfl rfl imp_au
  · intro b_14
    replace H0:=cneg H0 b_14
    refine lok_skip ?_
    try simp only [thenL,blockL,↓reduceIte,reduceCtorEq]
    refine lok_seq ?_
    replace H0:=bind_some H0
    obtain ⟨y1,h_1,H0⟩:=H0
    refine lok_rt (Env.of E0 [⟨some 23,45,[.one (.p (.sl 3 (List.map enc_api_UnitMark l))),.one (.p (pi (3:Int)))],[],[.one (.p (.val (.bool y1)))],[],True,fun _ => ok_aggregate_has l (3:Int) y1 h_1,[]⟩]) (⟨76,mkS [(1,.x (.one (.p (.sl 3 (List.map enc_api_UnitMark l))))),(2,.x (.one (.p (pi special)))),(3,.x (.one (.ptr 103 0))),(6,.x (.one (.ptr 106 0))),(23,.x (.one (.p (.val (.bool y1)))))],mkH [(103,.var [.p (.sl 3 (List.map enc_api_Unit a.Units)),.p (.sl 1 (List.map encI a.Bounds)),.p (pi a.Max)]),(106,.var [.p (pi (0:Int)),.p (pi (0:Int))])]⟩) ?_
    refine lok_c y1 ?_ ?_
    · intro b_13
      replace H0:=cpos H0 b_13
      refine lok_rt E0 (⟨76,mkS [(6,.x (.one (.ptr 106 0))),(7,.x (.one (.p (pi (8:Int)))))],mkH [(106,.var [.p (pi (0:Int)),.p (pi (0:Int))])]⟩) ?_
      refine lok_ret ?_
      obtain rfl:=Option.some.inj H0
      try simp only [thenL,blockL]
      exact fin_au _ (.inr rfl) [] (⟨76,mkS [(6,.x (.one (.ptr 106 0))),(7,.x (.one (.p (pi (8:Int)))))],mkH [(106,.var [.p (pi (0:Int)),.p (pi (0:Int))])]⟩) rfl rfl imp_au
    · intro b_13
      replace H0:=cneg H0 b_13
      refine lok_skip ?_
      try simp only [thenL,blockL,↓reduceIte,reduceCtorEq]
      refine lok_seq ?_
      replace H0:=bind_some H0
      obtain ⟨y2,h_2,H0⟩:=H0
      replace H0:=req_some H0
      obtain ⟨q_12,H0⟩:=H0
      refine lok_rt (Env.of E0 [⟨some 26,45,[.one (.p (.sl 3 (List.map enc_api_UnitMark l))),.one (.p (pi (0:Int)))],[],[.one (.p (.val (.bool y2)))],[],True,fun _ => ok_aggregate_has l (0:Int) y2 h_2,[]⟩,
      ⟨some 30,45,[.one (.p (.sl 3 (List.map enc_api_UnitMark l))),.one (.p (pi (1:Int)))],[],[.one (.p (.val (.bool ((aggregate_has l (1:Int)).getD default))))],[],(aggregate_has l (1:Int)).isSome = true,fun h => ok_aggregate_has l (1:Int) _ (isSome_get h),[]⟩]) (⟨76,mkS [(1,.x (.one (.p (.sl 3 (List.map enc_api_UnitMark l))))),(2,.x (.one (.p (pi special)))),(3,.x (.one (.ptr 103 0))),(6,.x (.one (.ptr 106 0))),(32,.x (.one (.p (.val (.bool ((!y2) && (!((aggregate_has l (1:Int)).getD default))))))))],mkH [(103,.var [.p (.sl 3 (List.map enc_api_Unit a.Units)),.p (.sl 1 (List.map encI a.Bounds)),.p (pi a.Max)]),(106,.var [.p (pi (0:Int)),.p (pi (0:Int))])]⟩) ?_
      refine lok_c ((!y2) && (!((aggregate_has l (1:Int)).getD default))) ?_ ?_
      · intro b_11
        replace H0:=cpos H0 b_11
        refine lok_rt E0 (⟨76,mkS [(6,.x (.one (.ptr 106 0))),(7,.x (.one (.p (pi (10:Int)))))],mkH [(106,.var [.p (pi (0:Int)),.p (pi (0:Int))])]⟩) ?_
        refine lok_ret ?_
        obtain rfl:=Option.some.inj H0
        try simp only [thenL,blockL]
        exact fin_au _ (.inr rfl) [] (⟨76,mkS [(6,.x (.one (.ptr 106 0))),(7,.x (.one (.p (pi (10:Int)))))],mkH [(106,.var [.p (pi (0:Int)),.p (pi (0:Int))])]⟩) rfl rfl imp_au
      · intro b_11
        replace H0:=cneg H0 b_11
        refine lok_skip ?_
        try simp only [thenL,blockL,↓reduceIte,reduceCtorEq]
        replace H0:=bind_some H0
        obtain ⟨⟨y3,y4⟩,h_3,H0⟩:=H0
        try dsimp only at H0
        refine lok_rt (Env.of E0 [⟨some 39,46,[.agg [.p (.sl 3 (List.map enc_api_Unit a.Units)),.p (.sl 1 (List.map encI a.Bounds)),.p (pi a.Max)],.one (.p (.sl 3 (List.map enc_api_UnitMark l))),.one (.p (pi a.Max))],[],[.agg [.p (pi y3.Num),.p (pi y3.Den)],.one (.p (pi y4))],[],True,fun _ => ok_aggregate_scaled a l a.Max (y3,y4) h_3,[]⟩]) (⟨76,mkS [(2,.x (.one (.p (pi special)))),(3,.x (.one (.ptr 103 0))),(6,.x (.one (.ptr 106 0))),(9,.x (.one (.ptr 109 0))),(10,.x (.one (.p (pi y4))))],mkH [(103,.var [.p (.sl 3 (List.map enc_api_Unit a.Units)),.p (.sl 1 (List.map encI a.Bounds)),.p (pi a.Max)]),(106,.var [.p (pi (0:Int)),.p (pi (0:Int))]),(109,.var [.p (pi y3.Num),.p (pi y3.Den)])]⟩) ?_
        refine lok_seq ?_
        refine lok_rt E0 (⟨76,mkS [(2,.x (.one (.p (pi special)))),(3,.x (.one (.ptr 103 0))),(6,.x (.one (.ptr 106 0))),(9,.x (.one (.ptr 109 0))),(10,.x (.one (.p (pi y4)))),(43,.x (.one (.p (.val (.bool (y4 != (0:Int)))))))],mkH [(103,.var [.p (.sl 3 (List.map enc_api_Unit a.Units)),.p (.sl 1 (List.map encI a.Bounds)),.p (pi a.Max)]),(106,.var [.p (pi (0:Int)),.p (pi (0:Int))]),(109,.var [.p (pi y3.Num),.p (pi y3.Den)])]⟩) ?_
        refine lok_c (y4 != (0:Int)) ?_ ?_
        · intro b_10
          replace H0:=cpos H0 b_10
          refine lok_rt E0 (⟨76,mkS [(6,.x (.one (.ptr 106 0))),(7,.x (.one (.p (pi y4))))],mkH [(106,.var [.p (pi (0:Int)),.p (pi (0:Int))])]⟩) ?_
          refine lok_ret ?_
          obtain rfl:=Option.some.inj H0
          try simp only [thenL,blockL]
          exact fin_au _ (.inr rfl) [] (⟨76,mkS [(6,.x (.one (.ptr 106 0))),(7,.x (.one (.p (pi y4))))],mkH [(106,.var [.p (pi (0:Int)),.p (pi (0:Int))])]⟩) rfl rfl imp_au
        · intro b_10
          replace H0:=cneg H0 b_10
          refine lok_skip ?_
          try simp only [thenL,blockL,↓reduceIte,reduceCtorEq]
          replace H0:=bind_some H0
          obtain ⟨⟨y5,y6⟩,h_4,H0⟩:=H0
          try dsimp only at H0
          refine lok_rt (Env.of E0 [⟨some 51,47,[.one (.p (pi (IntKind.i64.wrap (special * a.Max)))),.one (.p (pi (1000:Int)))],[],[.agg [.p (pi y5.Num),.p (pi y5.Den)],.one (.p (pi y6))],[],True,fun _ => ok_ratio_New (IntKind.i64.wrap (special * a.Max)) (1000:Int) (y5,y6) h_4,[]⟩]) (⟨76,mkS [(3,.x (.one (.ptr 103 0))),(6,.x (.one (.ptr 106 0))),(9,.x (.one (.ptr 109 0))),(10,.x (.one (.p (pi y6)))),(11,.x (.one (.ptr 111 0)))],mkH [(103,.var [.p (.sl 3 (List.map enc_api_Unit a.Units)),.p (.sl 1 (List.map encI a.Bounds)),.p (pi a.Max)]),(106,.var [.p (pi (0:Int)),.p (pi (0:Int))]),(109,.var [.p (pi y3.Num),.p (pi y3.Den)]),(111,.var [.p (pi y5.Num),.p (pi y5.Den)])]⟩) ?_
          refine lok_seq ?_
          refine lok_rt E0 (⟨76,mkS [(3,.x (.one (.ptr 103 0))),(6,.x (.one (.ptr 106 0))),(9,.x (.one (.ptr 109 0))),(10,.x (.one (.p (pi y6)))),(11,.x (.one (.ptr 111 0))),(55,.x (.one (.p (.val (.bool (y6 != (0:Int)))))))],mkH [(103,.var [.p (.sl 3 (List.map enc_api_Unit a.Units)),.p (.sl 1 (List.map encI a.Bounds)),.p (pi a.Max)]),(106,.var [.p (pi (0:Int)),.p (pi (0:Int))]),(109,.var [.p (pi y3.Num),.p (pi y3.Den)]),(111,.var [.p (pi y5.Num),.p (pi y5.Den)])]⟩) ?_
          refine lok_c (y6 != (0:Int)) ?_ ?_
          · intro b_9
            replace H0:=cpos H0 b_9
            refine lok_rt E0 (⟨76,mkS [(6,.x (.one (.ptr 106 0))),(7,.x (.one (.p (pi y6))))],mkH [(106,.var [.p (pi (0:Int)),.p (pi (0:Int))])]⟩) ?_
            refine lok_ret ?_
            obtain rfl:=Option.some.inj H0
            try simp only [thenL,blockL]
            exact fin_au _ (.inr rfl) [] (⟨76,mkS [(6,.x (.one (.ptr 106 0))),(7,.x (.one (.p (pi y6))))],mkH [(106,.var [.p (pi (0:Int)),.p (pi (0:Int))])]⟩) rfl rfl imp_au
          · intro b_9
            replace H0:=cneg H0 b_9
            refine lok_skip ?_
            try simp only [thenL,blockL,↓reduceIte,reduceCtorEq]
            replace H0:=bind_some H0
            obtain ⟨⟨y7,y8⟩,h_5,H0⟩:=H0
            try dsimp only at H0
            refine lok_rt (Env.of E0 [⟨some 61,48,[.agg [.p (pi y3.Num),.p (pi y3.Den)],.agg [.p (pi y5.Num),.p (pi y5.Den)]],[],[.agg [.p (pi y7.Num),.p (pi y7.Den)],.one (.p (pi y8))],[],True,fun _ => ok_ratio_Add y3 y5 (y7,y8) h_5,[]⟩]) (⟨76,mkS [(3,.x (.one (.ptr 103 0))),(6,.x (.one (.ptr 106 0))),(10,.x (.one (.p (pi y8)))),(12,.x (.one (.ptr 112 0)))],mkH [(103,.var [.p (.sl 3 (List.map enc_api_Unit a.Units)),.p (.sl 1 (List.map encI a.Bounds)),.p (pi a.Max)]),(106,.var [.p (pi (0:Int)),.p (pi (0:Int))]),(112,.var [.p (pi y7.Num),.p (pi y7.Den)])]⟩) ?_
            refine lok_seq ?_
            refine lok_rt E0 (⟨76,mkS [(3,.x (.one (.ptr 103 0))),(6,.x (.one (.ptr 106 0))),(10,.x (.one (.p (pi y8)))),(12,.x (.one (.ptr 112 0))),(65,.x (.one (.p (.val (.bool (y8 != (0:Int)))))))],mkH [(103,.var [.p (.sl 3 (List.map enc_api_Unit a.Units)),.p (.sl 1 (List.map encI a.Bounds)),.p (pi a.Max)]),(106,.var [.p (pi (0:Int)),.p (pi (0:Int))]),(112,.var [.p (pi y7.Num),.p (pi y7.Den)])]⟩) ?_
            refine lok_c (y8 != (0:Int)) ?_ ?_
            · intro b_8
              replace H0:=cpos H0 b_8
              refine lok_rt E0 (⟨76,mkS [(6,.x (.one (.ptr 106 0))),(7,.x (.one (.p (pi y8))))],mkH [(106,.var [.p (pi (0:Int)),.p (pi (0:Int))])]⟩) ?_
              refine lok_ret ?_
              obtain rfl:=Option.some.inj H0
              try simp only [thenL,blockL]
              exact fin_au _ (.inr rfl) [] (⟨76,mkS [(6,.x (.one (.ptr 106 0))),(7,.x (.one (.p (pi y8))))],mkH [(106,.var [.p (pi (0:Int)),.p (pi (0:Int))])]⟩) rfl rfl imp_au
            · intro b_8
              replace H0:=cneg H0 b_8
              refine lok_skip ?_
              try simp only [thenL,blockL,↓reduceIte,reduceCtorEq]
              refine lok_rt E0 (⟨76,mkS [(6,.x (.one (.ptr 106 0))),(12,.x (.one (.ptr 112 0))),(13,.x (.one (.ptr 113 0)))],mkH [(106,.var [.p (pi (0:Int)),.p (pi (0:Int))]),(112,.var [.p (pi y7.Num),.p (pi y7.Den)]),(113,.var [.p (pi a.Max),.p (pi (1:Int))])]⟩) ?_
              refine lok_seq ?_
              replace H0:=bind_some H0
              obtain ⟨y9,h_6,H0⟩:=H0
              refine lok_rt (Env.of E0 [⟨some 73,49,[.agg [.p (pi a.Max),.p (pi (1:Int))],.agg [.p (pi y7.Num),.p (pi y7.Den)]],[],[.one (.p (.val (.bool y9)))],[],True,fun _ => ok_ratio_Less (api_Ratio.mk a.Max (1:Int)) y7 y9 h_6,[]⟩]) (⟨76,mkS [(6,.x (.one (.ptr 106 0))),(12,.x (.one (.ptr 112 0))),(13,.x (.one (.ptr 113 0))),(73,.x (.one (.p (.val (.bool y9)))))],mkH [(106,.var [.p (pi (0:Int)),.p (pi (0:Int))]),(112,.var [.p (pi y7.Num),.p (pi y7.Den)]),(113,.var [.p (pi a.Max),.p (pi (1:Int))])]⟩) ?_
              refine lok_c y9 ?_ ?_
              · intro b_7
                replace H0:=cpos H0 b_7
                refine lok_rt E0 (⟨76,mkS [(6,.x (.one (.ptr 106 0))),(7,.x (.one (.p (pi (0:Int)))))],mkH [(106,.var [.p (pi a.Max),.p (pi (1:Int))])]⟩) ?_
                refine lok_ret ?_
                obtain rfl:=Option.some.inj H0
                try simp only [thenL,blockL]
                exact fin_au _ (.inr rfl) [] (⟨76,mkS [(6,.x (.one (.ptr 106 0))),(7,.x (.one (.p (pi (0:Int)))))],mkH [(106,.var [.p (pi a.Max),.p (pi (1:Int))])]⟩) rfl rfl imp_au
              · intro b_7
                replace H0:=cneg H0 b_7
                refine lok_skip ?_
                try simp only [thenL,blockL,↓reduceIte,reduceCtorEq]
                refine lok_rt E0 (⟨76,mkS [(6,.x (.one (.ptr 106 0))),(7,.x (.one (.p (pi (0:Int)))))],mkH [(106,.var [.p (pi y7.Num),.p (pi y7.Den)])]⟩) ?_
                refine lok_ret ?_
                obtain rfl:=Option.some.inj H0
                try simp only [thenL,blockL]
                exact fin_au _ (.inr rfl) [] (⟨76,mkS [(6,.x (.one (.ptr 106 0))),(7,.x (.one (.p (pi (0:Int)))))],mkH [(106,.var [.p (pi y7.Num),.p (pi y7.Den)])]⟩) rfl rfl imp_au
theorem ok_ratio_toRound (floor:Int) (rest:Int) (den:Int) (r_:Int) (H0 : ratio_toRound floor rest den = some r_) : CallOK Try.prog 94 [.one (.p (pi floor)),.one (.p (pi rest)),.one (.p (pi den))] [] [.one (.p (pi r_))] []:=by
  refine callOK (n:=15) (rs:=[.tmp 6]) (nb:=0) (V:=[]) Try.func94 rfl (by kernel_rfl) rfl rfl rfl rfl (Nat.le_of_ble_eq_true rfl) (by decide) ?_
  unfold ratio_toRound at H0
  refine lok_rt E0 (⟨15,mkS [(0,.x (.one (.p (pi floor)))),(1,.x (.one (.p (pi rest)))),(2,.x (.one (.p (pi den))))],mkH []⟩) ?_
  refine lok_seq ?_
  refine lok_rt E0 (⟨15,mkS [(0,.x (.one (.p (pi floor)))),(11,.x (.one (.p (.val (.bool (decide ((IntKind.i64.wrap (den - rest)) ≤ rest)))))))],mkH []⟩) ?_
  refine lok_c (decide ((IntKind.i64.wrap (den - rest)) ≤ rest)) ?_ ?_
  · intro b_0
    replace H0:=cpos H0 b_0
    refine lok_rt E0 (⟨15,mkS [(6,.x (.one (.p (pi (IntKind.i64.wrap (floor + (1:Int)))))))],mkH []⟩) ?_
    refine lok_ret ?_
    obtain rfl:=Option.some.inj H0
    try simp only [thenL,blockL]
    exact fin_au _ (.inr rfl) [] (⟨15,mkS [(6,.x (.one (.p (pi (IntKind.i64.wrap (floor + (1:Int)))))))],mkH []⟩) rfl rfl imp_au
  · intro b_0
    replace H0:=cneg H0 b_0
    refine lok_skip ?_
    try simp only [thenL,blockL,↓reduceIte,reduceCtorEq]
    refine lok_rt E0 (⟨15,mkS [(6,.x (.one (.p (pi floor))))],mkH []⟩) ?_
    refine lok_ret ?_
    obtain rfl:=Option.some.inj H0
    try simp only [thenL,blockL]
    exact fin_au _ (.inr rfl) [] (⟨15,mkS [(6,.x (.one (.p (pi floor))))],mkH []⟩) rfl rfl imp_au
theorem ok_ratio_rounded_ratio_toRound (a : api_Ratio) (r_:Int) (H0 : ratio_rounded_ratio_toRound a = some r_) : CallOK Try.prog 93 [.agg [.p (pi a.Num),.p (pi a.Den)],.one (.fn 94 [])] [] [.one (.p (pi r_))] []:=by
  refine callOK (n:=34) (rs:=[.tmp 4]) (nb:=0) (V:=[]) Try.func93 rfl (by kernel_rfl) rfl rfl rfl rfl (Nat.le_of_ble_eq_true rfl) (by decide) ?_
  unfold ratio_rounded_ratio_toRound at H0
  refine lok_rt E0 (⟨34,mkS [(1,.x (.one (.fn 94 []))),(2,.x (.one (.ptr 102 0)))],mkH [(102,.var [.p (pi a.Num),.p (pi a.Den)])]⟩) ?_
  refine lok_seq ?_
  replace H0:=bind_some H0
  obtain ⟨y,h_0,H0⟩:=H0
  refine lok_rt (Env.of E0 [⟨some 8,78,[.agg [.p (pi a.Num),.p (pi a.Den)]],[],[.one (.p (.val (.bool y)))],[],True,fun _ => ok_ratio_Valid a y h_0,[]⟩]) (⟨34,mkS [(1,.x (.one (.fn 94 []))),(2,.x (.one (.ptr 102 0))),(9,.x (.one (.p (.val (.bool (!y))))))],mkH [(102,.var [.p (pi a.Num),.p (pi a.Den)])]⟩) ?_
  refine lok_c (!y) ?_ ?_
  · intro b_5
    replace H0:=cpos H0 b_5
    refine lok_rt E0 (⟨34,mkS [(4,.x (.one (.p (pi (0:Int)))))],mkH []⟩) ?_
    refine lok_ret ?_
    obtain rfl:=Option.some.inj H0
    try simp only [thenL,blockL]
    exact fin_au _ (.inr rfl) [] (⟨34,mkS [(4,.x (.one (.p (pi (0:Int)))))],mkH []⟩) rfl rfl imp_au
  · intro b_5
    replace H0:=cneg H0 b_5
    refine lok_skip ?_
    try simp only [thenL,blockL,↓reduceIte,reduceCtorEq]
    replace H0:=req_some H0
    obtain ⟨q_4,H0⟩:=H0
    refine lok_dt E0 11 (⟨34,mkS [(1,.x (.one (.fn 94 []))),(2,.x (.one (.ptr 102 0))),(5,.x (.one (.p (pi (IntKind.i64.wrap (Int.tdiv a.Num a.Den)))))),(6,.x (.one (.p (pi (Int.tmod a.Num a.Den)))))],mkH [(102,.var [.p (pi a.Num),.p (pi a.Den)])]⟩) (by kernel_rfl) (by kernel_rfl) ?_
    refine lok_join (fun x_ : Int × Int => ratio_rounded_ratio_toRound_j1 a x_.1 x_.2 = some r_) (fun x_ => ⟨34,mkS [(1,.x (.one (.fn 94 []))),(2,.x (.one (.ptr 102 0))),(5,.x (.one (.p (pi x_.1)))),(6,.x (.one (.p (pi x_.2))))],mkH [(102,.var [.p (pi a.Num),.p (pi a.Den)])]⟩) ?hyratio_rounded_ratio_toRound_j1 ?hxratio_rounded_ratio_toRound_j1
    case hyratio_rounded_ratio_toRound_j1 =>
      rintro ⟨floor,rest⟩ H0
      try dsimp only at H0 ⊢
      unfold ratio_rounded_ratio_toRound_j1 at H0
      replace H0:=bind_some H0
      obtain ⟨y1,h_1,H0⟩:=H0
      refine lok_rt (Env.of E0 [⟨some 33,94,[.one (.p (pi floor)),.one (.p (pi rest)),.one (.p (pi a.Den))],[],[.one (.p (pi y1))],[],True,fun _ => ok_ratio_toRound floor rest a.Den y1 h_1,[]⟩]) (⟨34,mkS [(4,.x (.one (.p (pi y1))))],mkH []⟩) ?_
      refine lok_ret ?_
      obtain rfl:=Option.some.inj H0
      try simp only [thenL,blockL]
      exact fin_au _ (.inr rfl) [] (⟨34,mkS [(4,.x (.one (.p (pi y1))))],mkH []⟩) rfl rfl imp_au
    case hxratio_rounded_ratio_toRound_j1 =>
      refine lok_rt E0 (⟨34,mkS [(1,.x (.one (.fn 94 []))),(2,.x (.one (.ptr 102 0))),(5,.x (.one (.p (pi (IntKind.i64.wrap (Int.tdiv a.Num a.Den)))))),(6,.x (.one (.p (pi (Int.tmod a.Num a.Den))))),(21,.x (.one (.p (.val (.bool (decide ((Int.tmod a.Num a.Den) < (0:Int))))))))],mkH [(102,.var [.p (pi a.Num),.p (pi a.Den)])]⟩) ?_
      refine lok_c (decide ((Int.tmod a.Num a.Den) < (0:Int))) ?_ ?_
      · intro b_3
        replace H0:=cpos H0 b_3
        replace H0:=bindV_some H0
        obtain ⟨floor1,a_2,H0⟩:=H0
        refine lok_dlg E0 7 a_2 (⟨34,mkS [(1,.x (.one (.fn 94 []))),(2,.x (.one (.ptr 102 0))),(5,.x (.one (.p (pi floor1)))),(6,.x (.one (.p (pi (IntKind.i64.wrap ((Int.tmod a.Num a.Den) + a.Den))))))],mkH [(102,.var [.p (pi a.Num),.p (pi a.Den)])]⟩) (by kernel_rfl) (by kernel_rfl) ?_
        try simp only [thenL,blockL,↓reduceIte,reduceCtorEq]
        exact ⟨(floor1,(IntKind.i64.wrap ((Int.tmod a.Num a.Den) + a.Den))),H0,imp_au⟩
      · intro b_3
        replace H0:=cneg H0 b_3
        refine lok_skip ?_
        try simp only [thenL,blockL,↓reduceIte,reduceCtorEq]
        exact ⟨((IntKind.i64.wrap (Int.tdiv a.Num a.Den)),(Int.tmod a.Num a.Den)),H0,imp_au⟩
theorem ok_ratio_Round (a : api_Ratio) (r_:Int) (H0 : ratio_Round a = some r_) : CallOK Try.prog 56 [.agg [.p (pi a.Num),.p (pi a.Den)]] [] [.one (.p (pi r_))] []:=by
  refine callOK (n:=5) (rs:=[.tmp 2]) (nb:=0) (V:=[]) Try.func56 rfl (by kernel_rfl) rfl rfl rfl rfl (Nat.le_of_ble_eq_true rfl) (by decide) ?_
  unfold ratio_Round at H0
  refine lok_rt E0 (⟨5,mkS [(1,.x (.one (.ptr 101 0)))],mkH [(101,.var [.p (pi a.Num),.p (pi a.Den)])]⟩) ?_
  replace H0:=bind_some H0
  obtain ⟨y,h_0,H0⟩:=H0
  refine lok_rt (Env.of E0 [⟨some 4,93,[.agg [.p (pi a.Num),.p (pi a.Den)],.one (.fn 94 [])],[],[.one (.p (pi y))],[],True,fun _ => ok_ratio_rounded_ratio_toRound a y h_0,[]⟩]) (⟨5,mkS [(2,.x (.one (.p (pi y))))],mkH []⟩) ?_
  refine lok_ret ?_
  obtain rfl:=Option.some.inj H0
  try simp only [thenL,blockL]
  exact fin_au _ (.inr rfl) [] (⟨5,mkS [(2,.x (.one (.p (pi y))))],mkH []⟩) rfl rfl imp_au
theorem ok_aggregate_Total (a : api_Award) (l : List api_UnitMark) (special:Int) (r_ : Int × Int) (H0 : aggregate_Total a l special = some r_) : CallOK Try.prog 23 [.agg [.p (.sl 3 (List.map enc_api_Unit a.Units)),.p (.sl 1 (List.map encI a.Bounds)),.p (pi a.Max)],.one (.p (.sl 3 (List.map enc_api_UnitMark l))),.one (.p (pi special))] [] [.one (.p (pi r_.1)),.one (.p (pi r_.2))] []:=by
  refine callOK (n:=22) (rs:=[.tmp 6,.tmp 7]) (nb:=0) (V:=[]) Try.func23 rfl (by kernel_rfl) rfl rfl rfl rfl (Nat.le_of_ble_eq_true rfl) (by decide) ?_
  unfold aggregate_Total at H0
  refine lok_rt E0 (⟨22,mkS [(1,.x (.one (.p (.sl 3 (List.map enc_api_UnitMark l))))),(2,.x (.one (.p (pi special)))),(3,.x (.one (.ptr 103 0)))],mkH [(103,.var [.p (.sl 3 (List.map enc_api_Unit a.Units)),.p (.sl 1 (List.map encI a.Bounds)),.p (pi a.Max)])]⟩) ?_
  replace H0:=bind_some H0
  obtain ⟨⟨y,y1⟩,h_0,H0⟩:=H0
  try dsimp only at H0
  refine lok_rt (Env.of E0 [⟨some 14,21,[.agg [.p (.sl 3 (List.map enc_api_Unit a.Units)),.p (.sl 1 (List.map encI a.Bounds)),.p (pi a.Max)],.one (.p (.sl 3 (List.map enc_api_UnitMark l))),.one (.p (pi special))],[],[.agg [.p (pi y.Num),.p (pi y.Den)],.one (.p (pi y1))],[],True,fun _ => ok_aggregate_Exact a l special (y,y1) h_0,[]⟩]) (⟨22,mkS [(8,.x (.one (.ptr 108 0))),(9,.x (.one (.p (pi y1))))],mkH [(108,.var [.p (pi y.Num),.p (pi y.Den)])]⟩) ?_
  refine lok_seq ?_
  refine lok_rt E0 (⟨22,mkS [(8,.x (.one (.ptr 108 0))),(9,.x (.one (.p (pi y1)))),(18,.x (.one (.p (.val (.bool (y1 != (0:Int)))))))],mkH [(108,.var [.p (pi y.Num),.p (pi y.Den)])]⟩) ?_
  refine lok_c (y1 != (0:Int)) ?_ ?_
  · intro b_2
    replace H0:=cpos H0 b_2
    refine lok_rt E0 (⟨22,mkS [(6,.x (.one (.p (pi (0:Int))))),(7,.x (.one (.p (pi y1))))],mkH []⟩) ?_
    refine lok_ret ?_
    obtain rfl:=Option.some.inj H0
    try simp only [thenL,blockL]
    exact fin_au _ (.inr rfl) [] (⟨22,mkS [(6,.x (.one (.p (pi (0:Int))))),(7,.x (.one (.p (pi y1))))],mkH []⟩) rfl rfl imp_au
  · intro b_2
    replace H0:=cneg H0 b_2
    refine lok_skip ?_
    try simp only [thenL,blockL,↓reduceIte,reduceCtorEq]
    replace H0:=bind_some H0
    obtain ⟨y2,h_1,H0⟩:=H0
    refine lok_rt (Env.of E0 [⟨some 21,56,[.agg [.p (pi y.Num),.p (pi y.Den)]],[],[.one (.p (pi y2))],[],True,fun _ => ok_ratio_Round y y2 h_1,[]⟩]) (⟨22,mkS [(6,.x (.one (.p (pi y2)))),(7,.x (.one (.p (pi (0:Int)))))],mkH []⟩) ?_
    refine lok_ret ?_
    obtain rfl:=Option.some.inj H0
    try simp only [thenL,blockL]
    exact fin_au _ (.inr rfl) [] (⟨22,mkS [(6,.x (.one (.p (pi y2)))),(7,.x (.one (.p (pi (0:Int)))))],mkH []⟩) rfl rfl imp_au
theorem ok_boundary_Grade (b : List Int) (mark:Int) (r_:Int) (H0 : boundary_Grade b mark = some r_) : CallOK Try.prog 58 [.one (.p (.sl 1 (List.map encI b))),.one (.p (pi mark))] [] [.one (.p (pi r_))] []:=by
  refine callOK (n:=21) (rs:=[.tmp 4]) (nb:=0) (V:=[]) Try.func58 rfl (by kernel_rfl) rfl rfl rfl rfl (Nat.le_of_ble_eq_true rfl) (by decide) ?_
  unfold boundary_Grade at H0
  refine lok_rt E0 (⟨21,mkS [(0,.x (.one (.p (.sl 1 (List.map encI b))))),(1,.x (.one (.p (pi mark))))],mkH []⟩) ?_
  refine lok_join (fun x_ : Unit => boundary_Grade_j1 b = some r_) (fun x_ => ⟨21,mkS [(0,.x (.one (.p (.sl 1 (List.map encI b)))))],mkH []⟩) ?hyboundary_Grade_j1 ?hxboundary_Grade_j1
  case hyboundary_Grade_j1 =>
    rintro _ H0
    try dsimp only at H0 ⊢
    unfold boundary_Grade_j1 at H0
    refine lok_rt E0 (⟨21,mkS [(4,.x (.one (.p (pi (b.length:Int)))))],mkH []⟩) ?_
    refine lok_ret ?_
    obtain rfl:=Option.some.inj H0
    try simp only [thenL,blockL]
    exact fin_au _ (.inr rfl) [] (⟨21,mkS [(4,.x (.one (.p (pi (b.length:Int)))))],mkH []⟩) rfl rfl imp_au
  case hxboundary_Grade_j1 =>
    refine lok_rt E0 (⟨21,mkS [(0,.x (.one (.p (.sl 1 (List.map encI b))))),(1,.x (.one (.p (pi mark)))),(7,.x (.one (.p (.sl 1 (List.map encI b))))),(8,.x (.one (.p (pi (b.length:Int))))),(9,.x (.one (.p (pi (0:Int)))))],mkH []⟩) ?_
    refine lok_block ?_
    replace H0:=bind_some H0
    obtain ⟨v_0,hv_0,H0⟩:=H0
    refine lok_iter (fun x_ => ⟨21,mkS [(0,.x (.one (.p (.sl 1 (List.map encI b))))),(1,.x (.one (.p (pi mark)))),(7,.x (.one (.p (.sl 1 (List.map encI b))))),(8,.x (.one (.p (pi (b.length:Int))))),(9,.x (.one (.p (pi x_))))],mkH []⟩) hv_0 imp_au ?_
    · rintro v o_1 H1 k_1
      unfold boundary_Grade_l2 at H1
      try dsimp only at H1 ⊢
      refine lok_rt E0 (⟨21,mkS [(0,.x (.one (.p (.sl 1 (List.map encI b))))),(1,.x (.one (.p (pi mark)))),(7,.x (.one (.p (.sl 1 (List.map encI b))))),(8,.x (.one (.p (pi (b.length:Int))))),(9,.x (.one (.p (pi v)))),(10,.x (.one (.p (.val (.bool (decide (v < (b.length:Int))))))))],mkH []⟩) ?_
      refine lok_seq ?_
      refine lok_c (decide (v < (b.length:Int))) ?_ ?_
      · intro b_3
        replace H1:=cpos H1 b_3
        refine lok_skip ?_
        try simp only [thenL,blockL,↓reduceIte,reduceCtorEq]
        refine lok_seq ?_
        refine lok_block ?_
        replace H1:=req_some H1
        obtain ⟨q_2,H1⟩:=H1
        refine lok_rt E0 (⟨21,mkS [(0,.x (.one (.p (.sl 1 (List.map encI b))))),(1,.x (.one (.p (pi mark)))),(5,.x (.one (.p (pi v)))),(6,.x (.one (.p (pi (ix b v))))),(7,.x (.one (.p (.sl 1 (List.map encI b))))),(8,.x (.one (.p (pi (b.length:Int))))),(9,.x (.one (.p (pi v))))],mkH []⟩) ?_
        refine lok_rt E0 (⟨21,mkS [(0,.x (.one (.p (.sl 1 (List.map encI b))))),(1,.x (.one (.p (pi mark)))),(5,.x (.one (.p (pi v)))),(7,.x (.one (.p (.sl 1 (List.map encI b))))),(8,.x (.one (.p (pi (b.length:Int))))),(9,.x (.one (.p (pi v)))),(16,.x (.one (.p (.val (.bool (decide ((ix b v) ≤ mark)))))))],mkH []⟩) ?_
        refine lok_c (decide ((ix b v) ≤ mark)) ?_ ?_
        · intro b_1
          replace H1:=cpos H1 b_1
          refine lok_rt E0 (⟨21,mkS [(4,.x (.one (.p (pi v))))],mkH []⟩) ?_
          refine lok_ret ?_
          try simp only [thenL,blockL,↓reduceIte,reduceCtorEq]
          have e_1:=k_1 _ (Option.some.inj H1).symm
          subst e_1
          try dsimp only at H0
          obtain rfl:=Option.some.inj H0
          try simp only [thenL,blockL]
          exact fin_au _ (.inr rfl) [] (⟨21,mkS [(4,.x (.one (.p (pi v))))],mkH []⟩) rfl rfl imp_au
        · intro b_1
          replace H1:=cneg H1 b_1
          refine lok_skip ?_
          try simp only [thenL,blockL,↓reduceIte,reduceCtorEq]
          refine lok_rl E0 (⟨21,mkS [(0,.x (.one (.p (.sl 1 (List.map encI b))))),(1,.x (.one (.p (pi mark)))),(7,.x (.one (.p (.sl 1 (List.map encI b))))),(8,.x (.one (.p (pi (b.length:Int))))),(9,.x (.one (.p (pi (IntKind.i64.wrap (v + (1:Int)))))))],mkH []⟩) ?_
          try simp only [thenL,blockL,↓reduceIte,reduceCtorEq]
          exact ⟨(IntKind.i64.wrap (v + (1:Int))),(Option.some.inj H1).symm,imp_au⟩
      · intro b_3
        replace H1:=cneg H1 b_3
        refine lok_exit ?_
        try simp only [thenL,blockL,↓reduceIte,reduceCtorEq]
        have e_1:=k_1 _ (Option.some.inj H1).symm
        subst e_1
        try dsimp only at H0
        try simp only [thenL,blockL,↓reduceIte,reduceCtorEq]
        exact ⟨(),H0,imp_au⟩
theorem ok_aggregate_Decide (a : api_Award) (l : List api_UnitMark) (special:Int) (r_ : Int × Int × Int × Int) (H0 : aggregate_Decide a l special = some r_) : CallOK Try.prog 25 [.agg [.p (.sl 3 (List.map enc_api_Unit a.Units)),.p (.sl 1 (List.map encI a.Bounds)),.p (pi a.Max)],.one (.p (.sl 3 (List.map enc_api_UnitMark l))),.one (.p (pi special))] [] [.one (.p (pi r_.1)),.one (.p (pi r_.2.1)),.one (.p (pi r_.2.2.1)),.one (.p (pi r_.2.2.2))] []:=by
  refine callOK (n:=38) (rs:=[.tmp 6,.tmp 7,.tmp 8,.tmp 9]) (nb:=0) (V:=[]) Try.func25 rfl (by kernel_rfl) rfl rfl rfl rfl (Nat.le_of_ble_eq_true rfl) (by decide) ?_
  unfold aggregate_Decide at H0
  refine lok_rt E0 (⟨38,mkS [(1,.x (.one (.p (.sl 3 (List.map enc_api_UnitMark l))))),(2,.x (.one (.p (pi special)))),(3,.x (.one (.ptr 103 0)))],mkH [(103,.var [.p (.sl 3 (List.map enc_api_Unit a.Units)),.p (.sl 1 (List.map encI a.Bounds)),.p (pi a.Max)])]⟩) ?_
  refine lok_seq ?_
  replace H0:=bind_some H0
  obtain ⟨y,h_0,H0⟩:=H0
  refine lok_rt (Env.of E0 [⟨some 14,44,[.agg [.p (.sl 3 (List.map enc_api_Unit a.Units)),.p (.sl 1 (List.map encI a.Bounds)),.p (pi a.Max)],.one (.p (.sl 3 (List.map enc_api_UnitMark l))),.one (.p (pi special))],[],[.one (.p (pi y))],[],True,fun _ => ok_aggregate_checkMarks a l special y h_0,[]⟩]) (⟨38,mkS [(1,.x (.one (.p (.sl 3 (List.map enc_api_UnitMark l))))),(2,.x (.one (.p (pi special)))),(3,.x (.one (.ptr 103 0))),(10,.x (.one (.p (pi y))))],mkH [(103,.var [.p (.sl 3 (List.map enc_api_Unit a.Units)),.p (.sl 1 (List.map encI a.Bounds)),.p (pi a.Max)])]⟩) ?_
  refine lok_rt E0 (⟨38,mkS [(1,.x (.one (.p (.sl 3 (List.map enc_api_UnitMark l))))),(2,.x (.one (.p (pi special)))),(3,.x (.one (.ptr 103 0))),(10,.x (.one (.p (pi y)))),(16,.x (.one (.p (.val (.bool (y != (0:Int)))))))],mkH [(103,.var [.p (.sl 3 (List.map enc_api_Unit a.Units)),.p (.sl 1 (List.map encI a.Bounds)),.p (pi a.Max)])]⟩) ?_
  refine lok_c (y != (0:Int)) ?_ ?_
  · intro b_8
    replace H0:=cpos H0 b_8
    refine lok_rt E0 (⟨38,mkS [(6,.x (.one (.p (pi (0:Int))))),(7,.x (.one (.p (pi (0:Int))))),(8,.x (.one (.p (pi (0:Int))))),(9,.x (.one (.p (pi y))))],mkH []⟩) ?_
    refine lok_ret ?_
    obtain rfl:=Option.some.inj H0
    try simp only [thenL,blockL]
    exact fin_au _ (.inr rfl) [] (⟨38,mkS [(6,.x (.one (.p (pi (0:Int))))),(7,.x (.one (.p (pi (0:Int))))),(8,.x (.one (.p (pi (0:Int))))),(9,.x (.one (.p (pi y))))],mkH []⟩) rfl rfl imp_au
  · intro b_8
    replace H0:=cneg H0 b_8
    refine lok_skip ?_
    try simp only [thenL,blockL,↓reduceIte,reduceCtorEq]
    refine lok_seq ?_
    replace H0:=bind_some H0
    obtain ⟨y1,h_1,H0⟩:=H0
    refine lok_rt (Env.of E0 [⟨some 19,45,[.one (.p (.sl 3 (List.map enc_api_UnitMark l))),.one (.p (pi (3:Int)))],[],[.one (.p (.val (.bool y1)))],[],True,fun _ => ok_aggregate_has l (3:Int) y1 h_1,[]⟩]) (⟨38,mkS [(1,.x (.one (.p (.sl 3 (List.map enc_api_UnitMark l))))),(2,.x (.one (.p (pi special)))),(3,.x (.one (.ptr 103 0))),(19,.x (.one (.p (.val (.bool y1)))))],mkH [(103,.var [.p (.sl 3 (List.map enc_api_Unit a.Units)),.p (.sl 1 (List.map encI a.Bounds)),.p (pi a.Max)])]⟩) ?_
    refine lok_c y1 ?_ ?_
    · intro b_7
      replace H0:=cpos H0 b_7
      refine lok_rt E0 (⟨38,mkS [(6,.x (.one (.p (pi (2:Int))))),(7,.x (.one (.p (pi (0:Int))))),(8,.x (.one (.p (pi (0:Int))))),(9,.x (.one (.p (pi (0:Int)))))],mkH []⟩) ?_
      refine lok_ret ?_
      obtain rfl:=Option.some.inj H0
      try simp only [thenL,blockL]
      exact fin_au _ (.inr rfl) [] (⟨38,mkS [(6,.x (.one (.p (pi (2:Int))))),(7,.x (.one (.p (pi (0:Int))))),(8,.x (.one (.p (pi (0:Int))))),(9,.x (.one (.p (pi (0:Int)))))],mkH []⟩) rfl rfl imp_au
    · intro b_7
      replace H0:=cneg H0 b_7
      refine lok_skip ?_
      try simp only [thenL,blockL,↓reduceIte,reduceCtorEq]
      refine lok_seq ?_
      replace H0:=bind_some H0
      obtain ⟨y2,h_2,H0⟩:=H0
      refine lok_rt (Env.of E0 [⟨some 21,45,[.one (.p (.sl 3 (List.map enc_api_UnitMark l))),.one (.p (pi (0:Int)))],[],[.one (.p (.val (.bool y2)))],[],True,fun _ => ok_aggregate_has l (0:Int) y2 h_2,[]⟩]) (⟨38,mkS [(1,.x (.one (.p (.sl 3 (List.map enc_api_UnitMark l))))),(2,.x (.one (.p (pi special)))),(3,.x (.one (.ptr 103 0))),(22,.x (.one (.p (.val (.bool (!y2))))))],mkH [(103,.var [.p (.sl 3 (List.map enc_api_Unit a.Units)),.p (.sl 1 (List.map encI a.Bounds)),.p (pi a.Max)])]⟩) ?_
      refine lok_c (!y2) ?_ ?_
      · intro b_6
        replace H0:=cpos H0 b_6
        refine lok_rt E0 (⟨38,mkS [(6,.x (.one (.p (pi (1:Int))))),(7,.x (.one (.p (pi (0:Int))))),(8,.x (.one (.p (pi (0:Int))))),(9,.x (.one (.p (pi (0:Int)))))],mkH []⟩) ?_
        refine lok_ret ?_
        obtain rfl:=Option.some.inj H0
        try simp only [thenL,blockL]
        exact fin_au _ (.inr rfl) [] (⟨38,mkS [(6,.x (.one (.p (pi (1:Int))))),(7,.x (.one (.p (pi (0:Int))))),(8,.x (.one (.p (pi (0:Int))))),(9,.x (.one (.p (pi (0:Int)))))],mkH []⟩) rfl rfl imp_au
      · intro b_6
        replace H0:=cneg H0 b_6
        refine lok_skip ?_
        try simp only [thenL,blockL,↓reduceIte,reduceCtorEq]
        replace H0:=bind_some H0
        obtain ⟨⟨y3,y4⟩,h_3,H0⟩:=H0
        try dsimp only at H0
        refine lok_rt (Env.of E0 [⟨some 27,23,[.agg [.p (.sl 3 (List.map enc_api_Unit a.Units)),.p (.sl 1 (List.map encI a.Bounds)),.p (pi a.Max)],.one (.p (.sl 3 (List.map enc_api_UnitMark l))),.one (.p (pi special))],[],[.one (.p (pi y3)),.one (.p (pi y4))],[],True,fun _ => ok_aggregate_Total a l special (y3,y4) h_3,[]⟩]) (⟨38,mkS [(3,.x (.one (.ptr 103 0))),(8,.x (.one (.p (pi y3)))),(9,.x (.one (.p (pi y4))))],mkH [(103,.var [.p (.sl 3 (List.map enc_api_Unit a.Units)),.p (.sl 1 (List.map encI a.Bounds)),.p (pi a.Max)])]⟩) ?_
        refine lok_seq ?_
        refine lok_rt E0 (⟨38,mkS [(3,.x (.one (.ptr 103 0))),(8,.x (.one (.p (pi y3)))),(9,.x (.one (.p (pi y4)))),(31,.x (.one (.p (.val (.bool (y4 != (0:Int)))))))],mkH [(103,.var [.p (.sl 3 (List.map enc_api_Unit a.Units)),.p (.sl 1 (List.map encI a.Bounds)),.p (pi a.Max)])]⟩) ?_
        refine lok_c (y4 != (0:Int)) ?_ ?_
        · intro b_5
          replace H0:=cpos H0 b_5
          refine lok_rt E0 (⟨38,mkS [(6,.x (.one (.p (pi (0:Int))))),(7,.x (.one (.p (pi (0:Int))))),(8,.x (.one (.p (pi (0:Int))))),(9,.x (.one (.p (pi y4))))],mkH []⟩) ?_
          refine lok_ret ?_
          obtain rfl:=Option.some.inj H0
          try simp only [thenL,blockL]
          exact fin_au _ (.inr rfl) [] (⟨38,mkS [(6,.x (.one (.p (pi (0:Int))))),(7,.x (.one (.p (pi (0:Int))))),(8,.x (.one (.p (pi (0:Int))))),(9,.x (.one (.p (pi y4))))],mkH []⟩) rfl rfl imp_au
        · intro b_5
          replace H0:=cneg H0 b_5
          refine lok_skip ?_
          try simp only [thenL,blockL,↓reduceIte,reduceCtorEq]
          replace H0:=bind_some H0
          obtain ⟨y5,h_4,H0⟩:=H0
          refine lok_rt (Env.of E0 [⟨some 36,58,[.one (.p (.sl 1 (List.map encI a.Bounds))),.one (.p (pi y3))],[],[.one (.p (pi y5))],[],True,fun _ => ok_boundary_Grade a.Bounds y3 y5 h_4,[]⟩]) (⟨38,mkS [(6,.x (.one (.p (pi (0:Int))))),(7,.x (.one (.p (pi y5)))),(8,.x (.one (.p (pi y3)))),(9,.x (.one (.p (pi (0:Int)))))],mkH []⟩) ?_
          refine lok_ret ?_
          obtain rfl:=Option.some.inj H0
          try simp only [thenL,blockL]
          exact fin_au _ (.inr rfl) [] (⟨38,mkS [(6,.x (.one (.p (pi (0:Int))))),(7,.x (.one (.p (pi y5)))),(8,.x (.one (.p (pi y3)))),(9,.x (.one (.p (pi (0:Int)))))],mkH []⟩) rfl rfl imp_au
theorem ok_aggregate_Estimate (a : api_Award) (l : List api_UnitMark) (unit:Int) (r_ : api_Ratio × Int) (H0 : aggregate_Estimate a l unit = some r_) : CallOK Try.prog 27 [.agg [.p (.sl 3 (List.map enc_api_Unit a.Units)),.p (.sl 1 (List.map encI a.Bounds)),.p (pi a.Max)],.one (.p (.sl 3 (List.map enc_api_UnitMark l))),.one (.p (pi unit))] [] [.agg [.p (pi r_.1.Num),.p (pi r_.1.Den)],.one (.p (pi r_.2))] []:=by
  refine callOK (n:=41) (rs:=[.cell 6 36,.tmp 7]) (nb:=0) (V:=[]) Try.func27 rfl (by kernel_rfl) rfl rfl rfl rfl (Nat.le_of_ble_eq_true rfl) (by decide) ?_
  unfold aggregate_Estimate at H0
  refine lok_rt E0 (⟨41,mkS [(1,.x (.one (.p (.sl 3 (List.map enc_api_UnitMark l))))),(2,.x (.one (.p (pi unit)))),(3,.x (.one (.ptr 103 0))),(6,.x (.one (.ptr 106 0)))],mkH [(103,.var [.p (.sl 3 (List.map enc_api_Unit a.Units)),.p (.sl 1 (List.map encI a.Bounds)),.p (pi a.Max)]),(106,.var [.p (pi (0:Int)),.p (pi (0:Int))])]⟩) ?_
  refine lok_seq ?_
  refine lok_rt E0 (⟨41,mkS [(1,.x (.one (.p (.sl 3 (List.map enc_api_UnitMark l))))),(2,.x (.one (.p (pi unit)))),(3,.x (.one (.ptr 103 0))),(6,.x (.one (.ptr 106 0))),(18,.x (.one (.p (.val (.bool ((decide (unit < (0:Int))) || (decide ((a.Units.length:Int) ≤ unit))))))))],mkH [(103,.var [.p (.sl 3 (List.map enc_api_Unit a.Units)),.p (.sl 1 (List.map encI a.Bounds)),.p (pi a.Max)]),(106,.var [.p (pi (0:Int)),.p (pi (0:Int))])]⟩) ?_
  refine lok_c ((decide (unit < (0:Int))) || (decide ((a.Units.length:Int) ≤ unit))) ?_ ?_
  · intro b_4
    replace H0:=cpos H0 b_4
    refine lok_rt E0 (⟨41,mkS [(6,.x (.one (.ptr 106 0))),(7,.x (.one (.p (pi (4:Int)))))],mkH [(106,.var [.p (pi (0:Int)),.p (pi (0:Int))])]⟩) ?_
    refine lok_ret ?_
    obtain rfl:=Option.some.inj H0
    try simp only [thenL,blockL]
    exact fin_au _ (.inr rfl) [] (⟨41,mkS [(6,.x (.one (.ptr 106 0))),(7,.x (.one (.p (pi (4:Int)))))],mkH [(106,.var [.p (pi (0:Int)),.p (pi (0:Int))])]⟩) rfl rfl imp_au
  · intro b_4
    replace H0:=cneg H0 b_4
    refine lok_skip ?_
    try simp only [thenL,blockL,↓reduceIte,reduceCtorEq]
    refine lok_seq ?_
    replace H0:=bind_some H0
    obtain ⟨⟨y,y1⟩,h_0,H0⟩:=H0
    try dsimp only at H0
    refine lok_rt (Env.of E0 [⟨some 23,21,[.agg [.p (.sl 3 (List.map enc_api_Unit a.Units)),.p (.sl 1 (List.map encI a.Bounds)),.p (pi a.Max)],.one (.p (.sl 3 (List.map enc_api_UnitMark l))),.one (.p (pi (0:Int)))],[],[.agg [.p (pi y.Num),.p (pi y.Den)],.one (.p (pi y1))],[],True,fun _ => ok_aggregate_Exact a l (0:Int) (y,y1) h_0,[]⟩]) (⟨41,mkS [(1,.x (.one (.p (.sl 3 (List.map enc_api_UnitMark l))))),(2,.x (.one (.p (pi unit)))),(3,.x (.one (.ptr 103 0))),(6,.x (.one (.ptr 106 0))),(9,.x (.one (.p (pi y1))))],mkH [(103,.var [.p (.sl 3 (List.map enc_api_Unit a.Units)),.p (.sl 1 (List.map encI a.Bounds)),.p (pi a.Max)]),(106,.var [.p (pi (0:Int)),.p (pi (0:Int))])]⟩) ?_
    refine lok_rt E0 (⟨41,mkS [(1,.x (.one (.p (.sl 3 (List.map enc_api_UnitMark l))))),(2,.x (.one (.p (pi unit)))),(3,.x (.one (.ptr 103 0))),(6,.x (.one (.ptr 106 0))),(9,.x (.one (.p (pi y1)))),(27,.x (.one (.p (.val (.bool (y1 != (0:Int)))))))],mkH [(103,.var [.p (.sl 3 (List.map enc_api_Unit a.Units)),.p (.sl 1 (List.map encI a.Bounds)),.p (pi a.Max)]),(106,.var [.p (pi (0:Int)),.p (pi (0:Int))])]⟩) ?_
    refine lok_c (y1 != (0:Int)) ?_ ?_
    · intro b_3
      replace H0:=cpos H0 b_3
      refine lok_rt E0 (⟨41,mkS [(6,.x (.one (.ptr 106 0))),(7,.x (.one (.p (pi y1))))],mkH [(106,.var [.p (pi (0:Int)),.p (pi (0:Int))])]⟩) ?_
      refine lok_ret ?_
      obtain rfl:=Option.some.inj H0
      try simp only [thenL,blockL]
      exact fin_au _ (.inr rfl) [] (⟨41,mkS [(6,.x (.one (.ptr 106 0))),(7,.x (.one (.p (pi y1))))],mkH [(106,.var [.p (pi (0:Int)),.p (pi (0:Int))])]⟩) rfl rfl imp_au
    · intro b_3
      replace H0:=cneg H0 b_3
      refine lok_skip ?_
      try simp only [thenL,blockL,↓reduceIte,reduceCtorEq]
      replace H0:=req_some H0
      obtain ⟨q_2,H0⟩:=H0
      replace H0:=bind_some H0
      obtain ⟨⟨y2,y3⟩,h_1,H0⟩:=H0
      try dsimp only at H0
      refine lok_dt (Env.of E0 [⟨some 38,46,[.agg [.p (.sl 3 (List.map enc_api_Unit a.Units)),.p (.sl 1 (List.map encI a.Bounds)),.p (pi a.Max)],.one (.p (.sl 3 (List.map enc_api_UnitMark l))),.one (.p (pi ((ix a.Units unit).Max)))],[],[.agg [.p (pi y2.Num),.p (pi y2.Den)],.one (.p (pi y3))],[],True,fun _ => ok_aggregate_scaled a l ((ix a.Units unit).Max) (y2,y3) h_1,[]⟩]) 11 (⟨41,mkS [(6,.x (.one (.ptr 106 0))),(7,.x (.one (.p (pi y3))))],mkH [(106,.var [.p (pi y2.Num),.p (pi y2.Den)])]⟩) (by kernel_rfl) (by kernel_rfl) ?_
      refine lok_ret ?_
      obtain rfl:=Option.some.inj H0
      try simp only [thenL,blockL]
      exact fin_au _ (.inr rfl) [] (⟨41,mkS [(6,.x (.one (.ptr 106 0))),(7,.x (.one (.p (pi y3))))],mkH [(106,.var [.p (pi y2.Num),.p (pi y2.Den)])]⟩) rfl rfl imp_au
theorem ok_law36_sane  (r_ : Bool) (H0 : law36_sane = some r_) : CallOK Try.prog 11 [] [] [.one (.p (.val (.bool r_)))] []:=by
  refine callOK (n:=82) (rs:=[.tmp 0]) (nb:=0) (V:=[]) Try.func11 rfl (by kernel_rfl) rfl rfl rfl rfl (Nat.le_of_ble_eq_true rfl) (by decide) ?_
  unfold law36_sane at H0
  refine lok_rt E0 (⟨82,mkS [],mkH []⟩) ?_
  refine lok_rt E0 (⟨82,mkS [(1,.x (.one (.ptr 101 0)))],mkH [(101,.var [.fl 3 (List.map enc_api_Unit ([(api_Unit.mk (0:Int) (60:Int) (50:Int)),(api_Unit.mk (1:Int) (40:Int) (100:Int))])),.fl 1 (List.map encI ([(60:Int),(50:Int)])),.p (pi (100:Int))])]⟩) ?_
  replace H0:=bind_some H0
  obtain ⟨y,h_0,H0⟩:=H0
  replace H0:=bind_some H0
  obtain ⟨y1,h_1,H0⟩:=H0
  refine lok_rt (Env.of E0 [⟨some 16,17,[.one (.p (pi (25:Int)))],[],[.agg [.p (pi y.Num),.p (pi y.Den)]],[],True,fun _ => ok_law36_whole (25:Int) y h_0,[]⟩,
      ⟨some 18,17,[.one (.p (pi (80:Int)))],[],[.agg [.p (pi y1.Num),.p (pi y1.Den)]],[],True,fun _ => ok_law36_whole (80:Int) y1 h_1,[]⟩]) (⟨82,mkS [(1,.x (.one (.ptr 101 0))),(2,.x (.one (.fl 3 (List.map enc_api_UnitMark ([(api_UnitMark.mk (0:Int) y),(api_UnitMark.mk (0:Int) y1)])))))],mkH [(101,.var [.fl 3 (List.map enc_api_Unit ([(api_Unit.mk (0:Int) (60:Int) (50:Int)),(api_Unit.mk (1:Int) (40:Int) (100:Int))])),.fl 1 (List.map encI ([(60:Int),(50:Int)])),.p (pi (100:Int))])]⟩) ?_
  replace H0:=bind_some H0
  obtain ⟨⟨y2,y3⟩,h_2,H0⟩:=H0
  try dsimp only at H0
  refine lok_rt (Env.of E0 [⟨some 24,23,[.agg [.p (.sl 3 (List.map enc_api_Unit ([(api_Unit.mk (0:Int) (60:Int) (50:Int)),(api_Unit.mk (1:Int) (40:Int) (100:Int))]))),.p (.sl 1 (List.map encI ([(60:Int),(50:Int)]))),.p (pi (100:Int))],.one (.p (.sl 3 (List.map enc_api_UnitMark ([(api_UnitMark.mk (0:Int) y),(api_UnitMark.mk (0:Int) y1)])))),.one (.p (pi (0:Int)))],[],[.one (.p (pi y2)),.one (.p (pi y3))],[],True,fun _ => ok_aggregate_Total (api_Award.mk ([(api_Unit.mk (0:Int) (60:Int) (50:Int)),(api_Unit.mk (1:Int) (40:Int) (100:Int))]) ([(60:Int),(50:Int)]) (100:Int)) ([(api_UnitMark.mk (0:Int) y),(api_UnitMark.mk (0:Int) y1)]) (0:Int) (y2,y3) h_2,[]⟩]) (⟨82,mkS [(1,.x (.one (.ptr 101 0))),(2,.x (.one (.fl 3 (List.map enc_api_UnitMark ([(api_UnitMark.mk (0:Int) y),(api_UnitMark.mk (0:Int) y1)]))))),(3,.x (.one (.p (pi y2)))),(4,.x (.one (.p (pi y3))))],mkH [(101,.var [.fl 3 (List.map enc_api_Unit ([(api_Unit.mk (0:Int) (60:Int) (50:Int)),(api_Unit.mk (1:Int) (40:Int) (100:Int))])),.fl 1 (List.map encI ([(60:Int),(50:Int)])),.p (pi (100:Int))])]⟩) ?_
  replace H0:=req_some H0
  obtain ⟨q_9,H0⟩:=H0
  replace H0:=bind_some H0
  obtain ⟨y4,h_3,H0⟩:=H0
  replace H0:=bind_some H0
  obtain ⟨⟨y5,y6,y7,y8⟩,h_4,H0⟩:=H0
  try dsimp only at H0
  refine lok_dt (Env.of E0 [⟨some 32,17,[.one (.p (pi (0:Int)))],[],[.agg [.p (pi y4.Num),.p (pi y4.Den)]],[],True,fun _ => ok_law36_whole (0:Int) y4 h_3,[]⟩,
      ⟨some 35,25,[.agg [.p (.sl 3 (List.map enc_api_Unit ([(api_Unit.mk (0:Int) (60:Int) (50:Int)),(api_Unit.mk (1:Int) (40:Int) (100:Int))]))),.p (.sl 1 (List.map encI ([(60:Int),(50:Int)]))),.p (pi (100:Int))],.one (.p (.sl 3 (List.map enc_api_UnitMark ([(api_UnitMark.mk (0:Int) y),(api_UnitMark.mk (2:Int) y4)])))),.one (.p (pi (0:Int)))],[],[.one (.p (pi y5)),.one (.p (pi y6)),.one (.p (pi y7)),.one (.p (pi y8))],[],True,fun _ => ok_aggregate_Decide (api_Award.mk ([(api_Unit.mk (0:Int) (60:Int) (50:Int)),(api_Unit.mk (1:Int) (40:Int) (100:Int))]) ([(60:Int),(50:Int)]) (100:Int)) ([(api_UnitMark.mk (0:Int) y),(api_UnitMark.mk (2:Int) y4)]) (0:Int) (y5,y6,y7,y8) h_4,[]⟩]) 16 (⟨82,mkS [(1,.x (.one (.ptr 101 0))),(2,.x (.one (.fl 3 (List.map enc_api_UnitMark ([(api_UnitMark.mk (0:Int) y),(api_UnitMark.mk (0:Int) y1)]))))),(3,.x (.one (.p (pi y2)))),(4,.x (.one (.p (pi y3)))),(5,.x (.one (.p (pi y5)))),(6,.x (.one (.p (pi y6)))),(7,.x (.one (.p (pi y7)))),(8,.x (.one (.p (pi y8))))],mkH [(101,.var [.fl 3 (List.map enc_api_Unit ([(api_Unit.mk (0:Int) (60:Int) (50:Int)),(api_Unit.mk (1:Int) (40:Int) (100:Int))])),.fl 1 (List.map encI ([(60:Int),(50:Int)])),.p (pi (100:Int))])]⟩) (by kernel_rfl) (by kernel_rfl) ?_
  replace H0:=req_some H0
  obtain ⟨q_8,H0⟩:=H0
  replace H0:=bind_some H0
  obtain ⟨y9,h_5,H0⟩:=H0
  replace H0:=bind_some H0
  obtain ⟨⟨y10,y11⟩,h_6,H0⟩:=H0
  try dsimp only at H0
  refine lok_et (Env.of E0 [⟨some 45,17,[.one (.p (pi (0:Int)))],[],[.agg [.p (pi y9.Num),.p (pi y9.Den)]],[],True,fun _ => ok_law36_whole (0:Int) y9 h_5,[]⟩,
      ⟨some 48,27,[.agg [.p (.sl 3 (List.map enc_api_Unit ([(api_Unit.mk (0:Int) (60:Int) (50:Int)),(api_Unit.mk (1:Int) (40:Int) (100:Int))]))),.p (.sl 1 (List.map encI ([(60:Int),(50:Int)]))),.p (pi (100:Int))],.one (.p (.sl 3 (List.map enc_api_UnitMark ([(api_UnitMark.mk (0:Int) y),(api_UnitMark.mk (2:Int) y9)])))),.one (.p (pi (1:Int)))],[],[.agg [.p (pi y10.Num),.p (pi y10.Den)],.one (.p (pi y11))],[],True,fun _ => ok_aggregate_Estimate (api_Award.mk ([(api_Unit.mk (0:Int) (60:Int) (50:Int)),(api_Unit.mk (1:Int) (40:Int) (100:Int))]) ([(60:Int),(50:Int)]) (100:Int)) ([(api_UnitMark.mk (0:Int) y),(api_UnitMark.mk (2:Int) y9)]) (1:Int) (y10,y11) h_6,[]⟩]) 82 [⟨[(1,.x (.one (.ptr 101 0)))],[(101,some (.var [.fl 3 (List.map enc_api_Unit ([(api_Unit.mk (0:Int) (60:Int) (50:Int)),(api_Unit.mk (1:Int) (40:Int) (100:Int))])),.fl 1 (List.map encI ([(60:Int),(50:Int)])),.p (pi (100:Int))]))],[(41,.x (.agg [.fl 3 (List.map enc_api_Unit ([(api_Unit.mk (0:Int) (60:Int) (50:Int)),(api_Unit.mk (1:Int) (40:Int) (100:Int))])),.fl 1 (List.map encI ([(60:Int),(50:Int)])),.p (pi (100:Int))]))],[],none⟩,
      ⟨[(2,.x (.one (.fl 3 (List.map enc_api_UnitMark ([(api_UnitMark.mk (0:Int) y),(api_UnitMark.mk (0:Int) y1)])))))],[],[(42,.x (.one (.fl 3 (List.map enc_api_UnitMark ([(api_UnitMark.mk (0:Int) y),(api_UnitMark.mk (0:Int) y1)])))))],[],none⟩,
      ⟨[(42,.x (.one (.fl 3 (List.map enc_api_UnitMark ([(api_UnitMark.mk (0:Int) y),(api_UnitMark.mk (0:Int) y1)])))))],[],[(43,.x (.one (.ep [pi (0:Int),pi y.Num,pi y.Den])))],[],none⟩,
      ⟨[(43,.x (.one (.ep [pi (0:Int),pi y.Num,pi y.Den])))],[],[(44,.x (.agg [.p (pi (0:Int)),.p (pi y.Num),.p (pi y.Den)]))],[],none⟩,
      ⟨[],[],[(45,.x (.agg [.p (pi y9.Num),.p (pi y9.Den)]))],[],none⟩,
      ⟨[(45,.x (.agg [.p (pi y9.Num),.p (pi y9.Den)]))],[],[(46,.x (.agg [.p (pi (2:Int)),.p (pi y9.Num),.p (pi y9.Den)]))],[],none⟩,
      ⟨[(44,.x (.agg [.p (pi (0:Int)),.p (pi y.Num),.p (pi y.Den)])),(46,.x (.agg [.p (pi (2:Int)),.p (pi y9.Num),.p (pi y9.Den)]))],[],[(47,.x (.one (.fl 3 (List.map enc_api_UnitMark ([(api_UnitMark.mk (0:Int) y),(api_UnitMark.mk (2:Int) y9)])))))],[],none⟩,
      ⟨[(41,.x (.agg [.fl 3 (List.map enc_api_Unit ([(api_Unit.mk (0:Int) (60:Int) (50:Int)),(api_Unit.mk (1:Int) (40:Int) (100:Int))])),.fl 1 (List.map encI ([(60:Int),(50:Int)])),.p (pi (100:Int))])),(47,.x (.one (.fl 3 (List.map enc_api_UnitMark ([(api_UnitMark.mk (0:Int) y),(api_UnitMark.mk (2:Int) y9)])))))],[],[(48,.tup [.agg [.p (pi y10.Num),.p (pi y10.Den)],.one (.p (pi y11))])],[],none⟩,
      ⟨[(48,.tup [.agg [.p (pi y10.Num),.p (pi y10.Den)],.one (.p (pi y11))])],[],[(40,.tup [.agg [.p (pi y10.Num),.p (pi y10.Den)],.one (.p (pi y11))])],[],none⟩,
      ⟨[(40,.tup [.agg [.p (pi y10.Num),.p (pi y10.Den)],.one (.p (pi y11))])],[],[(49,.x (.agg [.p (pi y10.Num),.p (pi y10.Den)]))],[],none⟩,
      ⟨[(40,.tup [.agg [.p (pi y10.Num),.p (pi y10.Den)],.one (.p (pi y11))])],[],[(50,.x (.one (.p (pi y11))))],[],none⟩,
      ⟨[],[(109,none)],[(9,.x (.one (.ptr 109 0)))],[(109,some (.var [.p (pi (0:Int)),.p (pi (0:Int))]))],some 109⟩,
      ⟨[(9,.x (.one (.ptr 109 0))),(49,.x (.agg [.p (pi y10.Num),.p (pi y10.Den)]))],[(109,some (.var [.p (pi (0:Int)),.p (pi (0:Int))]))],[],[(109,some (.var [.p (pi y10.Num),.p (pi y10.Den)]))],none⟩] (⟨82,mkS [(3,.x (.one (.p (pi y2)))),(4,.x (.one (.p (pi y3)))),(5,.x (.one (.p (pi y5)))),(6,.x (.one (.p (pi y6)))),(7,.x (.one (.p (pi y7)))),(8,.x (.one (.p (pi y8)))),(9,.x (.one (.ptr 109 0))),(10,.x (.one (.p (pi y11))))],mkH [(109,.var [.p (pi y10.Num),.p (pi y10.Den)])]⟩) (by kernel_rfl) (by kernel_rfl) (by kernel_rfl) rfl rfl rfl ?_
  replace H0:=req_some H0
  obtain ⟨q_7,H0⟩:=H0
  refine lok_dt (Env.of E0 [⟨some 79,17,[.one (.p (pi (50:Int)))],[],[.agg [.p (pi (((law36_whole (50:Int)).getD default).Num)),.p (pi (((law36_whole (50:Int)).getD default).Den))]],[],(law36_whole (50:Int)).isSome = true,fun h => ok_law36_whole (50:Int) _ (isSome_get h),[]⟩]) 29 (⟨82,mkS [(0,.x (.one (.p (.val (.bool ((((((((y3 == (0:Int)) && (y8 == (0:Int))) && (y11 == (0:Int))) && (y2 == (62:Int))) && (y5 == (0:Int))) && (y6 == (1:Int))) && (y7 == (50:Int))) && ((y10.Num == ((law36_whole (50:Int)).getD default).Num) && (y10.Den == ((law36_whole (50:Int)).getD default).Den))))))))],mkH []⟩) (by kernel_rfl) (by kernel_rfl) ?_
  refine lok_ret ?_
  obtain rfl:=Option.some.inj H0
  try simp only [thenL,blockL]
  exact fin_au _ (.inr rfl) [] (⟨82,mkS [(0,.x (.one (.p (.val (.bool ((((((((y3 == (0:Int)) && (y8 == (0:Int))) && (y11 == (0:Int))) && (y2 == (62:Int))) && (y5 == (0:Int))) && (y6 == (1:Int))) && (y7 == (50:Int))) && ((y10.Num == ((law36_whole (50:Int)).getD default).Num) && (y10.Den == ((law36_whole (50:Int)).getD default).Den))))))))],mkH []⟩) rfl rfl imp_au
theorem ok_mark_Roll (l : List Int) (r_ : mark_Dice) (H0 : mark_Roll l = some r_) : CallOK Try.prog 12 [.one (.p (.sl 1 (List.map encI l)))] [] [.one (.ptr 0 0)] [some (.var [.p (.sl 1 (List.map encI r_.L)),.p (pi r_.At)])]:=by
  refine callOK (n:=6) (rs:=[.tmp 2]) (nb:=0) (V:=[]) Try.func12 rfl (by kernel_rfl) rfl rfl rfl rfl (Nat.le_of_ble_eq_true rfl) (by decide) ?_
  unfold mark_Roll at H0
  refine lok_rt E0 (⟨6,mkS [(0,.x (.one (.p (.sl 1 (List.map encI l)))))],mkH []⟩) ?_
  refine lok_rt E0 (⟨6,mkS [(2,.x (.one (.ptr 105 0)))],mkH [(105,.var [.p (.sl 1 (List.map encI l)),.p (pi (0:Int))])]⟩) ?_
  refine lok_ret ?_
  obtain rfl:=Option.some.inj H0
  try simp only [thenL,blockL]
  exact fin_nu [105] _ (.inr rfl) [105] (⟨6,mkS [(2,.x (.one (.ptr 105 0)))],mkH [(105,.var [.p (.sl 1 (List.map encI l)),.p (pi (0:Int))])]⟩) rfl rfl imp_au
theorem ok_mark_Dice_Next (d : mark_Dice) (n:Int) (r_ : Int × mark_Dice) (H0 : mark_Dice_Next d n = some r_) : CallOK Try.prog 14 [.one (.ptr 0 0),.one (.p (pi n))] [.var [.p (.sl 1 (List.map encI d.L)),.p (pi d.At)]] [.one (.p (pi r_.1))] [some (.var [.p (.sl 1 (List.map encI r_.2.L)),.p (pi r_.2.At)])]:=by
  refine callOK (n:=45) (rs:=[.tmp 4]) (nb:=1) (V:=[0]) Try.func14 rfl (by kernel_rfl) rfl rfl rfl rfl (Nat.le_of_ble_eq_true rfl) (by decide) ?_
  unfold mark_Dice_Next at H0
  refine lok_rt E0 (⟨45,mkS [(0,.x (.one (.ptr 0 0))),(1,.x (.one (.p (pi n))))],mkH [(0,.var [.p (.sl 1 (List.map encI d.L)),.p (pi d.At)])]⟩) ?_
  refine lok_seq ?_
  refine lok_dt E0 9 (⟨45,mkS [(0,.x (.one (.ptr 0 0))),(1,.x (.one (.p (pi n)))),(19,.x (.one (.p (.val (.bool ((decide ((d.L.length:Int) ≤ d.At)) || (decide (n < (1:Int)))))))))],mkH [(0,.var [.p (.sl 1 (List.map encI d.L)),.p (pi d.At)])]⟩) (by kernel_rfl) (by kernel_rfl) ?_
  refine lok_c ((decide ((d.L.length:Int) ≤ d.At)) || (decide (n < (1:Int)))) ?_ ?_
  · intro b_3
    replace H0:=cpos H0 b_3
    refine lok_rt E0 (⟨45,mkS [(4,.x (.one (.p (pi (0:Int)))))],mkH [(0,.var [.p (.sl 1 (List.map encI d.L)),.p (pi d.At)])]⟩) ?_
    refine lok_ret ?_
    obtain rfl:=Option.some.inj H0
    try simp only [thenL,blockL]
    exact fin_au _ (.inr rfl) [0] (⟨45,mkS [(4,.x (.one (.p (pi (0:Int)))))],mkH [(0,.var [.p (.sl 1 (List.map encI d.L)),.p (pi d.At)])]⟩) rfl rfl imp_au
  · intro b_3
    replace H0:=cneg H0 b_3
    refine lok_skip ?_
    try simp only [thenL,blockL,↓reduceIte,reduceCtorEq]
    replace H0:=req_some H0
    obtain ⟨⟨q_1,q_2⟩,H0⟩:=H0
    refine lok_dt E0 11 (⟨45,mkS [(0,.x (.one (.ptr 0 0))),(1,.x (.one (.p (pi n)))),(5,.x (.one (.p (pi (Int.tmod (ix d.L d.At) n)))))],mkH [(0,.var [.p (.sl 1 (List.map encI d.L)),.p (pi d.At)])]⟩) (by kernel_rfl) (by kernel_rfl) ?_
    refine lok_rt E0 (⟨45,mkS [(1,.x (.one (.p (pi n)))),(5,.x (.one (.p (pi (Int.tmod (ix d.L d.At) n)))))],mkH [(0,.var [.p (.sl 1 (List.map encI d.L)),.p (pi (IntKind.i64.wrap (d.At + (1:Int))))])]⟩) ?_
    refine lok_join (fun x_ : Int => mark_Dice_Next_j1 d x_ = some r_) (fun x_ => ⟨45,mkS [(5,.x (.one (.p (pi x_))))],mkH [(0,.var [.p (.sl 1 (List.map encI d.L)),.p (pi (IntKind.i64.wrap (d.At + (1:Int))))])]⟩) ?hymark_Dice_Next_j1 ?hxmark_Dice_Next_j1
    case hymark_Dice_Next_j1 =>
      rintro x H0
      try dsimp only at H0 ⊢
      unfold mark_Dice_Next_j1 at H0
      refine lok_rt E0 (⟨45,mkS [(4,.x (.one (.p (pi x))))],mkH [(0,.var [.p (.sl 1 (List.map encI d.L)),.p (pi (IntKind.i64.wrap (d.At + (1:Int))))])]⟩) ?_
      refine lok_ret ?_
      obtain rfl:=Option.some.inj H0
      try simp only [thenL,blockL]
      exact fin_au _ (.inr rfl) [0] (⟨45,mkS [(4,.x (.one (.p (pi x))))],mkH [(0,.var [.p (.sl 1 (List.map encI d.L)),.p (pi (IntKind.i64.wrap (d.At + (1:Int))))])]⟩) rfl rfl imp_au
    case hxmark_Dice_Next_j1 =>
      refine lok_rt E0 (⟨45,mkS [(1,.x (.one (.p (pi n)))),(5,.x (.one (.p (pi (Int.tmod (ix d.L d.At) n))))),(40,.x (.one (.p (.val (.bool (decide ((Int.tmod (ix d.L d.At) n) < (0:Int))))))))],mkH [(0,.var [.p (.sl 1 (List.map encI d.L)),.p (pi (IntKind.i64.wrap (d.At + (1:Int))))])]⟩) ?_
      refine lok_c (decide ((Int.tmod (ix d.L d.At) n) < (0:Int))) ?_ ?_
      · intro b_0
        replace H0:=cpos H0 b_0
        refine lok_rl E0 (⟨45,mkS [(5,.x (.one (.p (pi (IntKind.i64.wrap ((Int.tmod (ix d.L d.At) n) + n))))))],mkH [(0,.var [.p (.sl 1 (List.map encI d.L)),.p (pi (IntKind.i64.wrap (d.At + (1:Int))))])]⟩) ?_
        try simp only [thenL,blockL,↓reduceIte,reduceCtorEq]
        exact ⟨(IntKind.i64.wrap ((Int.tmod (ix d.L d.At) n) + n)),H0,imp_au⟩
      · intro b_0
        replace H0:=cneg H0 b_0
        refine lok_skip ?_
        try simp only [thenL,blockL,↓reduceIte,reduceCtorEq]
        exact ⟨(Int.tmod (ix d.L d.At) n),H0,imp_au⟩
theorem ok_mark_Dice_Pick (d : mark_Dice) (l : List Int) (r_ : Int × mark_Dice) (H0 : mark_Dice_Pick d l = some r_) : CallOK Try.prog 16 [.one (.ptr 0 0),.one (.p (.sl 1 (List.map encI l)))] [.var [.p (.sl 1 (List.map encI d.L)),.p (pi d.At)]] [.one (.p (pi r_.1))] [some (.var [.p (.sl 1 (List.map encI r_.2.L)),.p (pi r_.2.At)])]:=by
  refine callOK (n:=12) (rs:=[.tmp 4]) (nb:=1) (V:=[0]) Try.func16 rfl (by kernel_rfl) rfl rfl rfl rfl (Nat.le_of_ble_eq_true rfl) (by decide) ?_
  unfold mark_Dice_Pick at H0
  refine lok_rt E0 (⟨12,mkS [(0,.x (.one (.ptr 0 0))),(1,.x (.one (.p (.sl 1 (List.map encI l)))))],mkH [(0,.var [.p (.sl 1 (List.map encI d.L)),.p (pi d.At)])]⟩) ?_
  replace H0:=bind_some H0
  obtain ⟨⟨y,y1⟩,h_0,H0⟩:=H0
  try dsimp only at H0
  replace H0:=req_some H0
  obtain ⟨q_1,H0⟩:=H0
  refine lok_rt (Env.of E0 [⟨some 9,14,[.one (.ptr 0 0),.one (.p (pi (l.length:Int)))],[.var [.p (.sl 1 (List.map encI d.L)),.p (pi d.At)]],[.one (.p (pi y))],[some (.var [.p (.sl 1 (List.map encI y1.L)),.p (pi y1.At)])],True,fun _ => ok_mark_Dice_Next d (l.length:Int) (y,y1) h_0,[]⟩]) (⟨12,mkS [(4,.x (.one (.p (pi (ix l y)))))],mkH [(0,.var [.p (.sl 1 (List.map encI y1.L)),.p (pi y1.At)])]⟩) ?_
  refine lok_ret ?_
  obtain rfl:=Option.some.inj H0
  try simp only [thenL,blockL]
  exact fin_au _ (.inr rfl) [0] (⟨12,mkS [(4,.x (.one (.p (pi (ix l y)))))],mkH [(0,.var [.p (.sl 1 (List.map encI y1.L)),.p (pi y1.At)])]⟩) rfl rfl imp_au
theorem ok_mark_Dice_Bounds (d : mark_Dice) (most:Int) (r_ : (List Int) × mark_Dice) (H0 : mark_Dice_Bounds d most = some r_) : CallOK Try.prog 36 [.one (.ptr 0 0),.one (.p (pi most))] [.var [.p (.sl 1 (List.map encI d.L)),.p (pi d.At)]] [.one (.p (.sl 1 (List.map encI r_.1)))] [some (.var [.p (.sl 1 (List.map encI r_.2.L)),.p (pi r_.2.At)])]:=by
  refine callOK (n:=29) (rs:=[.tmp 4]) (nb:=1) (V:=[0]) Try.func36 rfl (by kernel_rfl) rfl rfl rfl rfl (Nat.le_of_ble_eq_true rfl) (by decide) ?_
  unfold mark_Dice_Bounds at H0
  refine lok_rt E0 (⟨29,mkS [(0,.x (.one (.ptr 0 0))),(1,.x (.one (.p (pi most))))],mkH [(0,.var [.p (.sl 1 (List.map encI d.L)),.p (pi d.At)])]⟩) ?_
  refine lok_rt E0 (⟨29,mkS [(0,.x (.one (.ptr 0 0))),(1,.x (.one (.p (pi most)))),(5,.x (.one (.vw 105)))],mkH [(0,.var [.p (.sl 1 (List.map encI d.L)),.p (pi d.At)]),(105,.arr 1 (List.map encI ([] : List Int)))]⟩) ?_
  refine lok_rt E0 (⟨29,mkS [(0,.x (.one (.ptr 0 0))),(5,.x (.one (.vw 105))),(6,.x (.one (.p (pi (IntKind.i64.wrap (most + (1:Int)))))))],mkH [(0,.var [.p (.sl 1 (List.map encI d.L)),.p (pi d.At)]),(105,.arr 1 (List.map encI ([] : List Int)))]⟩) ?_
  refine lok_join (fun x_ : (List Int) × Int × (List Int) => mark_Dice_Bounds_j1 x_.1 x_.2.1 x_.2.2 = some r_) (fun x_ => ⟨29,mkS [(5,.x (.one (.vw 105)))],mkH [(0,.var [.p (.sl 1 (List.map encI x_.1)),.p (pi x_.2.1)]),(105,.arr 1 (List.map encI x_.2.2))]⟩) ?hymark_Dice_Bounds_j1 ?hxmark_Dice_Bounds_j1
  case hymark_Dice_Bounds_j1 =>
    rintro ⟨d1,d2,out⟩ H0
    try dsimp only at H0 ⊢
    unfold mark_Dice_Bounds_j1 at H0
    refine lok_rt E0 (⟨29,mkS [(4,.x (.one (.vw 105)))],mkH [(0,.var [.p (.sl 1 (List.map encI d1)),.p (pi d2)]),(105,.arr 1 (List.map encI out))]⟩) ?_
    refine lok_ret ?_
    obtain rfl:=Option.some.inj H0
    try simp only [thenL,blockL]
    exact fin_au _ (.inr rfl) [0] (⟨29,mkS [(4,.x (.one (.p (.sl 1 (List.map encI out)))))],mkH [(0,.var [.p (.sl 1 (List.map encI d1)),.p (pi d2)])]⟩) rfl rfl (Imp.trans (imp_frz 105 1 (List.map encI out)) imp_au)
  case hxmark_Dice_Bounds_j1 =>
    replace H0:=bind_some H0
    obtain ⟨⟨y,y1⟩,h_0,H0⟩:=H0
    try dsimp only at H0
    refine lok_rt (Env.of E0 [⟨some 11,14,[.one (.ptr 0 0),.one (.p (pi (4:Int)))],[.var [.p (.sl 1 (List.map encI d.L)),.p (pi d.At)]],[.one (.p (pi y))],[some (.var [.p (.sl 1 (List.map encI y1.L)),.p (pi y1.At)])],True,fun _ => ok_mark_Dice_Next d (4:Int) (y,y1) h_0,[]⟩]) (⟨29,mkS [(0,.x (.one (.ptr 0 0))),(5,.x (.one (.vw 105))),(6,.x (.one (.p (pi (IntKind.i64.wrap (most + (1:Int))))))),(7,.x (.one (.p (pi (IntKind.i64.wrap ((1:Int) + y))))))],mkH [(0,.var [.p (.sl 1 (List.map encI y1.L)),.p (pi y1.At)]),(105,.arr 1 (List.map encI ([] : List Int)))]⟩) ?_
    refine lok_block ?_
    replace H0:=bind_some H0
    obtain ⟨v_1,hv_1,H0⟩:=H0
    refine lok_iter (fun x_ => ⟨29,mkS [(0,.x (.one (.ptr 0 0))),(5,.x (.one (.vw 105))),(6,.x (.one (.p (pi x_.1)))),(7,.x (.one (.p (pi x_.2.1))))],mkH [(0,.var [.p (.sl 1 (List.map encI x_.2.2.1)),.p (pi x_.2.2.2.1)]),(105,.arr 1 (List.map encI x_.2.2.2.2))]⟩) hv_1 imp_au ?_
    · rintro ⟨b,i,d3,d4,out1⟩ o_1 H1 k_1
      unfold mark_Dice_Bounds_l2 at H1
      try dsimp only at H1 ⊢
      refine lok_seq ?_
      refine lok_rt E0 (⟨29,mkS [(0,.x (.one (.ptr 0 0))),(5,.x (.one (.vw 105))),(6,.x (.one (.p (pi b)))),(7,.x (.one (.p (pi i)))),(14,.x (.one (.p (.val (.bool (decide ((0:Int) < i)))))))],mkH [(0,.var [.p (.sl 1 (List.map encI d3)),.p (pi d4)]),(105,.arr 1 (List.map encI out1))]⟩) ?_
      refine lok_c (decide ((0:Int) < i)) ?_ ?_
      · intro b_4
        replace H1:=cpos H1 b_4
        refine lok_skip ?_
        try simp only [thenL,blockL,↓reduceIte,reduceCtorEq]
        refine lok_seq ?_
        refine lok_block ?_
        replace H1:=bind_some H1
        obtain ⟨⟨y2,y3⟩,h_2,H1⟩:=H1
        try dsimp only at H1
        refine lok_rt (Env.of E0 [⟨some 22,14,[.one (.ptr 0 0),.one (.p (pi (IntKind.i64.wrap ((IntKind.i64.wrap (Int.tdiv b (2:Int))) + (1:Int)))))],[.var [.p (.sl 1 (List.map encI d3)),.p (pi d4)]],[.one (.p (pi y2))],[some (.var [.p (.sl 1 (List.map encI y3.L)),.p (pi y3.At)])],True,fun _ => ok_mark_Dice_Next (mark_Dice.mk d3 d4) (IntKind.i64.wrap ((IntKind.i64.wrap (Int.tdiv b (2:Int))) + (1:Int))) (y2,y3) h_2,[]⟩]) (⟨29,mkS [(0,.x (.one (.ptr 0 0))),(5,.x (.one (.vw 105))),(6,.x (.one (.p (pi (IntKind.i64.wrap (b - y2)))))),(7,.x (.one (.p (pi i))))],mkH [(0,.var [.p (.sl 1 (List.map encI y3.L)),.p (pi y3.At)]),(105,.arr 1 (List.map encI out1))]⟩) ?_
        replace H1:=req_some H1
        obtain ⟨q_3,H1⟩:=H1
        refine lok_rl E0 (⟨29,mkS [(0,.x (.one (.ptr 0 0))),(5,.x (.one (.vw 105))),(6,.x (.one (.p (pi (IntKind.i64.wrap (b - y2)))))),(7,.x (.one (.p (pi i))))],mkH [(0,.var [.p (.sl 1 (List.map encI y3.L)),.p (pi y3.At)]),(105,.arr 1 (List.map encI (out1 ++ [(IntKind.i64.wrap (b - y2))])))]⟩) ?_
        try simp only [thenL,blockL,↓reduceIte,reduceCtorEq]
        refine lok_rl E0 (⟨29,mkS [(0,.x (.one (.ptr 0 0))),(5,.x (.one (.vw 105))),(6,.x (.one (.p (pi (IntKind.i64.wrap (b - y2)))))),(7,.x (.one (.p (pi (IntKind.i64.wrap (i - (1:Int)))))))],mkH [(0,.var [.p (.sl 1 (List.map encI y3.L)),.p (pi y3.At)]),(105,.arr 1 (List.map encI (out1 ++ [(IntKind.i64.wrap (b - y2))])))]⟩) ?_
        try simp only [thenL,blockL,↓reduceIte,reduceCtorEq]
        exact ⟨((IntKind.i64.wrap (b - y2)),(IntKind.i64.wrap (i - (1:Int))),y3.L,y3.At,(out1 ++ [(IntKind.i64.wrap (b - y2))])),(Option.some.inj H1).symm,imp_au⟩
      · intro b_4
        replace H1:=cneg H1 b_4
        refine lok_exit ?_
        try simp only [thenL,blockL,↓reduceIte,reduceCtorEq]
        have e_1:=k_1 _ (Option.some.inj H1).symm
        subst e_1
        try dsimp only at H0
        try simp only [thenL,blockL,↓reduceIte,reduceCtorEq]
        exact ⟨(d3,d4,out1),H0,imp_au⟩
theorem ok_mark_Dice_Award (d : mark_Dice) (n:Int) (r_ : api_Award × mark_Dice) (H0 : mark_Dice_Award d n = some r_) : CallOK Try.prog 13 [.one (.ptr 0 0),.one (.p (pi n))] [.var [.p (.sl 1 (List.map encI d.L)),.p (pi d.At)]] [.agg [.p (.sl 3 (List.map enc_api_Unit r_.1.Units)),.p (.sl 1 (List.map encI r_.1.Bounds)),.p (pi r_.1.Max)]] [some (.var [.p (.sl 1 (List.map encI r_.2.L)),.p (pi r_.2.At)])]:=by
  refine callOK (n:=35) (rs:=[.cell 4 25]) (nb:=1) (V:=[0]) Try.func13 rfl (by kernel_rfl) rfl rfl rfl rfl (Nat.le_of_ble_eq_true rfl) (by decide) ?_
  unfold mark_Dice_Award at H0
  refine lok_rt E0 (⟨35,mkS [(0,.x (.one (.ptr 0 0))),(1,.x (.one (.p (pi n)))),(4,.x (.one (.ptr 104 0)))],mkH [(0,.var [.p (.sl 1 (List.map encI d.L)),.p (pi d.At)]),(104,.var [.p .nil,.p .nil,.p (pi (0:Int))])]⟩) ?_
  replace H0:=bind_some H0
  obtain ⟨⟨y,y1⟩,h_0,H0⟩:=H0
  try dsimp only at H0
  refine lok_rt (Env.of E0 [⟨some 9,16,[.one (.ptr 0 0),.one (.p (.sl 1 (List.map encI ([(100:Int),(20:Int),(60:Int)]))))],[.var [.p (.sl 1 (List.map encI d.L)),.p (pi d.At)]],[.one (.p (pi y))],[some (.var [.p (.sl 1 (List.map encI y1.L)),.p (pi y1.At)])],True,fun _ => ok_mark_Dice_Pick d ([(100:Int),(20:Int),(60:Int)]) (y,y1) h_0,[]⟩]) (⟨35,mkS [(0,.x (.one (.ptr 0 0))),(1,.x (.one (.p (pi n)))),(4,.x (.one (.ptr 104 0))),(5,.x (.one (.ptr 105 0)))],mkH [(0,.var [.p (.sl 1 (List.map encI y1.L)),.p (pi y1.At)]),(104,.var [.p .nil,.p .nil,.p (pi (0:Int))]),(105,.var [.p .nil,.p .nil,.p (pi y)])]⟩) ?_
  refine lok_join (fun x_ : (List Int) × Int × (List api_Unit) => mark_Dice_Award_j1 y x_.1 x_.2.1 x_.2.2 = some r_) (fun x_ => ⟨35,mkS [(0,.x (.one (.ptr 0 0))),(4,.x (.one (.ptr 104 0))),(5,.x (.one (.ptr 105 0)))],mkH [(0,.var [.p (.sl 1 (List.map encI x_.1)),.p (pi x_.2.1)]),(104,.var [.p .nil,.p .nil,.p (pi (0:Int))]),(105,.var [.vw 127,.p .nil,.p (pi y)]),(127,.arr 3 (List.map enc_api_Unit x_.2.2))]⟩) ?hymark_Dice_Award_j1 ?hxmark_Dice_Award_j1
  case hymark_Dice_Award_j1 =>
    rintro ⟨d1,d2,w⟩ H0
    try dsimp only at H0 ⊢
    unfold mark_Dice_Award_j1 at H0
    replace H0:=bind_some H0
    obtain ⟨⟨y2,y3⟩,h_1,H0⟩:=H0
    try dsimp only at H0
    refine lok_rt (Env.of E0 [⟨some 32,36,[.one (.ptr 0 0),.one (.p (pi y))],[.var [.p (.sl 1 (List.map encI d1)),.p (pi d2)]],[.one (.p (.sl 1 (List.map encI y2)))],[some (.var [.p (.sl 1 (List.map encI y3.L)),.p (pi y3.At)])],True,fun _ => ok_mark_Dice_Bounds (mark_Dice.mk d1 d2) y (y2,y3) h_1,[]⟩]) (⟨35,mkS [(4,.x (.one (.ptr 104 0))),(5,.x (.one (.ptr 105 0)))],mkH [(0,.var [.p (.sl 1 (List.map encI y3.L)),.p (pi y3.At)]),(104,.var [.p .nil,.p .nil,.p (pi (0:Int))]),(105,.var [.vw 127,.p (.sl 1 (List.map encI y2)),.p (pi y)]),(127,.arr 3 (List.map enc_api_Unit w))]⟩) ?_
    refine lok_rt E0 (⟨35,mkS [(4,.x (.one (.ptr 104 0)))],mkH [(0,.var [.p (.sl 1 (List.map encI y3.L)),.p (pi y3.At)]),(104,.var [.vw 127,.p (.sl 1 (List.map encI y2)),.p (pi y)]),(127,.arr 3 (List.map enc_api_Unit w))]⟩) ?_
    refine lok_ret ?_
    obtain rfl:=Option.some.inj H0
    try simp only [thenL,blockL]
    exact fin_au _ (.inr rfl) [0] (⟨35,mkS [(4,.x (.one (.ptr 104 0)))],mkH [(0,.var [.p (.sl 1 (List.map encI y3.L)),.p (pi y3.At)]),(104,.var [.p (.sl 3 (List.map enc_api_Unit w)),.p (.sl 1 (List.map encI y2)),.p (pi y)])]⟩) rfl rfl (Imp.trans (imp_frz 127 3 (List.map enc_api_Unit w)) imp_au)
  case hxmark_Dice_Award_j1 =>
    refine lok_rt E0 (⟨35,mkS [(0,.x (.one (.ptr 0 0))),(1,.x (.one (.p (pi n)))),(4,.x (.one (.ptr 104 0))),(5,.x (.one (.ptr 105 0))),(6,.x (.one (.p (pi (0:Int)))))],mkH [(0,.var [.p (.sl 1 (List.map encI y1.L)),.p (pi y1.At)]),(104,.var [.p .nil,.p .nil,.p (pi (0:Int))]),(105,.var [.p .nil,.p .nil,.p (pi y)])]⟩) ?_
    refine lok_block ?_
    replace H0:=bind_some H0
    obtain ⟨v_2,hv_2,H0⟩:=H0
    refine lok_iter (fun x_ => ⟨35,mkS [(0,.x (.one (.ptr 0 0))),(1,.x (.one (.p (pi n)))),(4,.x (.one (.ptr 104 0))),(5,.x (.one (.ptr 105 0))),(6,.x (.one (.p (pi x_.1))))],mkH [(0,.var [.p (.sl 1 (List.map encI x_.2.1)),.p (pi x_.2.2.1)]),(104,.var [.p .nil,.p .nil,.p (pi (0:Int))]),(105,.var [.vw 127,.p .nil,.p (pi y)]),(127,.arr 3 (List.map enc_api_Unit x_.2.2.2))]⟩) hv_2 imp_au ?_
    · rintro ⟨i,d3,d4,w1⟩ o_1 H1 k_1
      unfold mark_Dice_Award_l2 at H1
      try dsimp only at H1 ⊢
      refine lok_seq ?_
      refine lok_rt E0 (⟨35,mkS [(0,.x (.one (.ptr 0 0))),(1,.x (.one (.p (pi n)))),(4,.x (.one (.ptr 104 0))),(5,.x (.one (.ptr 105 0))),(6,.x (.one (.p (pi i)))),(13,.x (.one (.p (.val (.bool (decide (i < n)))))))],mkH [(0,.var [.p (.sl 1 (List.map encI d3)),.p (pi d4)]),(104,.var [.p .nil,.p .nil,.p (pi (0:Int))]),(105,.var [.vw 127,.p .nil,.p (pi y)]),(127,.arr 3 (List.map enc_api_Unit w1))]⟩) ?_
      refine lok_c (decide (i < n)) ?_ ?_
      · intro b_6
        replace H1:=cpos H1 b_6
        refine lok_skip ?_
        try simp only [thenL,blockL,↓reduceIte,reduceCtorEq]
        refine lok_seq ?_
        refine lok_block ?_
        replace H1:=bind_some H1
        obtain ⟨⟨y4,y5⟩,h_3,H1⟩:=H1
        try dsimp only at H1
        replace H1:=bind_some H1
        obtain ⟨⟨y6,y7⟩,h_4,H1⟩:=H1
        try dsimp only at H1
        replace H1:=req_some H1
        obtain ⟨q_5,H1⟩:=H1
        refine lok_el (Env.of E0 [⟨some 21,16,[.one (.ptr 0 0),.one (.p (.sl 1 (List.map encI ([(1:Int),(2:Int),(60:Int),(40:Int)]))))],[.var [.p (.sl 1 (List.map encI d3)),.p (pi d4)]],[.one (.p (pi y4))],[some (.var [.p (.sl 1 (List.map encI y5.L)),.p (pi y5.At)])],True,fun _ => ok_mark_Dice_Pick (mark_Dice.mk d3 d4) ([(1:Int),(2:Int),(60:Int),(40:Int)]) (y4,y5) h_3,[]⟩,
      ⟨some 24,16,[.one (.ptr 0 0),.one (.p (.sl 1 (List.map encI ([(10:Int),(12:Int),(50:Int)]))))],[.var [.p (.sl 1 (List.map encI y5.L)),.p (pi y5.At)]],[.one (.p (pi y6))],[some (.var [.p (.sl 1 (List.map encI y7.L)),.p (pi y7.At)])],True,fun _ => ok_mark_Dice_Pick y5 ([(10:Int),(12:Int),(50:Int)]) (y6,y7) h_4,[]⟩]) 35 [⟨[(5,.x (.one (.ptr 105 0)))],[],[(16,.x (.one (.ptr 105 0)))],[],none⟩,
      ⟨[(16,.x (.one (.ptr 105 0)))],[(105,some (.var [.vw 127,.p .nil,.p (pi y)]))],[(17,.x (.one (.vw 127)))],[],none⟩,
      ⟨[(6,.x (.one (.p (pi i))))],[],[(18,.x (.one (.p (pi i))))],[],none⟩,
      ⟨[(0,.x (.one (.ptr 0 0)))],[],[(19,.x (.one (.ptr 0 0)))],[],none⟩,
      ⟨[],[],[(20,.x (.one (.fl 1 (List.map encI ([(1:Int),(2:Int),(60:Int),(40:Int)])))))],[],none⟩,
      ⟨[(19,.x (.one (.ptr 0 0))),(20,.x (.one (.fl 1 (List.map encI ([(1:Int),(2:Int),(60:Int),(40:Int)])))))],[(0,some (.var [.p (.sl 1 (List.map encI d3)),.p (pi d4)]))],[(21,.x (.one (.p (pi y4))))],[(0,some (.var [.p (.sl 1 (List.map encI y5.L)),.p (pi y5.At)]))],none⟩,
      ⟨[(0,.x (.one (.ptr 0 0)))],[],[(22,.x (.one (.ptr 0 0)))],[],none⟩,
      ⟨[],[],[(23,.x (.one (.fl 1 (List.map encI ([(10:Int),(12:Int),(50:Int)])))))],[],none⟩,
      ⟨[(22,.x (.one (.ptr 0 0))),(23,.x (.one (.fl 1 (List.map encI ([(10:Int),(12:Int),(50:Int)])))))],[(0,some (.var [.p (.sl 1 (List.map encI y5.L)),.p (pi y5.At)]))],[(24,.x (.one (.p (pi y6))))],[(0,some (.var [.p (.sl 1 (List.map encI y7.L)),.p (pi y7.At)]))],none⟩,
      ⟨[(18,.x (.one (.p (pi i)))),(21,.x (.one (.p (pi y4)))),(24,.x (.one (.p (pi y6))))],[],[(25,.x (.agg [.p (pi i),.p (pi y4),.p (pi y6)]))],[],none⟩,
      ⟨[(25,.x (.agg [.p (pi i),.p (pi y4),.p (pi y6)]))],[],[(26,.x (.one (.fl 3 (List.map enc_api_Unit ([(api_Unit.mk i y4 y6)])))))],[],none⟩] (⟨35,mkS [(0,.x (.one (.ptr 0 0))),(1,.x (.one (.p (pi n)))),(4,.x (.one (.ptr 104 0))),(5,.x (.one (.ptr 105 0))),(6,.x (.one (.p (pi i))))],mkH [(0,.var [.p (.sl 1 (List.map encI y7.L)),.p (pi y7.At)]),(104,.var [.p .nil,.p .nil,.p (pi (0:Int))]),(105,.var [.vw 127,.p .nil,.p (pi y)]),(127,.arr 3 (List.map enc_api_Unit (w1 ++ [(api_Unit.mk i y4 y6)])))]⟩) (by kernel_rfl) (by kernel_rfl) (by kernel_rfl) rfl rfl rfl ?_
        try simp only [thenL,blockL,↓reduceIte,reduceCtorEq]
        refine lok_rl E0 (⟨35,mkS [(0,.x (.one (.ptr 0 0))),(1,.x (.one (.p (pi n)))),(4,.x (.one (.ptr 104 0))),(5,.x (.one (.ptr 105 0))),(6,.x (.one (.p (pi (IntKind.i64.wrap (i + (1:Int)))))))],mkH [(0,.var [.p (.sl 1 (List.map encI y7.L)),.p (pi y7.At)]),(104,.var [.p .nil,.p .nil,.p (pi (0:Int))]),(105,.var [.vw 127,.p .nil,.p (pi y)]),(127,.arr 3 (List.map enc_api_Unit (w1 ++ [(api_Unit.mk i y4 y6)])))]⟩) ?_
        try simp only [thenL,blockL,↓reduceIte,reduceCtorEq]
        exact ⟨((IntKind.i64.wrap (i + (1:Int))),y7.L,y7.At,(w1 ++ [(api_Unit.mk i y4 y6)])),(Option.some.inj H1).symm,imp_au⟩
      · intro b_6
        replace H1:=cneg H1 b_6
        refine lok_exit ?_
        try simp only [thenL,blockL,↓reduceIte,reduceCtorEq]
        have e_1:=k_1 _ (Option.some.inj H1).symm
        subst e_1
        try dsimp only at H0
        try simp only [thenL,blockL,↓reduceIte,reduceCtorEq]
        exact ⟨(d3,d4,w1),H0,imp_au⟩
theorem ok_mark_Dice_Bool (d : mark_Dice) (n:Int) (r_ : Bool × mark_Dice) (H0 : mark_Dice_Bool d n = some r_) : CallOK Try.prog 35 [.one (.ptr 0 0),.one (.p (pi n))] [.var [.p (.sl 1 (List.map encI d.L)),.p (pi d.At)]] [.one (.p (.val (.bool r_.1)))] [some (.var [.p (.sl 1 (List.map encI r_.2.L)),.p (pi r_.2.At)])]:=by
  refine callOK (n:=11) (rs:=[.tmp 4]) (nb:=1) (V:=[0]) Try.func35 rfl (by kernel_rfl) rfl rfl rfl rfl (Nat.le_of_ble_eq_true rfl) (by decide) ?_
  unfold mark_Dice_Bool at H0
  refine lok_rt E0 (⟨11,mkS [(0,.x (.one (.ptr 0 0))),(1,.x (.one (.p (pi n))))],mkH [(0,.var [.p (.sl 1 (List.map encI d.L)),.p (pi d.At)])]⟩) ?_
  replace H0:=bind_some H0
  obtain ⟨⟨y,y1⟩,h_0,H0⟩:=H0
  try dsimp only at H0
  refine lok_rt (Env.of E0 [⟨some 7,14,[.one (.ptr 0 0),.one (.p (pi n))],[.var [.p (.sl 1 (List.map encI d.L)),.p (pi d.At)]],[.one (.p (pi y))],[some (.var [.p (.sl 1 (List.map encI y1.L)),.p (pi y1.At)])],True,fun _ => ok_mark_Dice_Next d n (y,y1) h_0,[]⟩]) (⟨11,mkS [(4,.x (.one (.p (.val (.bool (y == (IntKind.i64.wrap (n - (1:Int)))))))))],mkH [(0,.var [.p (.sl 1 (List.map encI y1.L)),.p (pi y1.At)])]⟩) ?_
  refine lok_ret ?_
  obtain rfl:=Option.some.inj H0
  try simp only [thenL,blockL]
  exact fin_au _ (.inr rfl) [0] (⟨11,mkS [(4,.x (.one (.p (.val (.bool (y == (IntKind.i64.wrap (n - (1:Int)))))))))],mkH [(0,.var [.p (.sl 1 (List.map encI y1.L)),.p (pi y1.At)])]⟩) rfl rfl imp_au
theorem ok_mark_Dice_Marks (d : mark_Dice) (a : api_Award) (r_ : (List api_UnitMark) × mark_Dice) (H0 : mark_Dice_Marks d a = some r_) : CallOK Try.prog 15 [.one (.ptr 0 0),.agg [.p (.sl 3 (List.map enc_api_Unit a.Units)),.p (.sl 1 (List.map encI a.Bounds)),.p (pi a.Max)]] [.var [.p (.sl 1 (List.map encI d.L)),.p (pi d.At)]] [.one (.p (.sl 3 (List.map enc_api_UnitMark r_.1)))] [some (.var [.p (.sl 1 (List.map encI r_.2.L)),.p (pi r_.2.At)])]:=by
  refine callOK (n:=63) (rs:=[.tmp 4]) (nb:=1) (V:=[0]) Try.func15 rfl (by kernel_rfl) rfl rfl rfl rfl (Nat.le_of_ble_eq_true rfl) (by decide) ?_
  unfold mark_Dice_Marks at H0
  refine lok_rt E0 (⟨63,mkS [(0,.x (.one (.ptr 0 0))),(3,.x (.one (.ptr 103 0)))],mkH [(0,.var [.p (.sl 1 (List.map encI d.L)),.p (pi d.At)]),(103,.var [.p (.sl 3 (List.map enc_api_Unit a.Units)),.p (.sl 1 (List.map encI a.Bounds)),.p (pi a.Max)])]⟩) ?_
  refine lok_rt E0 (⟨63,mkS [(0,.x (.one (.ptr 0 0))),(3,.x (.one (.ptr 103 0))),(5,.x (.one (.vw 105)))],mkH [(0,.var [.p (.sl 1 (List.map encI d.L)),.p (pi d.At)]),(103,.var [.p (.sl 3 (List.map enc_api_Unit a.Units)),.p (.sl 1 (List.map encI a.Bounds)),.p (pi a.Max)]),(105,.arr 3 (List.map enc_api_UnitMark ([] : List api_UnitMark)))]⟩) ?_
  refine lok_join (fun x_ : (List Int) × Int × (List api_UnitMark) => mark_Dice_Marks_j1 x_.1 x_.2.1 x_.2.2 = some r_) (fun x_ => ⟨63,mkS [(5,.x (.one (.vw 105)))],mkH [(0,.var [.p (.sl 1 (List.map encI x_.1)),.p (pi x_.2.1)]),(105,.arr 3 (List.map enc_api_UnitMark x_.2.2))]⟩) ?hymark_Dice_Marks_j1 ?hxmark_Dice_Marks_j1
  case hymark_Dice_Marks_j1 =>
    rintro ⟨d1,d2,out⟩ H0
    try dsimp only at H0 ⊢
    unfold mark_Dice_Marks_j1 at H0
    refine lok_rt E0 (⟨63,mkS [(4,.x (.one (.vw 105)))],mkH [(0,.var [.p (.sl 1 (List.map encI d1)),.p (pi d2)]),(105,.arr 3 (List.map enc_api_UnitMark out))]⟩) ?_
    refine lok_ret ?_
    obtain rfl:=Option.some.inj H0
    try simp only [thenL,blockL]
    exact fin_au _ (.inr rfl) [0] (⟨63,mkS [(4,.x (.one (.p (.sl 3 (List.map enc_api_UnitMark out)))))],mkH [(0,.var [.p (.sl 1 (List.map encI d1)),.p (pi d2)])]⟩) rfl rfl (Imp.trans (imp_frz 105 3 (List.map enc_api_UnitMark out)) imp_au)
  case hxmark_Dice_Marks_j1 =>
    refine lok_rt E0 (⟨63,mkS [(0,.x (.one (.ptr 0 0))),(3,.x (.one (.ptr 103 0))),(5,.x (.one (.vw 105))),(6,.x (.one (.p (pi (0:Int)))))],mkH [(0,.var [.p (.sl 1 (List.map encI d.L)),.p (pi d.At)]),(103,.var [.p (.sl 3 (List.map enc_api_Unit a.Units)),.p (.sl 1 (List.map encI a.Bounds)),.p (pi a.Max)]),(105,.arr 3 (List.map enc_api_UnitMark ([] : List api_UnitMark)))]⟩) ?_
    refine lok_block ?_
    replace H0:=bind_some H0
    obtain ⟨v_0,hv_0,H0⟩:=H0
    refine lok_iter (fun x_ => ⟨63,mkS [(0,.x (.one (.ptr 0 0))),(3,.x (.one (.ptr 103 0))),(5,.x (.one (.vw 105))),(6,.x (.one (.p (pi x_.1))))],mkH [(0,.var [.p (.sl 1 (List.map encI x_.2.1)),.p (pi x_.2.2.1)]),(103,.var [.p (.sl 3 (List.map enc_api_Unit a.Units)),.p (.sl 1 (List.map encI a.Bounds)),.p (pi a.Max)]),(105,.arr 3 (List.map enc_api_UnitMark x_.2.2.2))]⟩) hv_0 imp_au ?_
    · rintro ⟨i,d3,d4,out1⟩ o_1 H1 k_1
      unfold mark_Dice_Marks_l3 at H1
      try dsimp only at H1 ⊢
      refine lok_seq ?_
      refine lok_rt E0 (⟨63,mkS [(0,.x (.one (.ptr 0 0))),(3,.x (.one (.ptr 103 0))),(5,.x (.one (.vw 105))),(6,.x (.one (.p (pi i)))),(13,.x (.one (.p (.val (.bool (decide (i < (a.Units.length:Int))))))))],mkH [(0,.var [.p (.sl 1 (List.map encI d3)),.p (pi d4)]),(103,.var [.p (.sl 3 (List.map enc_api_Unit a.Units)),.p (.sl 1 (List.map encI a.Bounds)),.p (pi a.Max)]),(105,.arr 3 (List.map enc_api_UnitMark out1))]⟩) ?_
      refine lok_c (decide (i < (a.Units.length:Int))) ?_ ?_
      · intro b_7
        replace H1:=cpos H1 b_7
        refine lok_skip ?_
        try simp only [thenL,blockL,↓reduceIte,reduceCtorEq]
        refine lok_seq ?_
        refine lok_block ?_
        replace H1:=bind_some H1
        obtain ⟨⟨y,y1⟩,h_1,H1⟩:=H1
        try dsimp only at H1
        refine lok_rt (Env.of E0 [⟨some 18,16,[.one (.ptr 0 0),.one (.p (.sl 1 (List.map encI ([(0:Int),(0:Int),(0:Int),(1:Int),(2:Int),(3:Int),(0:Int),(0:Int)]))))],[.var [.p (.sl 1 (List.map encI d3)),.p (pi d4)]],[.one (.p (pi y))],[some (.var [.p (.sl 1 (List.map encI y1.L)),.p (pi y1.At)])],True,fun _ => ok_mark_Dice_Pick (mark_Dice.mk d3 d4) ([(0:Int),(0:Int),(0:Int),(1:Int),(2:Int),(3:Int),(0:Int),(0:Int)]) (y,y1) h_1,[]⟩]) (⟨63,mkS [(0,.x (.one (.ptr 0 0))),(3,.x (.one (.ptr 103 0))),(5,.x (.one (.vw 105))),(6,.x (.one (.p (pi i)))),(7,.x (.one (.p (pi y))))],mkH [(0,.var [.p (.sl 1 (List.map encI y1.L)),.p (pi y1.At)]),(103,.var [.p (.sl 3 (List.map enc_api_Unit a.Units)),.p (.sl 1 (List.map encI a.Bounds)),.p (pi a.Max)]),(105,.arr 3 (List.map enc_api_UnitMark out1))]⟩) ?_
        refine lok_rt E0 (⟨63,mkS [(0,.x (.one (.ptr 0 0))),(3,.x (.one (.ptr 103 0))),(5,.x (.one (.vw 105))),(6,.x (.one (.p (pi i)))),(7,.x (.one (.p (pi y)))),(8,.x (.one (.ptr 108 0)))],mkH [(0,.var [.p (.sl 1 (List.map encI y1.L)),.p (pi y1.At)]),(103,.var [.p (.sl 3 (List.map enc_api_Unit a.Units)),.p (.sl 1 (List.map encI a.Bounds)),.p (pi a.Max)]),(105,.arr 3 (List.map enc_api_UnitMark out1)),(108,.var [.p (pi y),.p (pi (0:Int)),.p (pi (1:Int))])]⟩) ?_
        refine lok_join (fun x_ : (List Int) × Int × Int × Int => mark_Dice_Marks_j2 i out1 y x_.1 x_.2.1 x_.2.2.1 x_.2.2.2 = some o_1) (fun x_ => ⟨63,mkS [(0,.x (.one (.ptr 0 0))),(3,.x (.one (.ptr 103 0))),(5,.x (.one (.vw 105))),(6,.x (.one (.p (pi i)))),(8,.x (.one (.ptr 108 0)))],mkH [(0,.var [.p (.sl 1 (List.map encI x_.1)),.p (pi x_.2.1)]),(103,.var [.p (.sl 3 (List.map enc_api_Unit a.Units)),.p (.sl 1 (List.map encI a.Bounds)),.p (pi a.Max)]),(105,.arr 3 (List.map enc_api_UnitMark out1)),(108,.var [.p (pi y),.p (pi x_.2.2.1),.p (pi x_.2.2.2)])]⟩) ?hymark_Dice_Marks_j2 ?hxmark_Dice_Marks_j2
        case hymark_Dice_Marks_j2 =>
          rintro ⟨d7,d8,x,x1⟩ H1
          try dsimp only at H1 ⊢
          unfold mark_Dice_Marks_j2 at H1
          replace H1:=req_some H1
          obtain ⟨q_2,H1⟩:=H1
          refine lok_rl E0 (⟨63,mkS [(0,.x (.one (.ptr 0 0))),(3,.x (.one (.ptr 103 0))),(5,.x (.one (.vw 105))),(6,.x (.one (.p (pi i))))],mkH [(0,.var [.p (.sl 1 (List.map encI d7)),.p (pi d8)]),(103,.var [.p (.sl 3 (List.map enc_api_Unit a.Units)),.p (.sl 1 (List.map encI a.Bounds)),.p (pi a.Max)]),(105,.arr 3 (List.map enc_api_UnitMark (out1 ++ [(api_UnitMark.mk y (api_Ratio.mk x x1))])))]⟩) ?_
          try simp only [thenL,blockL,↓reduceIte,reduceCtorEq]
          refine lok_rl E0 (⟨63,mkS [(0,.x (.one (.ptr 0 0))),(3,.x (.one (.ptr 103 0))),(5,.x (.one (.vw 105))),(6,.x (.one (.p (pi (IntKind.i64.wrap (i + (1:Int)))))))],mkH [(0,.var [.p (.sl 1 (List.map encI d7)),.p (pi d8)]),(103,.var [.p (.sl 3 (List.map enc_api_Unit a.Units)),.p (.sl 1 (List.map encI a.Bounds)),.p (pi a.Max)]),(105,.arr 3 (List.map enc_api_UnitMark (out1 ++ [(api_UnitMark.mk y (api_Ratio.mk x x1))])))]⟩) ?_
          try simp only [thenL,blockL,↓reduceIte,reduceCtorEq]
          exact ⟨((IntKind.i64.wrap (i + (1:Int))),d7,d8,(out1 ++ [(api_UnitMark.mk y (api_Ratio.mk x x1))])),(Option.some.inj H1).symm,imp_au⟩
        case hxmark_Dice_Marks_j2 =>
          refine lok_rt E0 (⟨63,mkS [(0,.x (.one (.ptr 0 0))),(3,.x (.one (.ptr 103 0))),(5,.x (.one (.vw 105))),(6,.x (.one (.p (pi i)))),(8,.x (.one (.ptr 108 0))),(23,.x (.one (.p (.val (.bool (y == (0:Int)))))))],mkH [(0,.var [.p (.sl 1 (List.map encI y1.L)),.p (pi y1.At)]),(103,.var [.p (.sl 3 (List.map enc_api_Unit a.Units)),.p (.sl 1 (List.map encI a.Bounds)),.p (pi a.Max)]),(105,.arr 3 (List.map enc_api_UnitMark out1)),(108,.var [.p (pi y),.p (pi (0:Int)),.p (pi (1:Int))])]⟩) ?_
          refine lok_c (y == (0:Int)) ?_ ?_
          · intro b_6
            replace H1:=cpos H1 b_6
            replace H1:=req_some H1
            obtain ⟨q_5,H1⟩:=H1
            replace H1:=bind_some H1
            obtain ⟨⟨y2,y3⟩,h_3,H1⟩:=H1
            try dsimp only at H1
            refine lok_rt (Env.of E0 [⟨some 32,14,[.one (.ptr 0 0),.one (.p (pi (IntKind.i64.wrap ((ix a.Units i).Max + (1:Int)))))],[.var [.p (.sl 1 (List.map encI y1.L)),.p (pi y1.At)]],[.one (.p (pi y2))],[some (.var [.p (.sl 1 (List.map encI y3.L)),.p (pi y3.At)])],True,fun _ => ok_mark_Dice_Next y1 (IntKind.i64.wrap ((ix a.Units i).Max + (1:Int))) (y2,y3) h_3,[]⟩]) (⟨63,mkS [(0,.x (.one (.ptr 0 0))),(3,.x (.one (.ptr 103 0))),(5,.x (.one (.vw 105))),(6,.x (.one (.p (pi i)))),(8,.x (.one (.ptr 108 0)))],mkH [(0,.var [.p (.sl 1 (List.map encI y3.L)),.p (pi y3.At)]),(103,.var [.p (.sl 3 (List.map enc_api_Unit a.Units)),.p (.sl 1 (List.map encI a.Bounds)),.p (pi a.Max)]),(105,.arr 3 (List.map enc_api_UnitMark out1)),(108,.var [.p (pi y),.p (pi y2),.p (pi (1:Int))])]⟩) ?_
            replace H1:=req_some H1
            obtain ⟨q1_5,H1⟩:=H1
            rcases bcases (((Int.tmod y2 (2:Int)) == (1:Int)) && (decide (y2 < (ix a.Units i).Max))) with g_4_0 | g_4_0
            · replace H1:=cpos H1 g_4_0
              replace H1:=bind_some H1
              obtain ⟨⟨y4,y5⟩,h_4,H1⟩:=H1
              try dsimp only at H1
              refine lok_dtg (Env.of E0 [⟨some 54,35,[.one (.ptr 0 0),.one (.p (pi (3:Int)))],[.var [.p (.sl 1 (List.map encI y3.L)),.p (pi y3.At)]],[.one (.p (.val (.bool y4)))],[some (.var [.p (.sl 1 (List.map encI y5.L)),.p (pi y5.At)])],True,fun _ => ok_mark_Dice_Bool y3 (3:Int) (y4,y5) h_4,[]⟩]) 15 g_4_0 (⟨63,mkS [(0,.x (.one (.ptr 0 0))),(3,.x (.one (.ptr 103 0))),(5,.x (.one (.vw 105))),(6,.x (.one (.p (pi i)))),(8,.x (.one (.ptr 108 0))),(54,.x (.one (.p (.val (.bool y4))))),(55,.x (.one (.p (.val (.bool y4)))))],mkH [(0,.var [.p (.sl 1 (List.map encI y5.L)),.p (pi y5.At)]),(103,.var [.p (.sl 3 (List.map enc_api_Unit a.Units)),.p (.sl 1 (List.map encI a.Bounds)),.p (pi a.Max)]),(105,.arr 3 (List.map enc_api_UnitMark out1)),(108,.var [.p (pi y),.p (pi y2),.p (pi (1:Int))])]⟩) (by kernel_rfl) (by kernel_rfl) ?_
              refine lok_c y4 ?_ ?_
              · intro b_5
                replace H1:=cpos H1 b_5
                refine lok_rl E0 (⟨63,mkS [(0,.x (.one (.ptr 0 0))),(3,.x (.one (.ptr 103 0))),(5,.x (.one (.vw 105))),(6,.x (.one (.p (pi i)))),(8,.x (.one (.ptr 108 0))),(54,.x (.one (.p (.val (.bool y4)))))],mkH [(0,.var [.p (.sl 1 (List.map encI y5.L)),.p (pi y5.At)]),(103,.var [.p (.sl 3 (List.map enc_api_Unit a.Units)),.p (.sl 1 (List.map encI a.Bounds)),.p (pi a.Max)]),(105,.arr 3 (List.map enc_api_UnitMark out1)),(108,.var [.p (pi y),.p (pi y2),.p (pi (2:Int))])]⟩) ?_
                try simp only [thenL,blockL,↓reduceIte,reduceCtorEq]
                exact ⟨(y5.L,y5.At,y2,(2:Int)),H1,imp_au⟩
              · intro b_5
                replace H1:=cneg H1 b_5
                refine lok_skip ?_
                try simp only [thenL,blockL,↓reduceIte,reduceCtorEq]
                exact ⟨(y5.L,y5.At,y2,(1:Int)),H1,imp_au⟩
            · replace H1:=cneg H1 g_4_0
              refine lok_dtg E0 15 g_4_0 (⟨63,mkS [(0,.x (.one (.ptr 0 0))),(3,.x (.one (.ptr 103 0))),(5,.x (.one (.vw 105))),(6,.x (.one (.p (pi i)))),(8,.x (.one (.ptr 108 0))),(55,.x (.one (.p (.val (.bool false)))))],mkH [(0,.var [.p (.sl 1 (List.map encI y3.L)),.p (pi y3.At)]),(103,.var [.p (.sl 3 (List.map enc_api_Unit a.Units)),.p (.sl 1 (List.map encI a.Bounds)),.p (pi a.Max)]),(105,.arr 3 (List.map enc_api_UnitMark out1)),(108,.var [.p (pi y),.p (pi y2),.p (pi (1:Int))])]⟩) (by kernel_rfl) (by kernel_rfl) ?_
              refine lok_c false ?_ ?_
              · intro h; exact absurd h (by decide)
              · intro _
                refine lok_skip ?_
                try simp only [thenL,blockL,↓reduceIte,reduceCtorEq]
                exact ⟨(y3.L,y3.At,y2,(1:Int)),H1,imp_au⟩
          · intro b_6
            replace H1:=cneg H1 b_6
            refine lok_skip ?_
            try simp only [thenL,blockL,↓reduceIte,reduceCtorEq]
            exact ⟨(y1.L,y1.At,(0:Int),(1:Int)),H1,imp_au⟩
      · intro b_7
        replace H1:=cneg H1 b_7
        refine lok_exit ?_
        try simp only [thenL,blockL,↓reduceIte,reduceCtorEq]
        have e_1:=k_1 _ (Option.some.inj H1).symm
        subst e_1
        try dsimp only at H0
        try simp only [thenL,blockL,↓reduceIte,reduceCtorEq]
        exact ⟨(d3,d4,out1),H0,imp_au⟩
theorem ok_law36_odd (d : mark_Dice) (a : api_Award) (r_ : api_Award × mark_Dice) (H0 : law36_odd d a = some r_) : CallOK Try.prog 18 [.one (.ptr 0 0),.agg [.p (.sl 3 (List.map enc_api_Unit a.Units)),.p (.sl 1 (List.map encI a.Bounds)),.p (pi a.Max)]] [.var [.p (.sl 1 (List.map encI d.L)),.p (pi d.At)]] [.agg [.p (.sl 3 (List.map enc_api_Unit r_.1.Units)),.p (.sl 1 (List.map encI r_.1.Bounds)),.p (pi r_.1.Max)]] [some (.var [.p (.sl 1 (List.map encI r_.2.L)),.p (pi r_.2.At)])]:=by
  refine callOK (n:=73) (rs:=[.cell 4 25]) (nb:=1) (V:=[0]) Try.func18 rfl (by kernel_rfl) rfl rfl rfl rfl (Nat.le_of_ble_eq_true rfl) (by decide) ?_
  unfold law36_odd at H0
  refine lok_rt E0 (⟨73,mkS [(0,.x (.one (.ptr 0 0))),(3,.x (.one (.ptr 103 0))),(4,.x (.one (.ptr 104 0)))],mkH [(0,.var [.p (.sl 1 (List.map encI d.L)),.p (pi d.At)]),(103,.var [.p (.sl 3 (List.map enc_api_Unit a.Units)),.p (.sl 1 (List.map encI a.Bounds)),.p (pi a.Max)]),(104,.var [.p .nil,.p .nil,.p (pi (0:Int))])]⟩) ?_
  replace H0:=req_some H0
  obtain ⟨q_19,H0⟩:=H0
  refine lok_rt E0 (⟨73,mkS [(0,.x (.one (.ptr 0 0))),(3,.x (.one (.ptr 103 0))),(4,.x (.one (.ptr 104 0)))],mkH [(0,.var [.p (.sl 1 (List.map encI d.L)),.p (pi d.At)]),(103,.var [.vw 108,.p (.sl 1 (List.map encI a.Bounds)),.p (pi a.Max)]),(104,.var [.p .nil,.p .nil,.p (pi (0:Int))]),(108,.arr 3 (List.map enc_api_Unit a.Units))]⟩) ?_
  replace H0:=bind_some H0
  obtain ⟨⟨y,y1⟩,h_0,H0⟩:=H0
  try dsimp only at H0
  replace H0:=req_some H0
  obtain ⟨q_18,H0⟩:=H0
  refine lok_et (Env.of E0 [⟨some 16,14,[.one (.ptr 0 0),.one (.p (pi (a.Units.length:Int)))],[.var [.p (.sl 1 (List.map encI d.L)),.p (pi d.At)]],[.one (.p (pi y))],[some (.var [.p (.sl 1 (List.map encI y1.L)),.p (pi y1.At)])],True,fun _ => ok_mark_Dice_Next d (a.Units.length:Int) (y,y1) h_0,[]⟩]) 73 [⟨[(3,.x (.one (.ptr 103 0)))],[],[(10,.x (.one (.ptr 103 0)))],[],none⟩,
      ⟨[(10,.x (.one (.ptr 103 0)))],[(103,some (.var [.vw 108,.p (.sl 1 (List.map encI a.Bounds)),.p (pi a.Max)]))],[(11,.x (.one (.vw 108)))],[],none⟩,
      ⟨[(0,.x (.one (.ptr 0 0)))],[],[(12,.x (.one (.ptr 0 0)))],[],none⟩,
      ⟨[(3,.x (.one (.ptr 103 0)))],[],[(13,.x (.one (.ptr 103 0)))],[],none⟩,
      ⟨[(13,.x (.one (.ptr 103 0)))],[(103,some (.var [.vw 108,.p (.sl 1 (List.map encI a.Bounds)),.p (pi a.Max)]))],[(14,.x (.one (.vw 108)))],[],none⟩,
      ⟨[(14,.x (.one (.vw 108)))],[(108,some (.arr 3 (List.map enc_api_Unit a.Units)))],[(15,.x (.one (.p (pi (a.Units.length:Int)))))],[],none⟩,
      ⟨[(12,.x (.one (.ptr 0 0))),(15,.x (.one (.p (pi (a.Units.length:Int)))))],[(0,some (.var [.p (.sl 1 (List.map encI d.L)),.p (pi d.At)]))],[(16,.x (.one (.p (pi y))))],[(0,some (.var [.p (.sl 1 (List.map encI y1.L)),.p (pi y1.At)]))],none⟩] (⟨73,mkS [(0,.x (.one (.ptr 0 0))),(3,.x (.one (.ptr 103 0))),(4,.x (.one (.ptr 104 0))),(5,.x (.one (.ap 108 (y.toNat) 0)))],mkH [(0,.var [.p (.sl 1 (List.map encI y1.L)),.p (pi y1.At)]),(103,.var [.vw 108,.p (.sl 1 (List.map encI a.Bounds)),.p (pi a.Max)]),(104,.var [.p .nil,.p .nil,.p (pi (0:Int))]),(108,.arr 3 (List.map enc_api_Unit a.Units))]⟩) (by kernel_rfl) (by kernel_rfl) (by kernel_rfl) rfl rfl rfl ?_
  refine lok_join (fun x_ : (List Int) × Int × (List api_Unit) × (List Int) × Int => law36_odd_j1 x_.1 x_.2.1 x_.2.2.1 x_.2.2.2.1 x_.2.2.2.2 = some r_) (fun x_ => ⟨73,mkS [(3,.x (.one (.ptr 103 0))),(4,.x (.one (.ptr 104 0)))],mkH [(0,.var [.p (.sl 1 (List.map encI x_.1)),.p (pi x_.2.1)]),(103,.var [.p (.sl 3 (List.map enc_api_Unit x_.2.2.1)),.p (.sl 1 (List.map encI x_.2.2.2.1)),.p (pi x_.2.2.2.2)]),(104,.var [.p .nil,.p .nil,.p (pi (0:Int))])]⟩) ?hylaw36_odd_j1 ?hxlaw36_odd_j1
  case hylaw36_odd_j1 =>
    rintro ⟨d1,d2,a1,a2,a3⟩ H0
    try dsimp only at H0 ⊢
    unfold law36_odd_j1 at H0
    refine lok_rt E0 (⟨73,mkS [(4,.x (.one (.ptr 104 0)))],mkH [(0,.var [.p (.sl 1 (List.map encI d1)),.p (pi d2)]),(104,.var [.p (.sl 3 (List.map enc_api_Unit a1)),.p (.sl 1 (List.map encI a2)),.p (pi a3)])]⟩) ?_
    refine lok_ret ?_
    obtain rfl:=Option.some.inj H0
    try simp only [thenL,blockL]
    exact fin_au _ (.inr rfl) [0] (⟨73,mkS [(4,.x (.one (.ptr 104 0)))],mkH [(0,.var [.p (.sl 1 (List.map encI d1)),.p (pi d2)]),(104,.var [.p (.sl 3 (List.map enc_api_Unit a1)),.p (.sl 1 (List.map encI a2)),.p (pi a3)])]⟩) rfl rfl imp_au
  case hxlaw36_odd_j1 =>
    replace H0:=bind_some H0
    obtain ⟨⟨y2,y3⟩,h_1,H0⟩:=H0
    try dsimp only at H0
    refine lok_rt (Env.of E0 [⟨some 19,14,[.one (.ptr 0 0),.one (.p (pi (6:Int)))],[.var [.p (.sl 1 (List.map encI y1.L)),.p (pi y1.At)]],[.one (.p (pi y2))],[some (.var [.p (.sl 1 (List.map encI y3.L)),.p (pi y3.At)])],True,fun _ => ok_mark_Dice_Next y1 (6:Int) (y2,y3) h_1,[]⟩]) (⟨73,mkS [(0,.x (.one (.ptr 0 0))),(3,.x (.one (.ptr 103 0))),(4,.x (.one (.ptr 104 0))),(5,.x (.one (.ap 108 (y.toNat) 0))),(19,.x (.one (.p (pi y2))))],mkH [(0,.var [.p (.sl 1 (List.map encI y3.L)),.p (pi y3.At)]),(103,.var [.vw 108,.p (.sl 1 (List.map encI a.Bounds)),.p (pi a.Max)]),(104,.var [.p .nil,.p .nil,.p (pi (0:Int))]),(108,.arr 3 (List.map enc_api_Unit a.Units))]⟩) ?_
    refine lok_block ?_
    refine lok_rt E0 (⟨73,mkS [(0,.x (.one (.ptr 0 0))),(3,.x (.one (.ptr 103 0))),(4,.x (.one (.ptr 104 0))),(5,.x (.one (.ap 108 (y.toNat) 0))),(19,.x (.one (.p (pi y2)))),(24,.x (.one (.p (.val (.bool (y2 == (0:Int)))))))],mkH [(0,.var [.p (.sl 1 (List.map encI y3.L)),.p (pi y3.At)]),(103,.var [.vw 108,.p (.sl 1 (List.map encI a.Bounds)),.p (pi a.Max)]),(104,.var [.p .nil,.p .nil,.p (pi (0:Int))]),(108,.arr 3 (List.map enc_api_Unit a.Units))]⟩) ?_
    refine lok_c (y2 == (0:Int)) ?_ ?_
    · intro b_17
      replace H0:=cpos H0 b_17
      replace H0:=bind_some H0
      obtain ⟨⟨y4,y5⟩,h_2,H0⟩:=H0
      try dsimp only at H0
      replace H0:=bindV_some H0
      obtain ⟨w,a_3,H0⟩:=H0
      refine lok_rlg (Env.of E0 [⟨some 29,16,[.one (.ptr 0 0),.one (.p (.sl 1 (List.map encI ([(-1:Int),(0:Int),(31:Int),(32:Int)]))))],[.var [.p (.sl 1 (List.map encI y3.L)),.p (pi y3.At)]],[.one (.p (pi y4))],[some (.var [.p (.sl 1 (List.map encI y5.L)),.p (pi y5.At)])],True,fun _ => ok_mark_Dice_Pick y3 ([(-1:Int),(0:Int),(31:Int),(32:Int)]) (y4,y5) h_2,[]⟩]) a_3 (⟨73,mkS [(3,.x (.one (.ptr 103 0))),(4,.x (.one (.ptr 104 0)))],mkH [(0,.var [.p (.sl 1 (List.map encI y5.L)),.p (pi y5.At)]),(103,.var [.vw 108,.p (.sl 1 (List.map encI a.Bounds)),.p (pi a.Max)]),(104,.var [.p .nil,.p .nil,.p (pi (0:Int))]),(108,.arr 3 (List.map enc_api_Unit w))]⟩) ?_
      try simp only [thenL,blockL,↓reduceIte,reduceCtorEq]
      exact ⟨(y5.L,y5.At,w,a.Bounds,a.Max),H0,(Imp.trans (imp_frz 108 3 (List.map enc_api_Unit w)) imp_au)⟩
    · intro b_17
      replace H0:=cneg H0 b_17
      refine lok_rt E0 (⟨73,mkS [(0,.x (.one (.ptr 0 0))),(3,.x (.one (.ptr 103 0))),(4,.x (.one (.ptr 104 0))),(5,.x (.one (.ap 108 (y.toNat) 0))),(19,.x (.one (.p (pi y2)))),(32,.x (.one (.p (.val (.bool (y2 == (1:Int)))))))],mkH [(0,.var [.p (.sl 1 (List.map encI y3.L)),.p (pi y3.At)]),(103,.var [.vw 108,.p (.sl 1 (List.map encI a.Bounds)),.p (pi a.Max)]),(104,.var [.p .nil,.p .nil,.p (pi (0:Int))]),(108,.arr 3 (List.map enc_api_Unit a.Units))]⟩) ?_
      refine lok_c (y2 == (1:Int)) ?_ ?_
      · intro b_16
        replace H0:=cpos H0 b_16
        replace H0:=bind_some H0
        obtain ⟨⟨y6,y7⟩,h_4,H0⟩:=H0
        try dsimp only at H0
        replace H0:=bindV_some H0
        obtain ⟨w1,a_5,H0⟩:=H0
        refine lok_rlg (Env.of E0 [⟨some 37,16,[.one (.ptr 0 0),.one (.p (.sl 1 (List.map encI ([(0:Int),(1:Int),(1000:Int),(1001:Int)]))))],[.var [.p (.sl 1 (List.map encI y3.L)),.p (pi y3.At)]],[.one (.p (pi y6))],[some (.var [.p (.sl 1 (List.map encI y7.L)),.p (pi y7.At)])],True,fun _ => ok_mark_Dice_Pick y3 ([(0:Int),(1:Int),(1000:Int),(1001:Int)]) (y6,y7) h_4,[]⟩]) a_5 (⟨73,mkS [(3,.x (.one (.ptr 103 0))),(4,.x (.one (.ptr 104 0)))],mkH [(0,.var [.p (.sl 1 (List.map encI y7.L)),.p (pi y7.At)]),(103,.var [.vw 108,.p (.sl 1 (List.map encI a.Bounds)),.p (pi a.Max)]),(104,.var [.p .nil,.p .nil,.p (pi (0:Int))]),(108,.arr 3 (List.map enc_api_Unit w1))]⟩) ?_
        try simp only [thenL,blockL,↓reduceIte,reduceCtorEq]
        exact ⟨(y7.L,y7.At,w1,a.Bounds,a.Max),H0,(Imp.trans (imp_frz 108 3 (List.map enc_api_Unit w1)) imp_au)⟩
      · intro b_16
        replace H0:=cneg H0 b_16
        refine lok_rt E0 (⟨73,mkS [(0,.x (.one (.ptr 0 0))),(3,.x (.one (.ptr 103 0))),(4,.x (.one (.ptr 104 0))),(5,.x (.one (.ap 108 (y.toNat) 0))),(19,.x (.one (.p (pi y2)))),(40,.x (.one (.p (.val (.bool (y2 == (2:Int)))))))],mkH [(0,.var [.p (.sl 1 (List.map encI y3.L)),.p (pi y3.At)]),(103,.var [.vw 108,.p (.sl 1 (List.map encI a.Bounds)),.p (pi a.Max)]),(104,.var [.p .nil,.p .nil,.p (pi (0:Int))]),(108,.arr 3 (List.map enc_api_Unit a.Units))]⟩) ?_
        refine lok_c (y2 == (2:Int)) ?_ ?_
        · intro b_15
          replace H0:=cpos H0 b_15
          replace H0:=bind_some H0
          obtain ⟨⟨y8,y9⟩,h_6,H0⟩:=H0
          try dsimp only at H0
          replace H0:=bindV_some H0
          obtain ⟨w2,a_7,H0⟩:=H0
          refine lok_rlg (Env.of E0 [⟨some 45,16,[.one (.ptr 0 0),.one (.p (.sl 1 (List.map encI ([(0:Int),(1:Int),(200:Int),(201:Int)]))))],[.var [.p (.sl 1 (List.map encI y3.L)),.p (pi y3.At)]],[.one (.p (pi y8))],[some (.var [.p (.sl 1 (List.map encI y9.L)),.p (pi y9.At)])],True,fun _ => ok_mark_Dice_Pick y3 ([(0:Int),(1:Int),(200:Int),(201:Int)]) (y8,y9) h_6,[]⟩]) a_7 (⟨73,mkS [(3,.x (.one (.ptr 103 0))),(4,.x (.one (.ptr 104 0)))],mkH [(0,.var [.p (.sl 1 (List.map encI y9.L)),.p (pi y9.At)]),(103,.var [.vw 108,.p (.sl 1 (List.map encI a.Bounds)),.p (pi a.Max)]),(104,.var [.p .nil,.p .nil,.p (pi (0:Int))]),(108,.arr 3 (List.map enc_api_Unit w2))]⟩) ?_
          try simp only [thenL,blockL,↓reduceIte,reduceCtorEq]
          exact ⟨(y9.L,y9.At,w2,a.Bounds,a.Max),H0,(Imp.trans (imp_frz 108 3 (List.map enc_api_Unit w2)) imp_au)⟩
        · intro b_15
          replace H0:=cneg H0 b_15
          refine lok_rt E0 (⟨73,mkS [(0,.x (.one (.ptr 0 0))),(3,.x (.one (.ptr 103 0))),(4,.x (.one (.ptr 104 0))),(19,.x (.one (.p (pi y2)))),(48,.x (.one (.p (.val (.bool (y2 == (3:Int)))))))],mkH [(0,.var [.p (.sl 1 (List.map encI y3.L)),.p (pi y3.At)]),(103,.var [.vw 108,.p (.sl 1 (List.map encI a.Bounds)),.p (pi a.Max)]),(104,.var [.p .nil,.p .nil,.p (pi (0:Int))]),(108,.arr 3 (List.map enc_api_Unit a.Units))]⟩) ?_
          refine lok_c (y2 == (3:Int)) ?_ ?_
          · intro b_14
            replace H0:=cpos H0 b_14
            replace H0:=bind_some H0
            obtain ⟨⟨y10,y11⟩,h_8,H0⟩:=H0
            try dsimp only at H0
            refine lok_rl (Env.of E0 [⟨some 52,16,[.one (.ptr 0 0),.one (.p (.sl 1 (List.map encI ([(0:Int),(1:Int),(200:Int),(201:Int)]))))],[.var [.p (.sl 1 (List.map encI y3.L)),.p (pi y3.At)]],[.one (.p (pi y10))],[some (.var [.p (.sl 1 (List.map encI y11.L)),.p (pi y11.At)])],True,fun _ => ok_mark_Dice_Pick y3 ([(0:Int),(1:Int),(200:Int),(201:Int)]) (y10,y11) h_8,[]⟩]) (⟨73,mkS [(3,.x (.one (.ptr 103 0))),(4,.x (.one (.ptr 104 0)))],mkH [(0,.var [.p (.sl 1 (List.map encI y11.L)),.p (pi y11.At)]),(103,.var [.vw 108,.p (.sl 1 (List.map encI a.Bounds)),.p (pi y10)]),(104,.var [.p .nil,.p .nil,.p (pi (0:Int))]),(108,.arr 3 (List.map enc_api_Unit a.Units))]⟩) ?_
            try simp only [thenL,blockL,↓reduceIte,reduceCtorEq]
            exact ⟨(y11.L,y11.At,a.Units,a.Bounds,y10),H0,(Imp.trans (imp_frz 108 3 (List.map enc_api_Unit a.Units)) imp_au)⟩
          · intro b_14
            replace H0:=cneg H0 b_14
            refine lok_rt E0 (⟨73,mkS [(0,.x (.one (.ptr 0 0))),(3,.x (.one (.ptr 103 0))),(4,.x (.one (.ptr 104 0))),(54,.x (.one (.p (.val (.bool (y2 == (4:Int)))))))],mkH [(0,.var [.p (.sl 1 (List.map encI y3.L)),.p (pi y3.At)]),(103,.var [.vw 108,.p (.sl 1 (List.map encI a.Bounds)),.p (pi a.Max)]),(104,.var [.p .nil,.p .nil,.p (pi (0:Int))]),(108,.arr 3 (List.map enc_api_Unit a.Units))]⟩) ?_
            refine lok_c (y2 == (4:Int)) ?_ ?_
            · intro b_13
              replace H0:=cpos H0 b_13
              replace H0:=bind_some H0
              obtain ⟨⟨y12,y13⟩,h_9,H0⟩:=H0
              try dsimp only at H0
              replace H0:=req_some H0
              obtain ⟨q_11,H0⟩:=H0
              replace H0:=bindV_some H0
              obtain ⟨a4,a_10,H0⟩:=H0
              refine lok_elg (Env.of E0 [⟨some 68,14,[.one (.ptr 0 0),.one (.p (pi (5:Int)))],[.var [.p (.sl 1 (List.map encI y3.L)),.p (pi y3.At)]],[.one (.p (pi y12))],[some (.var [.p (.sl 1 (List.map encI y13.L)),.p (pi y13.At)])],True,fun _ => ok_mark_Dice_Next y3 (5:Int) (y12,y13) h_9,[]⟩]) 73 [⟨[],[],[(56,.x (.one (.fl 1 (List.map encI ([(1:Int),(2:Int)])))))],[],none⟩,
      ⟨[(3,.x (.one (.ptr 103 0)))],[],[(57,.x (.one (.ptr 103 2)))],[],none⟩,
      ⟨[(57,.x (.one (.ptr 103 2)))],[(103,some (.var [.vw 108,.p (.sl 1 (List.map encI a.Bounds)),.p (pi a.Max)]))],[(58,.x (.one (.p (pi a.Max))))],[],none⟩,
      ⟨[(58,.x (.one (.p (pi a.Max))))],[],[(59,.x (.one (.p (pi (IntKind.i64.wrap (a.Max + (1:Int)))))))],[],none⟩,
      ⟨[(59,.x (.one (.p (pi (IntKind.i64.wrap (a.Max + (1:Int)))))))],[],[(60,.x (.one (.fl 1 (List.map encI ([(IntKind.i64.wrap (a.Max + (1:Int)))])))))],[],none⟩,
      ⟨[(3,.x (.one (.ptr 103 0)))],[],[(61,.x (.one (.ptr 103 2)))],[],none⟩,
      ⟨[(61,.x (.one (.ptr 103 2)))],[(103,some (.var [.vw 108,.p (.sl 1 (List.map encI a.Bounds)),.p (pi a.Max)]))],[(62,.x (.one (.p (pi a.Max))))],[],none⟩,
      ⟨[(62,.x (.one (.p (pi a.Max))))],[],[(63,.x (.one (.p (pi (IntKind.i64.wrap (a.Max + (2:Int)))))))],[],none⟩,
      ⟨[(63,.x (.one (.p (pi (IntKind.i64.wrap (a.Max + (2:Int)))))))],[],[(64,.x (.one (.fl 1 (List.map encI ([(IntKind.i64.wrap (a.Max + (2:Int)))])))))],[],none⟩,
      ⟨[],[],[(65,.x (.one (.fl 1 (List.map encI ([(-1:Int)])))))],[],none⟩,
      ⟨[(56,.x (.one (.fl 1 (List.map encI ([(1:Int),(2:Int)]))))),(60,.x (.one (.fl 1 (List.map encI ([(IntKind.i64.wrap (a.Max + (1:Int)))]))))),(64,.x (.one (.fl 1 (List.map encI ([(IntKind.i64.wrap (a.Max + (2:Int)))]))))),(65,.x (.one (.fl 1 (List.map encI ([(-1:Int)])))))],[],[(66,.x (.one (.fl 1 (List.map encL_encI ([([] : List Int),[(1:Int),(2:Int)],[(IntKind.i64.wrap (a.Max + (1:Int)))],[(IntKind.i64.wrap (a.Max + (2:Int)))],[(-1:Int)]])))))],[],none⟩,
      ⟨[(0,.x (.one (.ptr 0 0)))],[],[(67,.x (.one (.ptr 0 0)))],[],none⟩,
      ⟨[(67,.x (.one (.ptr 0 0)))],[(0,some (.var [.p (.sl 1 (List.map encI y3.L)),.p (pi y3.At)]))],[(68,.x (.one (.p (pi y12))))],[(0,some (.var [.p (.sl 1 (List.map encI y13.L)),.p (pi y13.At)]))],none⟩] a_10 (⟨73,mkS [(3,.x (.one (.ptr 103 0))),(4,.x (.one (.ptr 104 0)))],mkH [(0,.var [.p (.sl 1 (List.map encI y13.L)),.p (pi y13.At)]),(103,.var [.vw 108,.p (.sl 1 (List.map encI a4)),.p (pi a.Max)]),(104,.var [.p .nil,.p .nil,.p (pi (0:Int))]),(108,.arr 3 (List.map enc_api_Unit a.Units))]⟩) (by kernel_rfl) (by kernel_rfl) (by kernel_rfl) rfl rfl rfl ?_
              try simp only [thenL,blockL,↓reduceIte,reduceCtorEq]
              exact ⟨(y13.L,y13.At,a.Units,a4,a.Max),H0,(Imp.trans (imp_frz 108 3 (List.map enc_api_Unit a.Units)) imp_au)⟩
            · intro b_13
              replace H0:=cneg H0 b_13
              refine lok_imp (st':=⟨73,mkS [(0,.x (.one (.ptr 0 0))),(3,.x (.one (.ptr 103 0))),(4,.x (.one (.ptr 104 0))),(54,.x (.one (.p (.val (.bool (y2 == (4:Int)))))))],mkH [(0,.var [.p (.sl 1 (List.map encI y3.L)),.p (pi y3.At)]),(103,.var [.p (.sl 3 (List.map enc_api_Unit a.Units)),.p (.sl 1 (List.map encI a.Bounds)),.p (pi a.Max)]),(104,.var [.p .nil,.p .nil,.p (pi (0:Int))])]⟩) (Imp.trans (imp_frz 108 3 (List.map enc_api_Unit a.Units)) imp_au) ?_
              replace H0:=req_some H0
              obtain ⟨q_12,H0⟩:=H0
              refine lok_rl E0 (⟨73,mkS [(3,.x (.one (.ptr 103 0))),(4,.x (.one (.ptr 104 0)))],mkH [(0,.var [.p (.sl 1 (List.map encI y3.L)),.p (pi y3.At)]),(103,.var [.p (.sl 3 (List.map enc_api_Unit (List.take (0:Int).toNat a.Units))),.p (.sl 1 (List.map encI a.Bounds)),.p (pi a.Max)]),(104,.var [.p .nil,.p .nil,.p (pi (0:Int))])]⟩) ?_
              try simp only [thenL,blockL,↓reduceIte,reduceCtorEq]
              exact ⟨(y3.L,y3.At,(List.take (0:Int).toNat a.Units),a.Bounds,a.Max),H0,imp_au⟩
theorem ok_ref36_in (n:Int) (lo:Int) (hi:Int) (r_ : Bool) (H0 : ref36_in n lo hi = some r_) : CallOK Try.prog 42 [.one (.p (pi n)),.one (.p (pi lo)),.one (.p (pi hi))] [] [.one (.p (.val (.bool r_)))] []:=by
  refine callOK (n:=15) (rs:=[.tmp 6]) (nb:=0) (V:=[]) Try.func42 rfl (by kernel_rfl) rfl rfl rfl rfl (Nat.le_of_ble_eq_true rfl) (by decide) ?_
  unfold ref36_in at H0
  refine lok_rt E0 (⟨15,mkS [(0,.x (.one (.p (pi n)))),(1,.x (.one (.p (pi lo)))),(2,.x (.one (.p (pi hi))))],mkH []⟩) ?_
  refine lok_rt E0 (⟨15,mkS [(6,.x (.one (.p (.val (.bool ((decide (lo ≤ n)) && (decide (n ≤ hi))))))))],mkH []⟩) ?_
  refine lok_ret ?_
  obtain rfl:=Option.some.inj H0
  try simp only [thenL,blockL]
  exact fin_au _ (.inr rfl) [] (⟨15,mkS [(6,.x (.one (.p (.val (.bool ((decide (lo ≤ n)) && (decide (n ≤ hi))))))))],mkH []⟩) rfl rfl imp_au
end Go.LS
