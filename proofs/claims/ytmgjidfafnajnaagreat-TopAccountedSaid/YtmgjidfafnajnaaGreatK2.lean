/-
  The walks: the functions compute what the plain ones say. Condition: the plain function has a value.
-/
import Derived.Test.YtmgjidfafnajnaaGreatK1
import Derived.Test.YtmgjidfafnajnaaGreatD2
namespace Go.LS
open Go.Proofs
set_option linter.all false
set_option linter.unusedSimpArgs false
set_option linter.unusedVariables false
set_option maxRecDepth 20000
theorem ok_custody_Canonical (l:List zh9) (r_:(List zh9)×Int) (H0:custody_Canonical l=some r_):CallOK Tryz.prog 36 [.one (.p (.sl 9 (List.map za9 l)))] [] [.one (.p (.sl 9 (List.map za9 r_.1))),.one (.p (pi r_.2))] []:=by
 refine callOK (n:=46) (rs:=[.tmp 2,.tmp 3]) (nb:=0) (V:=[]) Tryz.func36 rfl (by kernel_rfl) rfl rfl rfl rfl (Nat.le_of_ble_eq_true rfl) (by decide) ?_
 unfold custody_Canonical at H0
 refine lok_rt E0 (⟨46,mkS [(0,xS 9 za9 l)],mkH []⟩) ?_
 replace H0:=bind_some H0
 obtain⟨⟨y,y1⟩,h_0,H0⟩:=H0
 try dsimp only at H0
 refine lok_rt (Env.of E0 [⟨some 11,57,[oS 9 za9 l,.one (.fn 58 []),.one (.fn 59 [])],[],[oL y,oI y1],[],True,fun _=>zl1 l (y,y1) h_0,[]⟩]) (⟨46,mkS [(0,xS 9 za9 l),(4,xL y),(5,xI y1)],mkH []⟩) ?_
 refine lok_seq ?_
 refine lok_rt E0 (⟨46,mkS [(0,xS 9 za9 l),(4,xL y),(5,xI y1),(15,xB (y1 != (0:Int)))],mkH []⟩) ?_
 refine lok_c (y1 != (0:Int)) ?_ ?_
 ·intro b_13
  replace H0:=cpos H0 b_13
  refine lok_rt E0 (⟨46,mkS [(2,xV 102),(3,xI y1)],mkH [(102,bA 9 za9 ([]:List zh9))]⟩) ?_
  refine lok_ret ?_
  try obtain rfl:=Option.some.inj H0
  try simp only [thenL,blockL]
  exact fin_au _ (.inr rfl) [] (⟨46,mkS [(2,xS 9 za9 ([]:List zh9)),(3,xI y1)],mkH []⟩) rfl rfl (Imp.trans (imp_frz 102 9 (List.map za9 ([]:List zh9))) imp_au)
 ·intro b_13
  replace H0:=cneg H0 b_13
  refine lok_skip ?_
  try simp only [thenL,blockL,↓reduceIte,reduceCtorEq]
  replace H0:=req_some H0
  obtain⟨q_12,H0⟩:=H0
  replace H0:=zp1 H0
  obtain⟨w,a_1,H0⟩:=H0
  refine lok_rtg E0 a_1 (⟨46,mkS [(0,xS 9 za9 l),(4,xL y),(6,xV 119)],mkH [(119,bA 9 za9 w)]⟩) ?_
  refine lok_join (fun x_:(List zh9)=>custody_Canonical_j1 x_=some r_) (fun x_=>⟨46,mkS [(6,xV 119)],mkH [(119,bA 9 za9 x_)]⟩) ?hycustody_Canonical_j1 ?hxcustody_Canonical_j1
  case hycustody_Canonical_j1=>
   rintro w1 H0
   try dsimp only at H0 ⊢
   unfold custody_Canonical_j1 at H0
   refine lok_rt E0 (⟨46,mkS [(2,xV 119),(3,xI (0:Int))],mkH [(119,bA 9 za9 w1)]⟩) ?_
   refine lok_ret ?_
   try obtain rfl:=Option.some.inj H0
   try simp only [thenL,blockL]
   exact fin_au _ (.inr rfl) [] (⟨46,mkS [(2,xS 9 za9 w1),(3,xI (0:Int))],mkH []⟩) rfl rfl (Imp.trans (imp_frz 119 9 (List.map za9 w1)) imp_au)
  case hxcustody_Canonical_j1=>
   refine lok_rt E0 (⟨46,mkS [(0,xS 9 za9 l),(6,xV 119),(20,xL y),(21,xI (y.length:Int)),(22,xI (0:Int))],mkH [(119,bA 9 za9 w)]⟩) ?_
   refine zz9 ?_
   replace H0:=bind_some H0
   obtain⟨v_2,hv_2,H0⟩:=H0
   refine lok_iter (fun x_=>⟨46,mkS [(0,xS 9 za9 l),(6,xV 119),(20,xL y),(21,xI (y.length:Int)),(22,xI x_.1)],mkH [(119,bA 9 za9 x_.2)]⟩) hv_2 imp_au ?_
   ·rintro⟨v,w2⟩ o_1 H1 k_1
    unfold custody_Canonical_l2 at H1
    try dsimp only at H1 ⊢
    refine lok_rt E0 (⟨46,mkS [(0,xS 9 za9 l),(6,xV 119),(20,xL y),(21,xI (y.length:Int)),(22,xI v),(23,xB (decide (v<(y.length:Int))))],mkH [(119,bA 9 za9 w2)]⟩) ?_
    refine lok_seq ?_
    refine lok_c (decide (v<(y.length:Int))) ?_ ?_
    ·intro b_11
     replace H1:=cpos H1 b_11
     refine lok_skip ?_
     try simp only [thenL,blockL,↓reduceIte,reduceCtorEq]
     refine lok_seq ?_
     refine zz9 ?_
     replace H1:=req_some H1
     obtain⟨q_10,H1⟩:=H1
     refine lok_rt E0 (⟨46,mkS [(0,xS 9 za9 l),(6,xV 119),(7,xI v),(8,xI (ix y v)),(20,xL y),(21,xI (y.length:Int)),(22,xI v)],mkH [(119,bA 9 za9 w2)]⟩) ?_
     replace H1:=req_some H1
     obtain⟨⟨q_8,q_9⟩,H1⟩:=H1
     replace H1:=zp1 H1
     obtain⟨w4,a_3,H1⟩:=H1
     refine lok_rtg E0 a_3 (⟨46,mkS [(0,xS 9 za9 l),(6,xV 119),(7,xI v),(8,xI (ix y v)),(20,xL y),(21,xI (y.length:Int)),(22,xI v)],mkH [(119,bA 9 za9 w4)]⟩) ?_
     replace H1:=req_some H1
     obtain⟨q_6,H1⟩:=H1
     replace H1:=bind_some H1
     obtain⟨y2,h_4,H1⟩:=H1
     replace H1:=req_some H1
     obtain⟨q_7,H1⟩:=H1
     replace H1:=zp1 H1
     obtain⟨w5,a_5,H1⟩:=H1
     refine lok_rlg (Env.of E0 [⟨some 41,60,[oL ((ix l (ix y v)).Candidates)],[],[oL y2],[],True,fun _=>ok_slices_Clone_intint ((ix l (ix y v)).Candidates) y2 h_4,[]⟩]) a_5 (⟨46,mkS [(0,xS 9 za9 l),(6,xV 119),(20,xL y),(21,xI (y.length:Int)),(22,xI v)],mkH [(119,bA 9 za9 w5)]⟩) ?_
     try simp only [thenL,blockL,↓reduceIte,reduceCtorEq]
     refine lok_rl E0 (⟨46,mkS [(0,xS 9 za9 l),(6,xV 119),(20,xL y),(21,xI (y.length:Int)),(22,xI (IntKind.i64.wrap (v+(1:Int))))],mkH [(119,bA 9 za9 w5)]⟩) ?_
     try simp only [thenL,blockL,↓reduceIte,reduceCtorEq]
     exact⟨((IntKind.i64.wrap (v+(1:Int))),w5),(Option.some.inj H1).symm,imp_au⟩
    ·intro b_11
     replace H1:=cneg H1 b_11
     refine lok_exit ?_
     try simp only [thenL,blockL,↓reduceIte,reduceCtorEq]
     have e_1:=k_1 _ (Option.some.inj H1).symm
     subst e_1
     try dsimp only at H0
     try simp only [thenL,blockL,↓reduceIte,reduceCtorEq]
     exact⟨w2,H0,imp_au⟩
theorem ok_custody_isBag (n:Int) (r_:Bool) (H0:zK1 n=some r_):CallOK Tryz.prog 87 [.one (.p (pi n))] [] [.one (.p (.val (.bool r_)))] []:=by
 refine callOK (n:=9) (rs:=[.tmp 2]) (nb:=0) (V:=[]) Tryz.func87 rfl (by kernel_rfl) rfl rfl rfl rfl (Nat.le_of_ble_eq_true rfl) (by decide) ?_
 unfold zK1 at H0
 refine lok_rt E0 (⟨9,mkS [(0,xI n)],mkH []⟩) ?_
 refine lok_rt E0 (⟨9,mkS [(2,xB ((decide ((0:Int)≤n))&&(decide (n≤(9999:Int)))))],mkH []⟩) ?_
 refine lok_ret ?_
 try obtain rfl:=Option.some.inj H0
 try simp only [thenL,blockL]
 exact fin_au _ (.inr rfl) [] (⟨9,mkS [(2,xB ((decide ((0:Int)≤n))&&(decide (n≤(9999:Int)))))],mkH []⟩) rfl rfl imp_au
theorem ok_custody_isSeal (n:Int) (r_:Bool) (H0:zJ1 n=some r_):CallOK Tryz.prog 88 [.one (.p (pi n))] [] [.one (.p (.val (.bool r_)))] []:=by
 refine callOK (n:=9) (rs:=[.tmp 2]) (nb:=0) (V:=[]) Tryz.func88 rfl (by kernel_rfl) rfl rfl rfl rfl (Nat.le_of_ble_eq_true rfl) (by decide) ?_
 unfold zJ1 at H0
 refine lok_rt E0 (⟨9,mkS [(0,xI n)],mkH []⟩) ?_
 refine lok_rt E0 (⟨9,mkS [(2,xB ((decide ((0:Int)≤n))&&(decide (n≤(1000000:Int)))))],mkH []⟩) ?_
 refine lok_ret ?_
 try obtain rfl:=Option.some.inj H0
 try simp only [thenL,blockL]
 exact fin_au _ (.inr rfl) [] (⟨9,mkS [(2,xB ((decide ((0:Int)≤n))&&(decide (n≤(1000000:Int)))))],mkH []⟩) rfl rfl imp_au
theorem ok_custody_isHolder (n:Int) (r_:Bool) (H0:zo1 n=some r_):CallOK Tryz.prog 89 [.one (.p (pi n))] [] [.one (.p (.val (.bool r_)))] []:=by
 refine callOK (n:=9) (rs:=[.tmp 2]) (nb:=0) (V:=[]) Tryz.func89 rfl (by kernel_rfl) rfl rfl rfl rfl (Nat.le_of_ble_eq_true rfl) (by decide) ?_
 unfold zo1 at H0
 refine lok_rt E0 (⟨9,mkS [(0,xI n)],mkH []⟩) ?_
 refine lok_rt E0 (⟨9,mkS [(2,xB ((decide ((0:Int)≤n))&&(decide (n≤(99:Int)))))],mkH []⟩) ?_
 refine lok_ret ?_
 try obtain rfl:=Option.some.inj H0
 try simp only [thenL,blockL]
 exact fin_au _ (.inr rfl) [] (⟨9,mkS [(2,xB ((decide ((0:Int)≤n))&&(decide (n≤(99:Int)))))],mkH []⟩) rfl rfl imp_au
theorem ok_custody_sorted (l:List Int) (r_:Bool) (H0:custody_sorted l=some r_):CallOK Tryz.prog 90 [.one (.p (.sl 1 (List.map encI l)))] [] [.one (.p (.val (.bool r_)))] []:=by
 refine callOK (n:=35) (rs:=[.tmp 2]) (nb:=0) (V:=[]) Tryz.func90 rfl (by kernel_rfl) rfl rfl rfl rfl (Nat.le_of_ble_eq_true rfl) (by decide) ?_
 unfold custody_sorted at H0
 refine lok_rt E0 (⟨35,mkS [(0,xL l)],mkH []⟩) ?_
 refine lok_seq ?_
 refine lok_rt E0 (⟨35,mkS [(0,xL l),(7,xB (decide ((60:Int)<(l.length:Int))))],mkH []⟩) ?_
 refine lok_c (decide ((60:Int)<(l.length:Int))) ?_ ?_
 ·intro b_5
  replace H0:=cpos H0 b_5
  refine lok_rt E0 (⟨35,mkS [(2,xB false)],mkH []⟩) ?_
  refine lok_ret ?_
  try obtain rfl:=Option.some.inj H0
  try simp only [thenL,blockL]
  exact fin_au _ (.inr rfl) [] (⟨35,mkS [(2,xB false)],mkH []⟩) rfl rfl imp_au
 ·intro b_5
  replace H0:=cneg H0 b_5
  refine lok_skip ?_
  try simp only [thenL,blockL,↓reduceIte,reduceCtorEq]
  refine lok_join (fun x_:Unit=>custody_sorted_j1=some r_) (fun x_=>⟨35,mkS [],mkH []⟩) ?hycustody_sorted_j1 ?hxcustody_sorted_j1
  case hycustody_sorted_j1=>
   rintro _ H0
   try dsimp only at H0 ⊢
   unfold custody_sorted_j1 at H0
   refine lok_rt E0 (⟨35,mkS [(2,xB true)],mkH []⟩) ?_
   refine lok_ret ?_
   try obtain rfl:=Option.some.inj H0
   try simp only [thenL,blockL]
   exact fin_au _ (.inr rfl) [] (⟨35,mkS [(2,xB true)],mkH []⟩) rfl rfl imp_au
  case hxcustody_sorted_j1=>
   refine lok_rt E0 (⟨35,mkS [(0,xL l),(8,xL l),(9,xI (l.length:Int)),(10,xI (0:Int))],mkH []⟩) ?_
   refine zz9 ?_
   replace H0:=bind_some H0
   obtain⟨v_0,hv_0,H0⟩:=H0
   refine lok_iter (fun x_=>⟨35,mkS [(0,xL l),(8,xL l),(9,xI (l.length:Int)),(10,xI x_)],mkH []⟩) hv_0 imp_au ?_
   ·rintro v o_1 H1 k_1
    unfold zS1 at H1
    try dsimp only at H1 ⊢
    refine lok_rt E0 (⟨35,mkS [(0,xL l),(8,xL l),(9,xI (l.length:Int)),(10,xI v),(11,xB (decide (v<(l.length:Int))))],mkH []⟩) ?_
    refine lok_seq ?_
    refine lok_c (decide (v<(l.length:Int))) ?_ ?_
    ·intro b_4
     replace H1:=cpos H1 b_4
     refine lok_skip ?_
     try simp only [thenL,blockL,↓reduceIte,reduceCtorEq]
     refine lok_seq ?_
     refine zz9 ?_
     replace H1:=req_some H1
     obtain⟨q_3,H1⟩:=H1
     refine lok_rt E0 (⟨35,mkS [(0,xL l),(3,xI v),(4,xI (ix l v)),(8,xL l),(9,xI (l.length:Int)),(10,xI v)],mkH []⟩) ?_
     replace H1:=req_some H1
     obtain⟨q_2,H1⟩:=H1
     refine lok_rt E0 (⟨35,mkS [(0,xL l),(8,xL l),(9,xI (l.length:Int)),(10,xI v),(33,xB (((decide ((ix l v)<(0:Int)))||(decide ((9999:Int)<(ix l v))))||((decide ((0:Int)<v))&&(decide ((ix l v)≤(ix l (IntKind.i64.wrap (v - (1:Int)))))))))],mkH []⟩) ?_
     refine lok_c (((decide ((ix l v)<(0:Int)))||(decide ((9999:Int)<(ix l v))))||((decide ((0:Int)<v))&&(decide ((ix l v)≤(ix l (IntKind.i64.wrap (v - (1:Int)))))))) ?_ ?_
     ·intro b_1
      replace H1:=cpos H1 b_1
      refine lok_rt E0 (⟨35,mkS [(2,xB false)],mkH []⟩) ?_
      refine lok_ret ?_
      try simp only [thenL,blockL,↓reduceIte,reduceCtorEq]
      have e_1:=k_1 _ (Option.some.inj H1).symm
      subst e_1
      try dsimp only at H0
      try obtain rfl:=Option.some.inj H0
      try simp only [thenL,blockL]
      exact fin_au _ (.inr rfl) [] (⟨35,mkS [(2,xB false)],mkH []⟩) rfl rfl imp_au
     ·intro b_1
      replace H1:=cneg H1 b_1
      refine lok_skip ?_
      try simp only [thenL,blockL,↓reduceIte,reduceCtorEq]
      refine lok_rl E0 (⟨35,mkS [(0,xL l),(8,xL l),(9,xI (l.length:Int)),(10,xI (IntKind.i64.wrap (v+(1:Int))))],mkH []⟩) ?_
      try simp only [thenL,blockL,↓reduceIte,reduceCtorEq]
      exact⟨(IntKind.i64.wrap (v+(1:Int))),(Option.some.inj H1).symm,imp_au⟩
    ·intro b_4
     replace H1:=cneg H1 b_4
     refine lok_exit ?_
     try simp only [thenL,blockL,↓reduceIte,reduceCtorEq]
     have e_1:=k_1 _ (Option.some.inj H1).symm
     subst e_1
     try dsimp only at H0
     try simp only [thenL,blockL,↓reduceIte,reduceCtorEq]
     exact⟨(),H0,imp_au⟩
theorem ok_custody_outOfRange (e:zh9) (r_:Bool) (H0:zN1 e=some r_):CallOK Tryz.prog 64 [.agg [.p (pi e.Stamp.Time),.p (pi e.Stamp.Source),.p (pi e.Stamp.Seq),.p (pi e.Kind),.p (pi e.Bag),.p (pi e.Seal),.p (pi e.From),.p (pi e.To),.p (.sl 1 (List.map encI e.Candidates))]] [] [.one (.p (.val (.bool r_)))] []:=by
 refine callOK (n:=44) (rs:=[.tmp 2]) (nb:=0) (V:=[]) Tryz.func64 rfl (by kernel_rfl) rfl rfl rfl rfl (Nat.le_of_ble_eq_true rfl) (by decide) ?_
 unfold zN1 at H0
 refine lok_rt E0 (⟨44,mkS [(1,xP 101 0)],mkH [(101,.var [pI e.Stamp.Time,pI e.Stamp.Source,pI e.Stamp.Seq,pI e.Kind,pI e.Bag,pI e.Seal,pI e.From,pI e.To,pL e.Candidates])]⟩) ?_
 refine lok_seq ?_
 replace H0:=req_some H0
 obtain⟨⟨q_6,q_7,q_8⟩,H0⟩:=H0
 refine lok_rt (Env.of E0 [⟨some 14,87,[oI e.Bag],[],[oB ((zK1 e.Bag).getD default)],[],(zK1 e.Bag).isSome=true,fun h=>ok_custody_isBag e.Bag _ (zL1 h),[]⟩,
   ⟨some 20,88,[oI e.Seal],[],[oB ((zJ1 e.Seal).getD default)],[],(zJ1 e.Seal).isSome=true,fun h=>ok_custody_isSeal e.Seal _ (zL1 h),[]⟩,
   ⟨some 26,89,[oI e.From],[],[oB ((zo1 e.From).getD default)],[],(zo1 e.From).isSome=true,fun h=>ok_custody_isHolder e.From _ (zL1 h),[]⟩]) (⟨44,mkS [(1,xP 101 0),(28,xB (((((decide (e.Kind<(1:Int)))||(decide ((4:Int)<e.Kind)))||(!((zK1 e.Bag).getD default)))||(!((zJ1 e.Seal).getD default)))||(!((zo1 e.From).getD default))))],mkH [(101,.var [pI e.Stamp.Time,pI e.Stamp.Source,pI e.Stamp.Seq,pI e.Kind,pI e.Bag,pI e.Seal,pI e.From,pI e.To,pL e.Candidates])]⟩) ?_
 refine lok_c (((((decide (e.Kind<(1:Int)))||(decide ((4:Int)<e.Kind)))||(!((zK1 e.Bag).getD default)))||(!((zJ1 e.Seal).getD default)))||(!((zo1 e.From).getD default))) ?_ ?_
 ·intro b_5
  replace H0:=cpos H0 b_5
  refine lok_rt E0 (⟨44,mkS [(2,xB true)],mkH []⟩) ?_
  refine lok_ret ?_
  try obtain rfl:=Option.some.inj H0
  try simp only [thenL,blockL]
  exact fin_au _ (.inr rfl) [] (⟨44,mkS [(2,xB true)],mkH []⟩) rfl rfl imp_au
 ·intro b_5
  replace H0:=cneg H0 b_5
  refine lok_skip ?_
  try simp only [thenL,blockL,↓reduceIte,reduceCtorEq]
  refine lok_seq ?_
  refine lok_rt E0 (⟨44,mkS [(1,xP 101 0),(30,xI e.Kind)],mkH [(101,.var [pI e.Stamp.Time,pI e.Stamp.Source,pI e.Stamp.Seq,pI e.Kind,pI e.Bag,pI e.Seal,pI e.From,pI e.To,pL e.Candidates])]⟩) ?_
  refine zz9 ?_
  refine lok_rt E0 (⟨44,mkS [(1,xP 101 0),(30,xI e.Kind),(31,xB (e.Kind==(2:Int)))],mkH [(101,.var [pI e.Stamp.Time,pI e.Stamp.Source,pI e.Stamp.Seq,pI e.Kind,pI e.Bag,pI e.Seal,pI e.From,pI e.To,pL e.Candidates])]⟩) ?_
  refine lok_c (e.Kind==(2:Int)) ?_ ?_
  ·intro b_4
   replace H0:=cpos H0 b_4
   replace H0:=bind_some H0
   obtain⟨y,h_0,H0⟩:=H0
   refine lok_rt (Env.of E0 [⟨some 35,89,[oI e.To],[],[oB y],[],True,fun _=>ok_custody_isHolder e.To y h_0,[]⟩]) (⟨44,mkS [(2,xB (!y))],mkH []⟩) ?_
   refine lok_ret ?_
   try obtain rfl:=Option.some.inj H0
   try simp only [thenL,blockL]
   exact fin_au _ (.inr rfl) [] (⟨44,mkS [(2,xB (!y))],mkH []⟩) rfl rfl imp_au
  ·intro b_4
   replace H0:=cneg H0 b_4
   refine lok_join (fun x_:Bool=>zw1 e x_=some r_) (fun x_=>⟨44,mkS [(1,xP 101 0),(37,xB x_)],mkH [(101,.var [pI e.Stamp.Time,pI e.Stamp.Source,pI e.Stamp.Seq,pI e.Kind,pI e.Bag,pI e.Seal,pI e.From,pI e.To,pL e.Candidates])]⟩) ?hycustody_outOfRange_j1 ?hxcustody_outOfRange_j1
   case hycustody_outOfRange_j1=>
    rintro v H0
    try dsimp only at H0 ⊢
    unfold zw1 at H0
    refine lok_c v ?_ ?_
    ·intro b_2
     replace H0:=cpos H0 b_2
     replace H0:=bind_some H0
     obtain⟨y1,h_1,H0⟩:=H0
     refine lok_rt (Env.of E0 [⟨some 42,90,[oL e.Candidates],[],[oB y1],[],True,fun _=>ok_custody_sorted e.Candidates y1 h_1,[]⟩]) (⟨44,mkS [(2,xB (!y1))],mkH []⟩) ?_
     refine lok_ret ?_
     try obtain rfl:=Option.some.inj H0
     try simp only [thenL,blockL]
     exact fin_au _ (.inr rfl) [] (⟨44,mkS [(2,xB (!y1))],mkH []⟩) rfl rfl imp_au
    ·intro b_2
     replace H0:=cneg H0 b_2
     refine lok_skip ?_
     try simp only [thenL,blockL,↓reduceIte,reduceCtorEq]
     refine lok_rt E0 (⟨44,mkS [(2,xB false)],mkH []⟩) ?_
     refine lok_ret ?_
     try obtain rfl:=Option.some.inj H0
     try simp only [thenL,blockL]
     exact fin_au _ (.inr rfl) [] (⟨44,mkS [(2,xB false)],mkH []⟩) rfl rfl imp_au
   case hxcustody_outOfRange_j1=>
    refine lok_rt E0 (⟨44,mkS [(1,xP 101 0),(30,xI e.Kind),(37,xB (e.Kind==(1:Int)))],mkH [(101,.var [pI e.Stamp.Time,pI e.Stamp.Source,pI e.Stamp.Seq,pI e.Kind,pI e.Bag,pI e.Seal,pI e.From,pI e.To,pL e.Candidates])]⟩) ?_
    refine lok_c (e.Kind==(1:Int)) ?_ ?_
    ·intro b_3
     replace H0:=cpos H0 b_3
     refine lok_skip ?_
     try simp only [thenL,blockL,↓reduceIte,reduceCtorEq]
     exact⟨(e.Kind==(1:Int)),H0,imp_au⟩
    ·intro b_3
     replace H0:=cneg H0 b_3
     refine lok_rl E0 (⟨44,mkS [(1,xP 101 0),(37,xB (e.Kind==(3:Int)))],mkH [(101,.var [pI e.Stamp.Time,pI e.Stamp.Source,pI e.Stamp.Seq,pI e.Kind,pI e.Bag,pI e.Seal,pI e.From,pI e.To,pL e.Candidates])]⟩) ?_
     try simp only [thenL,blockL,↓reduceIte,reduceCtorEq]
     exact⟨(e.Kind==(3:Int)),H0,imp_au⟩
theorem ok_custody_step_f1 (b:api_Bag) (n:Int) (r_:Int) (H0:zz1 b n=some r_):CallOK Tryz.prog 62 [.agg [.p (pi b.Bag),.p (pi b.Holder),.p (.val (.bool b.Open)),.p (.sl 1 (List.map encI b.Seals)),.p (.sl 1 (List.map encI b.Packed)),.p (.sl 1 (List.map encI b.Found))],.one (.p (pi n))] [] [.one (.p (pi r_))] []:=by
 refine callOK (n:=9) (rs:=[.tmp 4]) (nb:=0) (V:=[]) Tryz.func62 rfl (by kernel_rfl) rfl rfl rfl rfl (Nat.le_of_ble_eq_true rfl) (by decide) ?_
 unfold zz1 at H0
 refine lok_rt E0 (⟨9,mkS [(1,xI n),(2,xP 102 0)],mkH [(102,.var [pI b.Bag,pI b.Holder,.p (.val (.bool b.Open)),pL b.Seals,pL b.Packed,pL b.Found])]⟩) ?_
 replace H0:=bind_some H0
 obtain⟨y,h_0,H0⟩:=H0
 refine lok_rt (Env.of E0 [⟨some 8,55,[oI b.Bag,oI n],[],[oI y],[],True,fun _=>ok_cmp_Compare_int b.Bag n y h_0,[]⟩]) (⟨9,mkS [(4,xI y)],mkH []⟩) ?_
 refine lok_ret ?_
 try obtain rfl:=Option.some.inj H0
 try simp only [thenL,blockL]
 exact fin_au _ (.inr rfl) [] (⟨9,mkS [(4,xI y)],mkH []⟩) rfl rfl imp_au
theorem zi1 (x:List api_Bag) (target:Int) (r_:Int×Bool) (H0:zt9 x target=some r_):CallOK Tryz.prog 61 [.one (.p (.sl 6 (List.map zo9 x))),.one (.p (pi target)),.one (.fn 62 [])] [] [.one (.p (pi r_.1)),.one (.p (.val (.bool r_.2)))] []:=by
 refine callOK (n:=49) (rs:=[.tmp 6,.tmp 7]) (nb:=0) (V:=[]) Tryz.func61 rfl (by kernel_rfl) rfl rfl rfl rfl (Nat.le_of_ble_eq_true rfl) (by decide) ?_
 unfold zt9 at H0
 refine lok_rt E0 (⟨49,mkS [(0,xS 6 zo9 x),(1,xI target),(2,.x (.one (.fn 62 [])))],mkH []⟩) ?_
 refine lok_rt E0 (⟨49,mkS [(0,xS 6 zo9 x),(1,xI target),(2,.x (.one (.fn 62 []))),(8,xI (x.length:Int))],mkH []⟩) ?_
 refine lok_rt E0 (⟨49,mkS [(0,xS 6 zo9 x),(1,xI target),(2,.x (.one (.fn 62 []))),(8,xI (x.length:Int)),(9,xI (0:Int)),(10,xI (x.length:Int))],mkH []⟩) ?_
 refine lok_join (fun x_:Int=>zw9 x target x_=some r_) (fun x_=>⟨49,mkS [(0,xS 6 zo9 x),(1,xI target),(2,.x (.one (.fn 62 []))),(8,xI (x.length:Int)),(9,xI x_)],mkH []⟩) ?zf1 ?zh1
 case zf1=>
  rintro i H0
  try dsimp only at H0 ⊢
  unfold zw9 at H0
  replace H0:=req_some H0
  obtain⟨⟨q_0,q_1⟩,H0⟩:=H0
  refine lok_rt (Env.of E0 [⟨some 46,62,[.agg [pI ((ix x i).Bag),pI ((ix x i).Holder),.p (.val (.bool ((ix x i).Open))),pL ((ix x i).Seals),pL ((ix x i).Packed),pL ((ix x i).Found)],oI target],[],[oI ((zz1 (ix x i) target).getD default)],[],(zz1 (ix x i) target).isSome=true,fun h=>ok_custody_step_f1 (ix x i) target _ (zL1 h),[]⟩]) (⟨49,mkS [(6,xI i),(7,xB ((decide (i<(x.length:Int)))&&(((zz1 (ix x i) target).getD default)==(0:Int))))],mkH []⟩) ?_
  refine lok_ret ?_
  try obtain rfl:=Option.some.inj H0
  try simp only [thenL,blockL]
  exact fin_au _ (.inr rfl) [] (⟨49,mkS [(6,xI i),(7,xB ((decide (i<(x.length:Int)))&&(((zz1 (ix x i) target).getD default)==(0:Int))))],mkH []⟩) rfl rfl imp_au
 case zh1=>
  refine zz9 ?_
  replace H0:=bind_some H0
  obtain⟨v_2,hv_2,H0⟩:=H0
  refine lok_iter (fun x_=>⟨49,mkS [(0,xS 6 zo9 x),(1,xI target),(2,.x (.one (.fn 62 []))),(8,xI (x.length:Int)),(9,xI x_.1),(10,xI x_.2)],mkH []⟩) hv_2 imp_au ?_
  ·rintro⟨i1,j⟩ o_1 H1 k_1
   unfold zr9 at H1
   try dsimp only at H1 ⊢
   refine lok_seq ?_
   refine lok_rt E0 (⟨49,mkS [(0,xS 6 zo9 x),(1,xI target),(2,.x (.one (.fn 62 []))),(8,xI (x.length:Int)),(9,xI i1),(10,xI j),(17,xB (decide (i1<j)))],mkH []⟩) ?_
   refine lok_c (decide (i1<j)) ?_ ?_
   ·intro b_7
    replace H1:=cpos H1 b_7
    refine lok_skip ?_
    try simp only [thenL,blockL,↓reduceIte,reduceCtorEq]
    refine zz9 ?_
    replace H1:=zp1 H1
    obtain⟨h,a_3,H1⟩:=H1
    refine lok_rtg E0 a_3 (⟨49,mkS [(0,xS 6 zo9 x),(1,xI target),(2,.x (.one (.fn 62 []))),(8,xI (x.length:Int)),(9,xI i1),(10,xI j),(11,xI h)],mkH []⟩) ?_
    replace H1:=req_some H1
    obtain⟨q_6,H1⟩:=H1
    replace H1:=bind_some H1
    obtain⟨y,h_4,H1⟩:=H1
    refine lok_rt (Env.of E0 [⟨some 30,62,[.agg [pI ((ix x h).Bag),pI ((ix x h).Holder),.p (.val (.bool ((ix x h).Open))),pL ((ix x h).Seals),pL ((ix x h).Packed),pL ((ix x h).Found)],oI target],[],[oI y],[],True,fun _=>ok_custody_step_f1 (ix x h) target y h_4,[]⟩]) (⟨49,mkS [(0,xS 6 zo9 x),(1,xI target),(2,.x (.one (.fn 62 []))),(8,xI (x.length:Int)),(9,xI i1),(10,xI j),(11,xI h),(31,xB (decide (y<(0:Int))))],mkH []⟩) ?_
    refine lok_c (decide (y<(0:Int))) ?_ ?_
    ·intro b_5
     replace H1:=cpos H1 b_5
     refine lok_rl E0 (⟨49,mkS [(0,xS 6 zo9 x),(1,xI target),(2,.x (.one (.fn 62 []))),(8,xI (x.length:Int)),(9,xI (IntKind.i64.wrap (h+(1:Int)))),(10,xI j)],mkH []⟩) ?_
     try simp only [thenL,blockL,↓reduceIte,reduceCtorEq]
     exact⟨((IntKind.i64.wrap (h+(1:Int))),j),(Option.some.inj H1).symm,imp_au⟩
    ·intro b_5
     replace H1:=cneg H1 b_5
     refine lok_rl E0 (⟨49,mkS [(0,xS 6 zo9 x),(1,xI target),(2,.x (.one (.fn 62 []))),(8,xI (x.length:Int)),(9,xI i1),(10,xI h)],mkH []⟩) ?_
     try simp only [thenL,blockL,↓reduceIte,reduceCtorEq]
     exact⟨(i1,h),(Option.some.inj H1).symm,imp_au⟩
   ·intro b_7
    replace H1:=cneg H1 b_7
    refine lok_exit ?_
    try simp only [thenL,blockL,↓reduceIte,reduceCtorEq]
    have e_1:=k_1 _ (Option.some.inj H1).symm
    subst e_1
    try dsimp only at H0
    try simp only [thenL,blockL,↓reduceIte,reduceCtorEq]
    exact⟨i1,H0,imp_au⟩
theorem bag_enc (l:List api_Bag):List.map zo9 l=(l.map toBg).map encBg:=by rw [List.map_map]; rfl
theorem bag_enc' (l:List Bg):List.map zo9 (l.map ofBg)=l.map encBg:=by rw [List.map_map]; rfl
theorem ok_custody_step (l:List api_Bag) (e:zh9) (r_:List api_Bag×Int) (H0:custody_step l e=some r_):CallOK Tryz.prog 37 [.one (.p (.sl 6 (List.map zo9 l))),.agg [.p (pi e.Stamp.Time),.p (pi e.Stamp.Source),.p (pi e.Stamp.Seq),.p (pi e.Kind),.p (pi e.Bag),.p (pi e.Seal),.p (pi e.From),.p (pi e.To),.p (.sl 1 (List.map encI e.Candidates))]] [] [.one (.p (.sl 6 (List.map zo9 r_.1))),.one (.p (pi r_.2))] []:=by
 unfold custody_step at H0
 obtain⟨rng,h1,H0⟩:=bind_some H0
 obtain⟨⟨pl,th⟩,h2,H0⟩:=bind_some H0
 obtain⟨⟨c1,c2,c3,c4,c5,c6⟩,H0⟩:=req_some H0
 obtain rfl:=Option.some.inj H0
 dsimp only at c4 c5 c6 ⊢
 rw [bag_enc',bag_enc]
 refine ok_stepB (l.map toBg) (toEvt e) rng th pl.toNat (by rw [List.length_map]; exact c1) (fun y hy=>?_) c3 (by rw [List.length_map]; omega) (fun h=>by rw [List.length_map]; have:=c6 h; omega) (ok_custody_outOfRange e rng h1) ?_
 ·obtain⟨b,hb,rfl⟩:=List.mem_map.1 hy
  exact c2 b hb
 ·have:=zi1 l e.Bag (pl,th) h2
  rw [bag_enc] at this
  rw [Int.toNat_of_nonneg c4]
  exact this
set_option maxHeartbeats 4000000 in
theorem ok_custody_Fold (l:List zh9) (until_:Int) (r_:(List api_Bag)×(List zu9)×Int) (H0:zT1 l until_=some r_):CallOK Tryz.prog 13 [.one (.p (.sl 9 (List.map za9 l))),.one (.p (pi until_))] [] [.one (.p (.sl 6 (List.map zo9 r_.1))),.one (.p (.sl 3 (List.map zn9 r_.2.1))),.one (.p (pi r_.2.2))] []:=by
 refine callOK (n:=58) (rs:=[.tmp 4,.tmp 5,.tmp 6]) (nb:=0) (V:=[]) Tryz.func13 rfl (by kernel_rfl) rfl rfl rfl rfl (Nat.le_of_ble_eq_true rfl) (by decide) ?_
 unfold zT1 at H0
 refine lok_rt E0 (⟨58,mkS [(0,xS 9 za9 l),(1,xI until_)],mkH []⟩) ?_
 replace H0:=bind_some H0
 obtain⟨⟨y,y1⟩,h_0,H0⟩:=H0
 try dsimp only at H0
 refine lok_rt (Env.of E0 [⟨some 17,36,[oS 9 za9 l],[],[oS 9 za9 y,oI y1],[],True,fun _=>ok_custody_Canonical l (y,y1) h_0,[]⟩]) (⟨58,mkS [(1,xI until_),(7,xS 9 za9 y),(8,xI y1)],mkH []⟩) ?_
 refine lok_seq ?_
 refine lok_rt E0 (⟨58,mkS [(1,xI until_),(7,xS 9 za9 y),(8,xI y1),(21,xB (y1 != (0:Int)))],mkH []⟩) ?_
 refine lok_c (y1 != (0:Int)) ?_ ?_
 ·intro b_9
  replace H0:=cpos H0 b_9
  refine lok_rt E0 (⟨58,mkS [(4,xV 104),(5,xV 105),(6,xI y1)],mkH [(104,bA 6 zo9 ([]:List api_Bag)),(105,bA 3 zn9 ([]:List zu9))]⟩) ?_
  refine lok_ret ?_
  try obtain rfl:=Option.some.inj H0
  try simp only [thenL,blockL]
  exact fin_au _ (.inr rfl) [] (⟨58,mkS [(4,xS 6 zo9 ([]:List api_Bag)),(5,xS 3 zn9 ([]:List zu9)),(6,xI y1)],mkH []⟩) rfl rfl (Imp.trans (imp_frz 104 6 (List.map zo9 ([]:List api_Bag))) (Imp.trans (imp_frz 105 3 (List.map zn9 ([]:List zu9))) imp_au))
 ·intro b_9
  replace H0:=cneg H0 b_9
  refine lok_skip ?_
  try simp only [thenL,blockL,↓reduceIte,reduceCtorEq]
  refine lok_rt E0 (⟨58,mkS [(1,xI until_),(7,xS 9 za9 y),(9,xV 109)],mkH [(109,bA 6 zo9 ([]:List api_Bag))]⟩) ?_
  refine lok_rt E0 (⟨58,mkS [(1,xI until_),(7,xS 9 za9 y),(9,xV 109),(10,xV 110)],mkH [(109,bA 6 zo9 ([]:List api_Bag)),(110,bA 3 zn9 ([]:List zu9))]⟩) ?_
  refine lok_join (fun x_:(List api_Bag)×(List zu9)=>custody_Fold_j1 x_.1 x_.2=some r_) (fun x_=>⟨58,mkS [(9,xS 6 zo9 x_.1),(10,xV 110)],mkH [(110,bA 3 zn9 x_.2)]⟩) ?hycustody_Fold_j1 ?hxcustody_Fold_j1
  case hycustody_Fold_j1=>
   rintro⟨bags,refused⟩ H0
   try dsimp only at H0 ⊢
   unfold custody_Fold_j1 at H0
   refine lok_rt E0 (⟨58,mkS [(4,xS 6 zo9 bags),(5,xV 110),(6,xI (0:Int))],mkH [(110,bA 3 zn9 refused)]⟩) ?_
   refine lok_ret ?_
   try obtain rfl:=Option.some.inj H0
   try simp only [thenL,blockL]
   exact fin_au _ (.inr rfl) [] (⟨58,mkS [(4,xS 6 zo9 bags),(5,xS 3 zn9 refused),(6,xI (0:Int))],mkH []⟩) rfl rfl (Imp.trans (imp_frz 110 3 (List.map zn9 refused)) imp_au)
  case hxcustody_Fold_j1=>
   refine lok_rt E0 (⟨58,mkS [(1,xI until_),(9,xV 109),(10,xV 110),(23,xS 9 za9 y),(24,xI (y.length:Int)),(25,xI (0:Int))],mkH [(109,bA 6 zo9 ([]:List api_Bag)),(110,bA 3 zn9 ([]:List zu9))]⟩) ?_
   refine zz9 ?_
   replace H0:=bind_some H0
   obtain⟨v_1,hv_1,H0⟩:=H0
   refine lok_iter (fun x_=>⟨58,mkS [(1,xI until_),(9,xS 6 zo9 x_.1),(10,xV 110),(23,xS 9 za9 y),(24,xI (y.length:Int)),(25,xI x_.2.1)],mkH [(110,bA 3 zn9 x_.2.2)]⟩) hv_1 (Imp.trans (imp_frz 109 6 (List.map zo9 ([]:List api_Bag))) imp_au) ?_
   ·rintro⟨bags1,v,refused1⟩ o_1 H1 k_1
    unfold custody_Fold_l3 at H1
    try dsimp only at H1 ⊢
    refine lok_rt E0 (⟨58,mkS [(1,xI until_),(9,xS 6 zo9 bags1),(10,xV 110),(23,xS 9 za9 y),(24,xI (y.length:Int)),(25,xI v),(26,xB (decide (v<(y.length:Int))))],mkH [(110,bA 3 zn9 refused1)]⟩) ?_
    refine lok_seq ?_
    refine lok_c (decide (v<(y.length:Int))) ?_ ?_
    ·intro b_8
     replace H1:=cpos H1 b_8
     refine lok_skip ?_
     try simp only [thenL,blockL,↓reduceIte,reduceCtorEq]
     refine lok_join (fun x_:(List api_Bag)×(List zu9)=>custody_Fold_j2 v x_.1 x_.2=some o_1) (fun x_=>⟨58,mkS [(1,xI until_),(9,xS 6 zo9 x_.1),(10,xV 110),(23,xS 9 za9 y),(24,xI (y.length:Int)),(25,xI v)],mkH [(110,bA 3 zn9 x_.2)]⟩) ?hycustody_Fold_j2 ?hxcustody_Fold_j2
     case hycustody_Fold_j2=>
      rintro⟨bags3,refused3⟩ H1
      try dsimp only at H1 ⊢
      unfold custody_Fold_j2 at H1
      refine lok_rl E0 (⟨58,mkS [(1,xI until_),(9,xS 6 zo9 bags3),(10,xV 110),(23,xS 9 za9 y),(24,xI (y.length:Int)),(25,xI (IntKind.i64.wrap (v+(1:Int))))],mkH [(110,bA 3 zn9 refused3)]⟩) ?_
      try simp only [thenL,blockL,↓reduceIte,reduceCtorEq]
      exact⟨(bags3,(IntKind.i64.wrap (v+(1:Int))),refused3),(Option.some.inj H1).symm,imp_au⟩
     case hxcustody_Fold_j2=>
      refine zz9 ?_
      replace H1:=req_some H1
      obtain⟨q_7,H1⟩:=H1
      refine lok_rt E0 (⟨58,mkS [(1,xI until_),(9,xS 6 zo9 bags1),(10,xV 110),(12,xP 112 0),(23,xS 9 za9 y),(24,xI (y.length:Int)),(25,xI v)],mkH [(110,bA 3 zn9 refused1),(112,.var [pI (((ix y v).Stamp).Time),pI (((ix y v).Stamp).Source),pI (((ix y v).Stamp).Seq),pI ((ix y v).Kind),pI ((ix y v).Bag),pI ((ix y v).Seal),pI ((ix y v).From),pI ((ix y v).To),pL ((ix y v).Candidates)])]⟩) ?_
      refine lok_seq ?_
      refine lok_rt E0 (⟨58,mkS [(1,xI until_),(9,xS 6 zo9 bags1),(10,xV 110),(12,xP 112 0),(23,xS 9 za9 y),(24,xI (y.length:Int)),(25,xI v),(33,xB (decide (until_<((ix y v).Stamp).Time)))],mkH [(110,bA 3 zn9 refused1),(112,.var [pI (((ix y v).Stamp).Time),pI (((ix y v).Stamp).Source),pI (((ix y v).Stamp).Seq),pI ((ix y v).Kind),pI ((ix y v).Bag),pI ((ix y v).Seal),pI ((ix y v).From),pI ((ix y v).To),pL ((ix y v).Candidates)])]⟩) ?_
      refine lok_c (decide (until_<((ix y v).Stamp).Time)) ?_ ?_
      ·intro b_6
       replace H1:=cpos H1 b_6
       refine lok_exit ?_
       try simp only [thenL,blockL,↓reduceIte,reduceCtorEq]
       have e_1:=k_1 _ (Option.some.inj H1).symm
       subst e_1
       try dsimp only at H0
       try simp only [thenL,blockL,↓reduceIte,reduceCtorEq]
       exact⟨(bags1,refused1),H0,imp_au⟩
      ·intro b_6
       replace H1:=cneg H1 b_6
       refine lok_skip ?_
       try simp only [thenL,blockL,↓reduceIte,reduceCtorEq]
       replace H1:=bind_some H1
       obtain⟨⟨y2,y3⟩,h_2,H1⟩:=H1
       try dsimp only at H1
       refine lok_rt (Env.of E0 [⟨some 37,37,[oS 6 zo9 bags1,.agg [pI (((ix y v).Stamp).Time),pI (((ix y v).Stamp).Source),pI (((ix y v).Stamp).Seq),pI ((ix y v).Kind),pI ((ix y v).Bag),pI ((ix y v).Seal),pI ((ix y v).From),pI ((ix y v).To),pL ((ix y v).Candidates)]],[],[oS 6 zo9 y2,oI y3],[],True,fun _=>ok_custody_step bags1 (zh9.mk ((ix y v).Stamp) ((ix y v).Kind) ((ix y v).Bag) ((ix y v).Seal) ((ix y v).From) ((ix y v).To) ((ix y v).Candidates)) (y2,y3) h_2,[]⟩]) (⟨58,mkS [(1,xI until_),(9,xS 6 zo9 bags1),(10,xV 110),(12,xP 112 0),(13,xS 6 zo9 y2),(14,xI y3),(23,xS 9 za9 y),(24,xI (y.length:Int)),(25,xI v)],mkH [(110,bA 3 zn9 refused1),(112,.var [pI (((ix y v).Stamp).Time),pI (((ix y v).Stamp).Source),pI (((ix y v).Stamp).Seq),pI ((ix y v).Kind),pI ((ix y v).Bag),pI ((ix y v).Seal),pI ((ix y v).From),pI ((ix y v).To),pL ((ix y v).Candidates)])]⟩) ?_
       refine lok_seq ?_
       refine lok_rt E0 (⟨58,mkS [(1,xI until_),(9,xS 6 zo9 bags1),(10,xV 110),(12,xP 112 0),(13,xS 6 zo9 y2),(14,xI y3),(23,xS 9 za9 y),(24,xI (y.length:Int)),(25,xI v),(41,xB (y3 != (0:Int)))],mkH [(110,bA 3 zn9 refused1),(112,.var [pI (((ix y v).Stamp).Time),pI (((ix y v).Stamp).Source),pI (((ix y v).Stamp).Seq),pI ((ix y v).Kind),pI ((ix y v).Bag),pI ((ix y v).Seal),pI ((ix y v).From),pI ((ix y v).To),pL ((ix y v).Candidates)])]⟩) ?_
       refine lok_c (y3 != (0:Int)) ?_ ?_
       ·intro b_5
        replace H1:=cpos H1 b_5
        replace H1:=req_some H1
        obtain⟨q_4,H1⟩:=H1
        replace H1:=zp1 H1
        obtain⟨refused4,a_3,H1⟩:=H1
        refine lok_rtg E0 a_3 (⟨58,mkS [(1,xI until_),(9,xS 6 zo9 bags1),(10,xV 110),(23,xS 9 za9 y),(24,xI (y.length:Int)),(25,xI v)],mkH [(110,bA 3 zn9 refused4)]⟩) ?_
        refine lok_exit ?_
        try simp only [thenL,blockL,↓reduceIte,reduceCtorEq]
        exact⟨(bags1,refused4),H1,imp_au⟩
       ·intro b_5
        replace H1:=cneg H1 b_5
        refine lok_skip ?_
        try simp only [thenL,blockL,↓reduceIte,reduceCtorEq]
        refine lok_rl E0 (⟨58,mkS [(1,xI until_),(9,xS 6 zo9 y2),(10,xV 110),(23,xS 9 za9 y),(24,xI (y.length:Int)),(25,xI v)],mkH [(110,bA 3 zn9 refused1)]⟩) ?_
        try simp only [thenL,blockL,↓reduceIte,reduceCtorEq]
        exact⟨(y2,refused1),H1,imp_au⟩
    ·intro b_8
     replace H1:=cneg H1 b_8
     refine lok_exit ?_
     try simp only [thenL,blockL,↓reduceIte,reduceCtorEq]
     have e_1:=k_1 _ (Option.some.inj H1).symm
     subst e_1
     try dsimp only at H0
     try simp only [thenL,blockL,↓reduceIte,reduceCtorEq]
     exact⟨(bags1,refused1),H0,imp_au⟩
theorem ok_ref06_Ints (a:List Int) (b:List Int) (r_:Bool) (H0:zL9 a b=some r_):CallOK Tryz.prog 39 [.one (.p (.sl 1 (List.map encI a))),.one (.p (.sl 1 (List.map encI b)))] [] [.one (.p (.val (.bool r_)))] []:=by
 refine callOK (n:=26) (rs:=[.tmp 4]) (nb:=0) (V:=[]) Tryz.func39 rfl (by kernel_rfl) rfl rfl rfl rfl (Nat.le_of_ble_eq_true rfl) (by decide) ?_
 unfold zL9 at H0
 refine lok_rt E0 (⟨26,mkS [(0,xL a),(1,xL b)],mkH []⟩) ?_
 refine lok_seq ?_
 refine lok_rt E0 (⟨26,mkS [(0,xL a),(1,xL b),(10,xB ((a.length:Int) != (b.length:Int)))],mkH []⟩) ?_
 refine lok_c ((a.length:Int) != (b.length:Int)) ?_ ?_
 ·intro b_5
  replace H0:=cpos H0 b_5
  refine lok_rt E0 (⟨26,mkS [(4,xB false)],mkH []⟩) ?_
  refine lok_ret ?_
  try obtain rfl:=Option.some.inj H0
  try simp only [thenL,blockL]
  exact fin_au _ (.inr rfl) [] (⟨26,mkS [(4,xB false)],mkH []⟩) rfl rfl imp_au
 ·intro b_5
  replace H0:=cneg H0 b_5
  refine lok_skip ?_
  try simp only [thenL,blockL,↓reduceIte,reduceCtorEq]
  refine lok_join (fun x_:Unit=>ref06_Ints_j1=some r_) (fun x_=>⟨26,mkS [],mkH []⟩) ?hyref06_Ints_j1 ?hxref06_Ints_j1
  case hyref06_Ints_j1=>
   rintro _ H0
   try dsimp only at H0 ⊢
   unfold ref06_Ints_j1 at H0
   refine lok_rt E0 (⟨26,mkS [(4,xB true)],mkH []⟩) ?_
   refine lok_ret ?_
   try obtain rfl:=Option.some.inj H0
   try simp only [thenL,blockL]
   exact fin_au _ (.inr rfl) [] (⟨26,mkS [(4,xB true)],mkH []⟩) rfl rfl imp_au
  case hxref06_Ints_j1=>
   refine lok_rt E0 (⟨26,mkS [(0,xL a),(1,xL b),(5,xI (0:Int))],mkH []⟩) ?_
   refine zz9 ?_
   replace H0:=bind_some H0
   obtain⟨v_0,hv_0,H0⟩:=H0
   refine lok_iter (fun x_=>⟨26,mkS [(0,xL a),(1,xL b),(5,xI x_)],mkH []⟩) hv_0 imp_au ?_
   ·rintro i o_1 H1 k_1
    unfold ref06_Ints_l2 at H1
    try dsimp only at H1 ⊢
    refine lok_seq ?_
    refine lok_rt E0 (⟨26,mkS [(0,xL a),(1,xL b),(5,xI i),(14,xB (decide (i<(a.length:Int))))],mkH []⟩) ?_
    refine lok_c (decide (i<(a.length:Int))) ?_ ?_
    ·intro b_4
     replace H1:=cpos H1 b_4
     refine lok_skip ?_
     try simp only [thenL,blockL,↓reduceIte,reduceCtorEq]
     refine lok_seq ?_
     refine zz9 ?_
     replace H1:=req_some H1
     obtain⟨⟨q_2,q_3⟩,H1⟩:=H1
     refine lok_dt E0 8 (⟨26,mkS [(0,xL a),(1,xL b),(5,xI i),(25,xB ((ix a i) != (ix b i)))],mkH []⟩) (by kernel_rfl) (by kernel_rfl) ?_
     refine lok_c ((ix a i) != (ix b i)) ?_ ?_
     ·intro b_1
      replace H1:=cpos H1 b_1
      refine lok_rt E0 (⟨26,mkS [(4,xB false)],mkH []⟩) ?_
      refine lok_ret ?_
      try simp only [thenL,blockL,↓reduceIte,reduceCtorEq]
      have e_1:=k_1 _ (Option.some.inj H1).symm
      subst e_1
      try dsimp only at H0
      try obtain rfl:=Option.some.inj H0
      try simp only [thenL,blockL]
      exact fin_au _ (.inr rfl) [] (⟨26,mkS [(4,xB false)],mkH []⟩) rfl rfl imp_au
     ·intro b_1
      replace H1:=cneg H1 b_1
      refine lok_skip ?_
      try simp only [thenL,blockL,↓reduceIte,reduceCtorEq]
      refine lok_rl E0 (⟨26,mkS [(0,xL a),(1,xL b),(5,xI (IntKind.i64.wrap (i+(1:Int))))],mkH []⟩) ?_
      try simp only [thenL,blockL,↓reduceIte,reduceCtorEq]
      exact⟨(IntKind.i64.wrap (i+(1:Int))),(Option.some.inj H1).symm,imp_au⟩
    ·intro b_4
     replace H1:=cneg H1 b_4
     refine lok_exit ?_
     try simp only [thenL,blockL,↓reduceIte,reduceCtorEq]
     have e_1:=k_1 _ (Option.some.inj H1).symm
     subst e_1
     try dsimp only at H0
     try simp only [thenL,blockL,↓reduceIte,reduceCtorEq]
     exact⟨(),H0,imp_au⟩
theorem ok_ref17_SameBag (a:api_Bag) (b:api_Bag) (r_:Bool) (H0:ref17_SameBag a b=some r_):CallOK Tryz.prog 38 [.agg [.p (pi a.Bag),.p (pi a.Holder),.p (.val (.bool a.Open)),.p (.sl 1 (List.map encI a.Seals)),.p (.sl 1 (List.map encI a.Packed)),.p (.sl 1 (List.map encI a.Found))],.agg [.p (pi b.Bag),.p (pi b.Holder),.p (.val (.bool b.Open)),.p (.sl 1 (List.map encI b.Seals)),.p (.sl 1 (List.map encI b.Packed)),.p (.sl 1 (List.map encI b.Found))]] [] [.one (.p (.val (.bool r_)))] []:=by
 refine callOK (n:=45) (rs:=[.tmp 4]) (nb:=0) (V:=[]) Tryz.func38 rfl (by kernel_rfl) rfl rfl rfl rfl (Nat.le_of_ble_eq_true rfl) (by decide) ?_
 unfold ref17_SameBag at H0
 refine lok_rt E0 (⟨45,mkS [(2,xP 102 0),(3,xP 103 0)],mkH [(102,.var [pI a.Bag,pI a.Holder,.p (.val (.bool a.Open)),pL a.Seals,pL a.Packed,pL a.Found]),(103,.var [pI b.Bag,pI b.Holder,.p (.val (.bool b.Open)),pL b.Seals,pL b.Packed,pL b.Found])]⟩) ?_
 replace H0:=req_some H0
 obtain⟨⟨q_0,q_1,q_2⟩,H0⟩:=H0
 refine lok_rt (Env.of E0 [⟨some 29,39,[oL a.Seals,oL b.Seals],[],[oB ((zL9 a.Seals b.Seals).getD default)],[],(zL9 a.Seals b.Seals).isSome=true,fun h=>ok_ref06_Ints a.Seals b.Seals _ (zL1 h),[]⟩,
   ⟨some 36,39,[oL a.Packed,oL b.Packed],[],[oB ((zL9 a.Packed b.Packed).getD default)],[],(zL9 a.Packed b.Packed).isSome=true,fun h=>ok_ref06_Ints a.Packed b.Packed _ (zL1 h),[]⟩,
   ⟨some 43,39,[oL a.Found,oL b.Found],[],[oB ((zL9 a.Found b.Found).getD default)],[],(zL9 a.Found b.Found).isSome=true,fun h=>ok_ref06_Ints a.Found b.Found _ (zL1 h),[]⟩]) (⟨45,mkS [(4,xB ((((((a.Bag==b.Bag)&&(a.Holder==b.Holder))&&(a.Open==b.Open))&&((zL9 a.Seals b.Seals).getD default))&&((zL9 a.Packed b.Packed).getD default))&&((zL9 a.Found b.Found).getD default)))],mkH []⟩) ?_
 refine lok_ret ?_
 try obtain rfl:=Option.some.inj H0
 try simp only [thenL,blockL]
 exact fin_au _ (.inr rfl) [] (⟨45,mkS [(4,xB ((((((a.Bag==b.Bag)&&(a.Holder==b.Holder))&&(a.Open==b.Open))&&((zL9 a.Seals b.Seals).getD default))&&((zL9 a.Packed b.Packed).getD default))&&((zL9 a.Found b.Found).getD default)))],mkH []⟩) rfl rfl imp_au
theorem ok_ref17_SameBags (a:List api_Bag) (b:List api_Bag) (r_:Bool) (H0:zO1 a b=some r_):CallOK Tryz.prog 14 [.one (.p (.sl 6 (List.map zo9 a))),.one (.p (.sl 6 (List.map zo9 b)))] [] [.one (.p (.val (.bool r_)))] []:=by
 refine callOK (n:=27) (rs:=[.tmp 4]) (nb:=0) (V:=[]) Tryz.func14 rfl (by kernel_rfl) rfl rfl rfl rfl (Nat.le_of_ble_eq_true rfl) (by decide) ?_
 unfold zO1 at H0
 refine lok_rt E0 (⟨27,mkS [(0,xS 6 zo9 a),(1,xS 6 zo9 b)],mkH []⟩) ?_
 refine lok_seq ?_
 refine lok_rt E0 (⟨27,mkS [(0,xS 6 zo9 a),(1,xS 6 zo9 b),(10,xB ((a.length:Int) != (b.length:Int)))],mkH []⟩) ?_
 refine lok_c ((a.length:Int) != (b.length:Int)) ?_ ?_
 ·intro b_6
  replace H0:=cpos H0 b_6
  refine lok_rt E0 (⟨27,mkS [(4,xB false)],mkH []⟩) ?_
  refine lok_ret ?_
  try obtain rfl:=Option.some.inj H0
  try simp only [thenL,blockL]
  exact fin_au _ (.inr rfl) [] (⟨27,mkS [(4,xB false)],mkH []⟩) rfl rfl imp_au
 ·intro b_6
  replace H0:=cneg H0 b_6
  refine lok_skip ?_
  try simp only [thenL,blockL,↓reduceIte,reduceCtorEq]
  refine lok_join (fun x_:Unit=>ref17_SameBags_j1=some r_) (fun x_=>⟨27,mkS [],mkH []⟩) ?hyref17_SameBags_j1 ?hxref17_SameBags_j1
  case hyref17_SameBags_j1=>
   rintro _ H0
   try dsimp only at H0 ⊢
   unfold ref17_SameBags_j1 at H0
   refine lok_rt E0 (⟨27,mkS [(4,xB true)],mkH []⟩) ?_
   refine lok_ret ?_
   try obtain rfl:=Option.some.inj H0
   try simp only [thenL,blockL]
   exact fin_au _ (.inr rfl) [] (⟨27,mkS [(4,xB true)],mkH []⟩) rfl rfl imp_au
  case hxref17_SameBags_j1=>
   refine lok_rt E0 (⟨27,mkS [(0,xS 6 zo9 a),(1,xS 6 zo9 b),(5,xI (0:Int))],mkH []⟩) ?_
   refine zz9 ?_
   replace H0:=bind_some H0
   obtain⟨v_0,hv_0,H0⟩:=H0
   refine lok_iter (fun x_=>⟨27,mkS [(0,xS 6 zo9 a),(1,xS 6 zo9 b),(5,xI x_)],mkH []⟩) hv_0 imp_au ?_
   ·rintro i o_1 H1 k_1
    unfold ref17_SameBags_l2 at H1
    try dsimp only at H1 ⊢
    refine lok_seq ?_
    refine lok_rt E0 (⟨27,mkS [(0,xS 6 zo9 a),(1,xS 6 zo9 b),(5,xI i),(14,xB (decide (i<(a.length:Int))))],mkH []⟩) ?_
    refine lok_c (decide (i<(a.length:Int))) ?_ ?_
    ·intro b_5
     replace H1:=cpos H1 b_5
     refine lok_skip ?_
     try simp only [thenL,blockL,↓reduceIte,reduceCtorEq]
     refine lok_seq ?_
     refine zz9 ?_
     replace H1:=req_some H1
     obtain⟨⟨q_3,q_4⟩,H1⟩:=H1
     replace H1:=bind_some H1
     obtain⟨y,h_1,H1⟩:=H1
     refine lok_dt (Env.of E0 [⟨some 25,38,[.agg [pI ((ix a i).Bag),pI ((ix a i).Holder),.p (.val (.bool ((ix a i).Open))),pL ((ix a i).Seals),pL ((ix a i).Packed),pL ((ix a i).Found)],.agg [pI ((ix b i).Bag),pI ((ix b i).Holder),.p (.val (.bool ((ix b i).Open))),pL ((ix b i).Seals),pL ((ix b i).Packed),pL ((ix b i).Found)]],[],[oB y],[],True,fun _=>ok_ref17_SameBag (ix a i) (ix b i) y h_1,[]⟩]) 8 (⟨27,mkS [(0,xS 6 zo9 a),(1,xS 6 zo9 b),(5,xI i),(26,xB (!y))],mkH []⟩) (by kernel_rfl) (by kernel_rfl) ?_
     refine lok_c (!y) ?_ ?_
     ·intro b_2
      replace H1:=cpos H1 b_2
      refine lok_rt E0 (⟨27,mkS [(4,xB false)],mkH []⟩) ?_
      refine lok_ret ?_
      try simp only [thenL,blockL,↓reduceIte,reduceCtorEq]
      have e_1:=k_1 _ (Option.some.inj H1).symm
      subst e_1
      try dsimp only at H0
      try obtain rfl:=Option.some.inj H0
      try simp only [thenL,blockL]
      exact fin_au _ (.inr rfl) [] (⟨27,mkS [(4,xB false)],mkH []⟩) rfl rfl imp_au
     ·intro b_2
      replace H1:=cneg H1 b_2
      refine lok_skip ?_
      try simp only [thenL,blockL,↓reduceIte,reduceCtorEq]
      refine lok_rl E0 (⟨27,mkS [(0,xS 6 zo9 a),(1,xS 6 zo9 b),(5,xI (IntKind.i64.wrap (i+(1:Int))))],mkH []⟩) ?_
      try simp only [thenL,blockL,↓reduceIte,reduceCtorEq]
      exact⟨(IntKind.i64.wrap (i+(1:Int))),(Option.some.inj H1).symm,imp_au⟩
    ·intro b_5
     replace H1:=cneg H1 b_5
     refine lok_exit ?_
     try simp only [thenL,blockL,↓reduceIte,reduceCtorEq]
     have e_1:=k_1 _ (Option.some.inj H1).symm
     subst e_1
     try dsimp only at H0
     try simp only [thenL,blockL,↓reduceIte,reduceCtorEq]
     exact⟨(),H0,imp_au⟩
theorem ok_ref16_Same (a:zD9) (b:zD9) (r_:Bool) (H0:ref16_Same a b=some r_):CallOK Tryz.prog 15 [.agg [.p (pi a.Candidate),.p (pi a.State),.p (pi a.Late),.p (pi a.Left),.p (.sl 1 (List.map encI a.Incidents))],.agg [.p (pi b.Candidate),.p (pi b.State),.p (pi b.Late),.p (pi b.Left),.p (.sl 1 (List.map encI b.Incidents))]] [] [.one (.p (.val (.bool r_)))] []:=by
 refine callOK (n:=38) (rs:=[.tmp 4]) (nb:=0) (V:=[]) Tryz.func15 rfl (by kernel_rfl) rfl rfl rfl rfl (Nat.le_of_ble_eq_true rfl) (by decide) ?_
 unfold ref16_Same at H0
 refine lok_rt E0 (⟨38,mkS [(2,xP 102 0),(3,xP 103 0)],mkH [(102,.var [pI a.Candidate,pI a.State,pI a.Late,pI a.Left,pL a.Incidents]),(103,.var [pI b.Candidate,pI b.State,pI b.Late,pI b.Left,pL b.Incidents])]⟩) ?_
 replace H0:=req_some H0
 obtain⟨q_0,H0⟩:=H0
 refine lok_rt (Env.of E0 [⟨some 36,39,[oL a.Incidents,oL b.Incidents],[],[oB ((zL9 a.Incidents b.Incidents).getD default)],[],(zL9 a.Incidents b.Incidents).isSome=true,fun h=>ok_ref06_Ints a.Incidents b.Incidents _ (zL1 h),[]⟩]) (⟨38,mkS [(4,xB (((((a.Candidate==b.Candidate)&&(a.State==b.State))&&(a.Late==b.Late))&&(a.Left==b.Left))&&((zL9 a.Incidents b.Incidents).getD default)))],mkH []⟩) ?_
 refine lok_ret ?_
 try obtain rfl:=Option.some.inj H0
 try simp only [thenL,blockL]
 exact fin_au _ (.inr rfl) [] (⟨38,mkS [(4,xB (((((a.Candidate==b.Candidate)&&(a.State==b.State))&&(a.Late==b.Late))&&(a.Left==b.Left))&&((zL9 a.Incidents b.Incidents).getD default)))],mkH []⟩) rfl rfl imp_au
theorem ok_attendance_Present (l:List zD9) (r_:(List Int)) (H0:attendance_Present l=some r_):CallOK Tryz.prog 16 [.one (.p (.sl 5 (List.map zj9 l)))] [] [.one (.p (.sl 1 (List.map encI r_)))] []:=by
 refine callOK (n:=22) (rs:=[.tmp 2]) (nb:=0) (V:=[]) Tryz.func16 rfl (by kernel_rfl) rfl rfl rfl rfl (Nat.le_of_ble_eq_true rfl) (by decide) ?_
 unfold attendance_Present at H0
 refine lok_rt E0 (⟨22,mkS [(0,xS 5 zj9 l)],mkH []⟩) ?_
 refine lok_rt E0 (⟨22,mkS [(0,xS 5 zj9 l),(3,xV 103)],mkH [(103,bA 1 encI ([]:List Int))]⟩) ?_
 refine lok_join (fun x_:(List Int)=>attendance_Present_j1 x_=some r_) (fun x_=>⟨22,mkS [(3,xV 103)],mkH [(103,bA 1 encI x_)]⟩) ?hyattendance_Present_j1 ?hxattendance_Present_j1
 case hyattendance_Present_j1=>
  rintro found H0
  try dsimp only at H0 ⊢
  unfold attendance_Present_j1 at H0
  refine lok_rt E0 (⟨22,mkS [(2,xV 103)],mkH [(103,bA 1 encI found)]⟩) ?_
  refine lok_ret ?_
  try obtain rfl:=Option.some.inj H0
  try simp only [thenL,blockL]
  exact fin_au _ (.inr rfl) [] (⟨22,mkS [(2,xL found)],mkH []⟩) rfl rfl (Imp.trans (imp_frz 103 1 (List.map encI found)) imp_au)
 case hxattendance_Present_j1=>
  refine lok_rt E0 (⟨22,mkS [(3,xV 103),(6,xS 5 zj9 l),(7,xI (l.length:Int)),(8,xI (0:Int))],mkH [(103,bA 1 encI ([]:List Int))]⟩) ?_
  refine zz9 ?_
  replace H0:=bind_some H0
  obtain⟨v_0,hv_0,H0⟩:=H0
  refine lok_iter (fun x_=>⟨22,mkS [(3,xV 103),(6,xS 5 zj9 l),(7,xI (l.length:Int)),(8,xI x_.1)],mkH [(103,bA 1 encI x_.2)]⟩) hv_0 imp_au ?_
  ·rintro⟨v,found1⟩ o_1 H1 k_1
   unfold zV1 at H1
   try dsimp only at H1 ⊢
   refine lok_rt E0 (⟨22,mkS [(3,xV 103),(6,xS 5 zj9 l),(7,xI (l.length:Int)),(8,xI v),(9,xB (decide (v<(l.length:Int))))],mkH [(103,bA 1 encI found1)]⟩) ?_
   refine lok_seq ?_
   refine lok_c (decide (v<(l.length:Int))) ?_ ?_
   ·intro b_4
    replace H1:=cpos H1 b_4
    refine lok_skip ?_
    try simp only [thenL,blockL,↓reduceIte,reduceCtorEq]
    refine lok_join (fun x_:(List Int)=>zW1 v x_=some o_1) (fun x_=>⟨22,mkS [(3,xV 103),(6,xS 5 zj9 l),(7,xI (l.length:Int)),(8,xI v)],mkH [(103,bA 1 encI x_)]⟩) ?hyattendance_Present_j2 ?hxattendance_Present_j2
    case hyattendance_Present_j2=>
     rintro found3 H1
     try dsimp only at H1 ⊢
     unfold zW1 at H1
     refine lok_rl E0 (⟨22,mkS [(3,xV 103),(6,xS 5 zj9 l),(7,xI (l.length:Int)),(8,xI (IntKind.i64.wrap (v+(1:Int))))],mkH [(103,bA 1 encI found3)]⟩) ?_
     try simp only [thenL,blockL,↓reduceIte,reduceCtorEq]
     exact⟨((IntKind.i64.wrap (v+(1:Int))),found3),(Option.some.inj H1).symm,imp_au⟩
    case hxattendance_Present_j2=>
     refine zz9 ?_
     replace H1:=req_some H1
     obtain⟨q_3,H1⟩:=H1
     refine lok_rt E0 (⟨22,mkS [(3,xV 103),(5,xP 105 0),(6,xS 5 zj9 l),(7,xI (l.length:Int)),(8,xI v)],mkH [(103,bA 1 encI found1),(105,.var [pI ((ix l v).Candidate),pI ((ix l v).State),pI ((ix l v).Late),pI ((ix l v).Left),pL ((ix l v).Incidents)])]⟩) ?_
     refine lok_rt E0 (⟨22,mkS [(3,xV 103),(5,xP 105 0),(6,xS 5 zj9 l),(7,xI (l.length:Int)),(8,xI v),(14,xB ((ix l v).State==(1:Int)))],mkH [(103,bA 1 encI found1),(105,.var [pI ((ix l v).Candidate),pI ((ix l v).State),pI ((ix l v).Late),pI ((ix l v).Left),pL ((ix l v).Incidents)])]⟩) ?_
     refine lok_c ((ix l v).State==(1:Int)) ?_ ?_
     ·intro b_2
      replace H1:=cpos H1 b_2
      replace H1:=req_some H1
      obtain⟨q_1,H1⟩:=H1
      refine lok_rl E0 (⟨22,mkS [(3,xV 103),(6,xS 5 zj9 l),(7,xI (l.length:Int)),(8,xI v)],mkH [(103,bA 1 encI (found1++[(ix l v).Candidate]))]⟩) ?_
      try simp only [thenL,blockL,↓reduceIte,reduceCtorEq]
      exact⟨(found1++[(ix l v).Candidate]),H1,imp_au⟩
     ·intro b_2
      replace H1:=cneg H1 b_2
      refine lok_skip ?_
      try simp only [thenL,blockL,↓reduceIte,reduceCtorEq]
      exact⟨found1,H1,imp_au⟩
   ·intro b_4
    replace H1:=cneg H1 b_4
    refine lok_exit ?_
    try simp only [thenL,blockL,↓reduceIte,reduceCtorEq]
    have e_1:=k_1 _ (Option.some.inj H1).symm
    subst e_1
    try dsimp only at H0
    try simp only [thenL,blockL,↓reduceIte,reduceCtorEq]
    exact⟨found1,H0,imp_au⟩
theorem ok_custody_Account (l:List api_Bag) (expected:List Int) (r_:List Int×List Int×List Int×List Int) (H0:custody_Account l expected=some r_):CallOK Tryz.prog 17 [.one (.p (.sl 6 (List.map zo9 l))),.one (.p (.sl 1 (List.map encI expected)))] [] [.one (.p (.sl 1 (List.map encI r_.1))),.one (.p (.sl 1 (List.map encI r_.2.1))),.one (.p (.sl 1 (List.map encI r_.2.2.1))),.one (.p (.sl 1 (List.map encI r_.2.2.2)))] []:=by
 obtain⟨⟨c1,c2,c3⟩,H0⟩:=req_some H0
 obtain rfl:=Option.some.inj H0
 rw [bag_enc]
 refine ok_AccountL (l.map toBg) expected (by rw [List.length_map]; exact c1) (fun y hy=>?_) c3
 obtain⟨b,hb,rfl⟩:=List.mem_map.1 hy
 exact c2 b hb
theorem ok_attendance_Compare (l:List zD9) (scripts:List Int) (r_:List Int×List Int) (H0:attendance_Compare l scripts=some r_):CallOK Tryz.prog 18 [.one (.p (.sl 5 (List.map zj9 l))),.one (.p (.sl 1 (List.map encI scripts)))] [] [.one (.p (.sl 1 (List.map encI r_.1))),.one (.p (.sl 1 (List.map encI r_.2)))] []:=by
 obtain⟨⟨c1,c2,c3,c4⟩,H0⟩:=req_some H0
 obtain rfl:=Option.some.inj H0
 rw [at_enc]
 refine ok_CompareL (l.map toAt) scripts (by rw [List.length_map]; exact c1) (fun y hy=>?_) c3 c4
 obtain⟨a,ha,rfl⟩:=List.mem_map.1 hy
 exact c2 a ha
theorem ok_ref06_Has (l:List Int) (n:Int) (r_:Bool) (H0:ref06_Has l n=some r_):CallOK Tryz.prog 19 [.one (.p (.sl 1 (List.map encI l))),.one (.p (pi n))] [] [.one (.p (.val (.bool r_)))] []:=by
 refine callOK (n:=18) (rs:=[.tmp 4]) (nb:=0) (V:=[]) Tryz.func19 rfl (by kernel_rfl) rfl rfl rfl rfl (Nat.le_of_ble_eq_true rfl) (by decide) ?_
 unfold ref06_Has at H0
 refine lok_rt E0 (⟨18,mkS [(0,xL l),(1,xI n)],mkH []⟩) ?_
 refine lok_join (fun x_:Unit=>ref06_Has_j1=some r_) (fun x_=>⟨18,mkS [],mkH []⟩) ?hyref06_Has_j1 ?hxref06_Has_j1
 case hyref06_Has_j1=>
  rintro _ H0
  try dsimp only at H0 ⊢
  unfold ref06_Has_j1 at H0
  refine lok_rt E0 (⟨18,mkS [(4,xB false)],mkH []⟩) ?_
  refine lok_ret ?_
  try obtain rfl:=Option.some.inj H0
  try simp only [thenL,blockL]
  exact fin_au _ (.inr rfl) [] (⟨18,mkS [(4,xB false)],mkH []⟩) rfl rfl imp_au
 case hxref06_Has_j1=>
  refine lok_rt E0 (⟨18,mkS [(0,xL l),(1,xI n),(5,xI (0:Int))],mkH []⟩) ?_
  refine zz9 ?_
  replace H0:=bind_some H0
  obtain⟨v_0,hv_0,H0⟩:=H0
  refine lok_iter (fun x_=>⟨18,mkS [(0,xL l),(1,xI n),(5,xI x_)],mkH []⟩) hv_0 imp_au ?_
  ·rintro i o_1 H1 k_1
   unfold ref06_Has_l2 at H1
   try dsimp only at H1 ⊢
   refine lok_seq ?_
   refine lok_rt E0 (⟨18,mkS [(0,xL l),(1,xI n),(5,xI i),(9,xB (decide (i<(l.length:Int))))],mkH []⟩) ?_
   refine lok_c (decide (i<(l.length:Int))) ?_ ?_
   ·intro b_3
    replace H1:=cpos H1 b_3
    refine lok_skip ?_
    try simp only [thenL,blockL,↓reduceIte,reduceCtorEq]
    refine lok_seq ?_
    refine zz9 ?_
    replace H1:=req_some H1
    obtain⟨q_2,H1⟩:=H1
    refine lok_rt E0 (⟨18,mkS [(0,xL l),(1,xI n),(5,xI i),(17,xB ((ix l i)==n))],mkH []⟩) ?_
    refine lok_c ((ix l i)==n) ?_ ?_
    ·intro b_1
     replace H1:=cpos H1 b_1
     refine lok_rt E0 (⟨18,mkS [(4,xB true)],mkH []⟩) ?_
     refine lok_ret ?_
     try simp only [thenL,blockL,↓reduceIte,reduceCtorEq]
     have e_1:=k_1 _ (Option.some.inj H1).symm
     subst e_1
     try dsimp only at H0
     try obtain rfl:=Option.some.inj H0
     try simp only [thenL,blockL]
     exact fin_au _ (.inr rfl) [] (⟨18,mkS [(4,xB true)],mkH []⟩) rfl rfl imp_au
    ·intro b_1
     replace H1:=cneg H1 b_1
     refine lok_skip ?_
     try simp only [thenL,blockL,↓reduceIte,reduceCtorEq]
     refine lok_rl E0 (⟨18,mkS [(0,xL l),(1,xI n),(5,xI (IntKind.i64.wrap (i+(1:Int))))],mkH []⟩) ?_
     try simp only [thenL,blockL,↓reduceIte,reduceCtorEq]
     exact⟨(IntKind.i64.wrap (i+(1:Int))),(Option.some.inj H1).symm,imp_au⟩
   ·intro b_3
    replace H1:=cneg H1 b_3
    refine lok_exit ?_
    try simp only [thenL,blockL,↓reduceIte,reduceCtorEq]
    have e_1:=k_1 _ (Option.some.inj H1).symm
    subst e_1
    try dsimp only at H0
    try simp only [thenL,blockL,↓reduceIte,reduceCtorEq]
    exact⟨(),H0,imp_au⟩
theorem ok_top_awake17  (r_:Bool) (H0:top_awake17=some r_):CallOK Tryz.prog 20 [] [] [.one (.p (.val (.bool r_)))] []:=by
 refine callOK (n:=54) (rs:=[.tmp 0]) (nb:=0) (V:=[]) Tryz.func20 rfl (by kernel_rfl) rfl rfl rfl rfl (Nat.le_of_ble_eq_true rfl) (by decide) ?_
 unfold top_awake17 at H0
 refine lok_rt E0 (⟨54,mkS [],mkH []⟩) ?_
 replace H0:=bind_some H0
 obtain⟨⟨y,y1,y2⟩,h_0,H0⟩:=H0
 try dsimp only at H0
 refine lok_rt (Env.of E0 [⟨some 17,11,[oS 4 zd9 ([(zf9.mk (zX9.mk (1:Int) (2:Int) (0:Int)) false)]),oS 6 zb9 ([(ze9.mk (zB9.mk (0:Int) (0:Int) (0:Int)) (1:Int) (1:Int) (0:Int))]),oI (9:Int)],[],[oS 5 zj9 y,oS 3 zn9 y1,oI y2],[],True,fun _=>ok_attendance_Fold ([(zf9.mk (zX9.mk (1:Int) (2:Int) (0:Int)) false)]) ([(ze9.mk (zB9.mk (0:Int) (0:Int) (0:Int)) (1:Int) (1:Int) (0:Int))]) (9:Int) (y,y1,y2) h_0,[]⟩]) (⟨54,mkS [(1,xS 5 zj9 y),(3,xI y2)],mkH []⟩) ?_
 replace H0:=bind_some H0
 obtain⟨⟨y3,y4,y5⟩,h_1,H0⟩:=H0
 try dsimp only at H0
 refine lok_rt (Env.of E0 [⟨some 25,13,[oS 9 za9 ([(zh9.mk (zB9.mk (0:Int) (0:Int) (0:Int)) (1:Int) (0:Int) (0:Int) (2:Int) (0:Int) ([(1:Int)]))]),oI (9:Int)],[],[oS 6 zo9 y3,oS 3 zn9 y4,oI y5],[],True,fun _=>ok_custody_Fold ([(zh9.mk (zB9.mk (0:Int) (0:Int) (0:Int)) (1:Int) (0:Int) (0:Int) (2:Int) (0:Int) ([(1:Int)]))]) (9:Int) (y3,y4,y5) h_1,[]⟩]) (⟨54,mkS [(1,xS 5 zj9 y),(3,xI y2),(4,xS 6 zo9 y3),(6,xI y5)],mkH []⟩) ?_
 replace H0:=bind_some H0
 obtain⟨y6,h_2,H0⟩:=H0
 replace H0:=bind_some H0
 obtain⟨⟨y7,y8,y9,y10⟩,h_3,H0⟩:=H0
 try dsimp only at H0
 refine lok_rt (Env.of E0 [⟨some 32,16,[oS 5 zj9 y],[],[oL y6],[],True,fun _=>ok_attendance_Present y y6 h_2,[]⟩,
   ⟨some 33,17,[oS 6 zo9 y3,oL y6],[],[oL y7,oL y8,oL y9,oL y10],[],True,fun _=>ok_custody_Account y3 y6 (y7,y8,y9,y10) h_3,[]⟩]) (⟨54,mkS [(3,xI y2),(6,xI y5),(7,xL y7),(8,xL y8)],mkH []⟩) ?_
 replace H0:=req_some H0
 obtain⟨q_4,H0⟩:=H0
 refine lok_rt (Env.of E0 [⟨some 52,39,[oL y8,oL ([(1:Int)])],[],[oB ((zL9 y8 ([(1:Int)])).getD default)],[],(zL9 y8 ([(1:Int)])).isSome=true,fun h=>ok_ref06_Ints y8 ([(1:Int)]) _ (zL1 h),[]⟩]) (⟨54,mkS [(0,xB ((((y2==(0:Int))&&(y5==(0:Int)))&&((y7.length:Int)==(0:Int)))&&((zL9 y8 ([(1:Int)])).getD default)))],mkH []⟩) ?_
 refine lok_ret ?_
 try obtain rfl:=Option.some.inj H0
 try simp only [thenL,blockL]
 exact fin_au _ (.inr rfl) [] (⟨54,mkS [(0,xB ((((y2==(0:Int))&&(y5==(0:Int)))&&((y7.length:Int)==(0:Int)))&&((zL9 y8 ([(1:Int)])).getD default)))],mkH []⟩) rfl rfl imp_au
theorem ok_make_New (l:List Int) (r_:zk9) (H0:make_New l=some r_):CallOK Tryz.prog 4 [.one (.p (.sl 1 (List.map encI l)))] [] [.one (.ptr 0 0)] [some (.var [.p (.sl 1 (List.map encI r_.L)),.p (pi r_.At)])]:=by
 refine callOK (n:=11) (rs:=[.tmp 2]) (nb:=0) (V:=[]) Tryz.func4 rfl (by kernel_rfl) rfl rfl rfl rfl (Nat.le_of_ble_eq_true rfl) (by decide) ?_
 unfold make_New at H0
 refine lok_rt E0 (⟨11,mkS [(0,xL l)],mkH []⟩) ?_
 refine lok_join (fun x_:(List Int)=>make_New_j1 x_=some r_) (fun x_=>⟨11,mkS [(0,xL x_)],mkH []⟩) ?hymake_New_j1 ?hxmake_New_j1
 case hymake_New_j1=>
  rintro l1 H0
  try dsimp only at H0 ⊢
  unfold make_New_j1 at H0
  refine lok_rt E0 (⟨11,mkS [(2,xP 110 0)],mkH [(110,.var [pL l1,pI (0:Int)])]⟩) ?_
  refine lok_ret ?_
  try obtain rfl:=Option.some.inj H0
  try simp only [thenL,blockL]
  exact fin_nu [110] _ (.inr rfl) [110] (⟨11,mkS [(2,xP 110 0)],mkH [(110,.var [pL l1,pI (0:Int)])]⟩) rfl rfl imp_au
 case hxmake_New_j1=>
  refine lok_rt E0 (⟨11,mkS [(0,xL l),(5,xB (decide ((600:Int)<(l.length:Int))))],mkH []⟩) ?_
  refine lok_c (decide ((600:Int)<(l.length:Int))) ?_ ?_
  ·intro b_1
   replace H0:=cpos H0 b_1
   replace H0:=req_some H0
   obtain⟨q_0,H0⟩:=H0
   refine lok_rl E0 (⟨11,mkS [(0,xL (List.take (600:Int).toNat l))],mkH []⟩) ?_
   try simp only [thenL,blockL,↓reduceIte,reduceCtorEq]
   exact⟨(List.take (600:Int).toNat l),H0,imp_au⟩
  ·intro b_1
   replace H0:=cneg H0 b_1
   refine lok_skip ?_
   try simp only [thenL,blockL,↓reduceIte,reduceCtorEq]
   exact⟨l,H0,imp_au⟩
theorem ok_make_Cut (x:Int) (n:Int) (r_:Int) (H0:make_Cut x n=some r_):CallOK Tryz.prog 26 [.one (.p (pi x)),.one (.p (pi n))] [] [.one (.p (pi r_))] []:=by
 refine callOK (n:=16) (rs:=[.tmp 4]) (nb:=0) (V:=[]) Tryz.func26 rfl (by kernel_rfl) rfl rfl rfl rfl (Nat.le_of_ble_eq_true rfl) (by decide) ?_
 unfold make_Cut at H0
 refine lok_rt E0 (⟨16,mkS [(0,xI x),(1,xI n)],mkH []⟩) ?_
 refine lok_seq ?_
 refine lok_rt E0 (⟨16,mkS [(0,xI x),(1,xI n),(6,xB (decide (n<(1:Int))))],mkH []⟩) ?_
 refine lok_c (decide (n<(1:Int))) ?_ ?_
 ·intro b_2
  replace H0:=cpos H0 b_2
  refine lok_rt E0 (⟨16,mkS [(4,xI (0:Int))],mkH []⟩) ?_
  refine lok_ret ?_
  try obtain rfl:=Option.some.inj H0
  try simp only [thenL,blockL]
  exact fin_au _ (.inr rfl) [] (⟨16,mkS [(4,xI (0:Int))],mkH []⟩) rfl rfl imp_au
 ·intro b_2
  replace H0:=cneg H0 b_2
  refine lok_skip ?_
  try simp only [thenL,blockL,↓reduceIte,reduceCtorEq]
  replace H0:=req_some H0
  obtain⟨q_1,H0⟩:=H0
  refine lok_rt E0 (⟨16,mkS [(0,xI (Int.tmod x n)),(1,xI n)],mkH []⟩) ?_
  refine lok_join (fun x_:Int=>make_Cut_j1 x_=some r_) (fun x_=>⟨16,mkS [(0,xI x_)],mkH []⟩) ?hymake_Cut_j1 ?hxmake_Cut_j1
  case hymake_Cut_j1=>
   rintro x1 H0
   try dsimp only at H0 ⊢
   unfold make_Cut_j1 at H0
   refine lok_rt E0 (⟨16,mkS [(4,xI x1)],mkH []⟩) ?_
   refine lok_ret ?_
   try obtain rfl:=Option.some.inj H0
   try simp only [thenL,blockL]
   exact fin_au _ (.inr rfl) [] (⟨16,mkS [(4,xI x1)],mkH []⟩) rfl rfl imp_au
  case hxmake_Cut_j1=>
   refine lok_rt E0 (⟨16,mkS [(0,xI (Int.tmod x n)),(1,xI n),(11,xB (decide ((Int.tmod x n)<(0:Int))))],mkH []⟩) ?_
   refine lok_c (decide ((Int.tmod x n)<(0:Int))) ?_ ?_
   ·intro b_0
    replace H0:=cpos H0 b_0
    refine lok_rl E0 (⟨16,mkS [(0,xI (IntKind.i64.wrap ((Int.tmod x n)+n)))],mkH []⟩) ?_
    try simp only [thenL,blockL,↓reduceIte,reduceCtorEq]
    exact⟨(IntKind.i64.wrap ((Int.tmod x n)+n)),H0,imp_au⟩
   ·intro b_0
    replace H0:=cneg H0 b_0
    refine lok_skip ?_
    try simp only [thenL,blockL,↓reduceIte,reduceCtorEq]
    exact⟨(Int.tmod x n),H0,imp_au⟩
theorem ok_make_Tape_Raw (t:zk9) (r_:Int×zk9) (H0:make_Tape_Raw t=some r_):CallOK Tryz.prog 40 [.one (.ptr 0 0)] [.var [.p (.sl 1 (List.map encI t.L)),.p (pi t.At)]] [.one (.p (pi r_.1))] [some (.var [.p (.sl 1 (List.map encI r_.2.L)),.p (pi r_.2.At)])]:=by
 refine callOK (n:=31) (rs:=[.tmp 2]) (nb:=1) (V:=[0]) Tryz.func40 rfl (by kernel_rfl) rfl rfl rfl rfl (Nat.le_of_ble_eq_true rfl) (by decide) ?_
 unfold make_Tape_Raw at H0
 refine lok_rt E0 (⟨31,mkS [(0,xP 0 0)],mkH [(0,.var [pL t.L,pI t.At])]⟩) ?_
 refine lok_seq ?_
 refine lok_dt E0 9 (⟨31,mkS [(0,xP 0 0),(12,xB (decide ((t.L.length:Int)≤t.At)))],mkH [(0,.var [pL t.L,pI t.At])]⟩) (by kernel_rfl) (by kernel_rfl) ?_
 refine lok_c (decide ((t.L.length:Int)≤t.At)) ?_ ?_
 ·intro b_2
  replace H0:=cpos H0 b_2
  refine lok_rt E0 (⟨31,mkS [(2,xI (0:Int))],mkH [(0,.var [pL t.L,pI t.At])]⟩) ?_
  refine lok_ret ?_
  try obtain rfl:=Option.some.inj H0
  try simp only [thenL,blockL]
  exact fin_au _ (.inr rfl) [0] (⟨31,mkS [(2,xI (0:Int))],mkH [(0,.var [pL t.L,pI t.At])]⟩) rfl rfl imp_au
 ·intro b_2
  replace H0:=cneg H0 b_2
  refine lok_skip ?_
  try simp only [thenL,blockL,↓reduceIte,reduceCtorEq]
  refine lok_rt E0 (⟨31,mkS [(0,xP 0 0)],mkH [(0,.var [pL t.L,pI (IntKind.i64.wrap (t.At+(1:Int)))])]⟩) ?_
  replace H0:=req_some H0
  obtain⟨q_1,H0⟩:=H0
  replace H0:=zp1 H0
  obtain⟨v,a_0,H0⟩:=H0
  refine lok_dtg E0 9 a_0 (⟨31,mkS [(2,xI v)],mkH [(0,.var [pL t.L,pI (IntKind.i64.wrap (t.At+(1:Int)))])]⟩) (by kernel_rfl) (by kernel_rfl) ?_
  refine lok_ret ?_
  try obtain rfl:=Option.some.inj H0
  try simp only [thenL,blockL]
  exact fin_au _ (.inr rfl) [0] (⟨31,mkS [(2,xI v)],mkH [(0,.var [pL t.L,pI (IntKind.i64.wrap (t.At+(1:Int)))])]⟩) rfl rfl imp_au
theorem zx9 (t:zk9) (n:Int) (r_:Int×zk9) (H0:zC9 t n=some r_):CallOK Tryz.prog 22 [.one (.ptr 0 0),.one (.p (pi n))] [.var [.p (.sl 1 (List.map encI t.L)),.p (pi t.At)]] [.one (.p (pi r_.1))] [some (.var [.p (.sl 1 (List.map encI r_.2.L)),.p (pi r_.2.At)])]:=by
 refine callOK (n:=9) (rs:=[.tmp 4]) (nb:=1) (V:=[0]) Tryz.func22 rfl (by kernel_rfl) rfl rfl rfl rfl (Nat.le_of_ble_eq_true rfl) (by decide) ?_
 unfold zC9 at H0
 refine lok_rt E0 (⟨9,mkS [(0,xP 0 0),(1,xI n)],mkH [(0,.var [pL t.L,pI t.At])]⟩) ?_
 replace H0:=bind_some H0
 obtain⟨⟨y,y1⟩,h_0,H0⟩:=H0
 try dsimp only at H0
 replace H0:=bind_some H0
 obtain⟨y2,h_1,H0⟩:=H0
 refine lok_rt (Env.of E0 [⟨some 6,40,[.one (.ptr 0 0)],[.var [pL t.L,pI t.At]],[oI y],[some (.var [pL y1.L,pI y1.At])],True,fun _=>ok_make_Tape_Raw t (y,y1) h_0,[]⟩,
   ⟨some 8,26,[oI y,oI n],[],[oI y2],[],True,fun _=>ok_make_Cut y n y2 h_1,[]⟩]) (⟨9,mkS [(4,xI y2)],mkH [(0,.var [pL y1.L,pI y1.At])]⟩) ?_
 refine lok_ret ?_
 try obtain rfl:=Option.some.inj H0
 try simp only [thenL,blockL]
 exact fin_au _ (.inr rfl) [0] (⟨9,mkS [(4,xI y2)],mkH [(0,.var [pL y1.L,pI y1.At])]⟩) rfl rfl imp_au
theorem zM9 (t:zk9) (low:Int) (high:Int) (r_:Int×zk9) (H0:zK9 t low high=some r_):CallOK Tryz.prog 21 [.one (.ptr 0 0),.one (.p (pi low)),.one (.p (pi high))] [.var [.p (.sl 1 (List.map encI t.L)),.p (pi t.At)]] [.one (.p (pi r_.1))] [some (.var [.p (.sl 1 (List.map encI r_.2.L)),.p (pi r_.2.At)])]:=by
 refine callOK (n:=15) (rs:=[.tmp 6]) (nb:=1) (V:=[0]) Tryz.func21 rfl (by kernel_rfl) rfl rfl rfl rfl (Nat.le_of_ble_eq_true rfl) (by decide) ?_
 unfold zK9 at H0
 refine lok_rt E0 (⟨15,mkS [(0,xP 0 0),(1,xI low),(2,xI high)],mkH [(0,.var [pL t.L,pI t.At])]⟩) ?_
 replace H0:=bind_some H0
 obtain⟨⟨y,y1⟩,h_0,H0⟩:=H0
 try dsimp only at H0
 refine lok_rt (Env.of E0 [⟨some 13,22,[.one (.ptr 0 0),oI (IntKind.i64.wrap ((IntKind.i64.wrap (high - low))+(1:Int)))],[.var [pL t.L,pI t.At]],[oI y],[some (.var [pL y1.L,pI y1.At])],True,fun _=>zx9 t (IntKind.i64.wrap ((IntKind.i64.wrap (high - low))+(1:Int))) (y,y1) h_0,[]⟩]) (⟨15,mkS [(6,xI (IntKind.i64.wrap (low+y)))],mkH [(0,.var [pL y1.L,pI y1.At])]⟩) ?_
 refine lok_ret ?_
 try obtain rfl:=Option.some.inj H0
 try simp only [thenL,blockL]
 exact fin_au _ (.inr rfl) [0] (⟨15,mkS [(6,xI (IntKind.i64.wrap (low+y)))],mkH [(0,.var [pL y1.L,pI y1.At])]⟩) rfl rfl imp_au
theorem zF1 (t:zk9) (n:Int) (r_:Bool×zk9) (H0:zy1 t n=some r_):CallOK Tryz.prog 23 [.one (.ptr 0 0),.one (.p (pi n))] [.var [.p (.sl 1 (List.map encI t.L)),.p (pi t.At)]] [.one (.p (.val (.bool r_.1)))] [some (.var [.p (.sl 1 (List.map encI r_.2.L)),.p (pi r_.2.At)])]:=by
 refine callOK (n:=11) (rs:=[.tmp 4]) (nb:=1) (V:=[0]) Tryz.func23 rfl (by kernel_rfl) rfl rfl rfl rfl (Nat.le_of_ble_eq_true rfl) (by decide) ?_
 unfold zy1 at H0
 refine lok_rt E0 (⟨11,mkS [(0,xP 0 0),(1,xI n)],mkH [(0,.var [pL t.L,pI t.At])]⟩) ?_
 replace H0:=bind_some H0
 obtain⟨⟨y,y1⟩,h_0,H0⟩:=H0
 try dsimp only at H0
 refine lok_rt (Env.of E0 [⟨some 7,22,[.one (.ptr 0 0),oI n],[.var [pL t.L,pI t.At]],[oI y],[some (.var [pL y1.L,pI y1.At])],True,fun _=>zx9 t n (y,y1) h_0,[]⟩]) (⟨11,mkS [(4,xB (y==(IntKind.i64.wrap (n - (1:Int)))))],mkH [(0,.var [pL y1.L,pI y1.At])]⟩) ?_
 refine lok_ret ?_
 try obtain rfl:=Option.some.inj H0
 try simp only [thenL,blockL]
 exact fin_au _ (.inr rfl) [0] (⟨11,mkS [(4,xB (y==(IntKind.i64.wrap (n - (1:Int)))))],mkH [(0,.var [pL y1.L,pI y1.At])]⟩) rfl rfl imp_au
theorem zS9 (t:zk9) (l:List Int) (r_:Int×zk9) (H0:zR9 t l=some r_):CallOK Tryz.prog 25 [.one (.ptr 0 0),.one (.p (.sl 1 (List.map encI l)))] [.var [.p (.sl 1 (List.map encI t.L)),.p (pi t.At)]] [.one (.p (pi r_.1))] [some (.var [.p (.sl 1 (List.map encI r_.2.L)),.p (pi r_.2.At)])]:=by
 refine callOK (n:=12) (rs:=[.tmp 4]) (nb:=1) (V:=[0]) Tryz.func25 rfl (by kernel_rfl) rfl rfl rfl rfl (Nat.le_of_ble_eq_true rfl) (by decide) ?_
 unfold zR9 at H0
 refine lok_rt E0 (⟨12,mkS [(0,xP 0 0),(1,xL l)],mkH [(0,.var [pL t.L,pI t.At])]⟩) ?_
 replace H0:=bind_some H0
 obtain⟨⟨y,y1⟩,h_0,H0⟩:=H0
 try dsimp only at H0
 replace H0:=req_some H0
 obtain⟨q_1,H0⟩:=H0
 refine lok_rt (Env.of E0 [⟨some 9,22,[.one (.ptr 0 0),oI (l.length:Int)],[.var [pL t.L,pI t.At]],[oI y],[some (.var [pL y1.L,pI y1.At])],True,fun _=>zx9 t (l.length:Int) (y,y1) h_0,[]⟩]) (⟨12,mkS [(4,xI (ix l y))],mkH [(0,.var [pL y1.L,pI y1.At])]⟩) ?_
 refine lok_ret ?_
 try obtain rfl:=Option.some.inj H0
 try simp only [thenL,blockL]
 exact fin_au _ (.inr rfl) [0] (⟨12,mkS [(4,xI (ix l y))],mkH [(0,.var [pL y1.L,pI y1.At])]⟩) rfl rfl imp_au
theorem zR1 (t:zk9) (r_:Int×zk9) (H0:zH1 t=some r_):CallOK Tryz.prog 24 [.one (.ptr 0 0)] [.var [.p (.sl 1 (List.map encI t.L)),.p (pi t.At)]] [.one (.p (pi r_.1))] [some (.var [.p (.sl 1 (List.map encI r_.2.L)),.p (pi r_.2.At)])]:=by
 refine callOK (n:=6) (rs:=[.tmp 2]) (nb:=1) (V:=[0]) Tryz.func24 rfl (by kernel_rfl) rfl rfl rfl rfl (Nat.le_of_ble_eq_true rfl) (by decide) ?_
 unfold zH1 at H0
 refine lok_rt E0 (⟨6,mkS [(0,xP 0 0)],mkH [(0,.var [pL t.L,pI t.At])]⟩) ?_
 replace H0:=bind_some H0
 obtain⟨⟨y,y1⟩,h_0,H0⟩:=H0
 try dsimp only at H0
 refine lok_rt (Env.of E0 [⟨some 5,25,[.one (.ptr 0 0),oL ([(-1:Int),(0:Int),(1:Int),(2:Int),(31:Int),(32:Int),(99:Int),(100:Int),(200:Int),(201:Int),(9999:Int),(10000:Int),(1000000:Int),(1000001:Int),(1152921504606846976:Int),(1152921504606846977:Int),(-1152921504606846976:Int),(9223372036854775807:Int),(-9223372036854775808:Int)])],[.var [pL t.L,pI t.At]],[oI y],[some (.var [pL y1.L,pI y1.At])],True,fun _=>zS9 t ([(-1:Int),(0:Int),(1:Int),(2:Int),(31:Int),(32:Int),(99:Int),(100:Int),(200:Int),(201:Int),(9999:Int),(10000:Int),(1000000:Int),(1000001:Int),(1152921504606846976:Int),(1152921504606846977:Int),(-1152921504606846976:Int),(9223372036854775807:Int),(-9223372036854775808:Int)]) (y,y1) h_0,[]⟩]) (⟨6,mkS [(2,xI y)],mkH [(0,.var [pL y1.L,pI y1.At])]⟩) ?_
 refine lok_ret ?_
 try obtain rfl:=Option.some.inj H0
 try simp only [thenL,blockL]
 exact fin_au _ (.inr rfl) [0] (⟨6,mkS [(2,xI y)],mkH [(0,.var [pL y1.L,pI y1.At])]⟩) rfl rfl imp_au
theorem ok_make_Tape_Deadlines (t:zk9) (n:Int) (r_:zY9×zk9) (H0:make_Tape_Deadlines t n=some r_):CallOK Tryz.prog 5 [.one (.ptr 0 0),.one (.p (pi n))] [.var [.p (.sl 1 (List.map encI t.L)),.p (pi t.At)]] [.agg [.p (pi r_.1.Close),.p (pi r_.1.Late)]] [some (.var [.p (.sl 1 (List.map encI r_.2.L)),.p (pi r_.2.At)])]:=by
 refine callOK (n:=28) (rs:=[.cell 4 26]) (nb:=1) (V:=[0]) Tryz.func5 rfl (by kernel_rfl) rfl rfl rfl rfl (Nat.le_of_ble_eq_true rfl) (by decide) ?_
 unfold make_Tape_Deadlines at H0
 refine lok_rt E0 (⟨28,mkS [(0,xP 0 0),(1,xI n),(4,xP 104 0)],mkH [(0,.var [pL t.L,pI t.At]),(104,.var [pI (0:Int),pI (0:Int)])]⟩) ?_
 replace H0:=bind_some H0
 obtain⟨⟨y,y1⟩,h_0,H0⟩:=H0
 try dsimp only at H0
 refine lok_rt (Env.of E0 [⟨some 8,21,[.one (.ptr 0 0),oI (4:Int),oI (14:Int)],[.var [pL t.L,pI t.At]],[oI y],[some (.var [pL y1.L,pI y1.At])],True,fun _=>zM9 t (4:Int) (14:Int) (y,y1) h_0,[]⟩]) (⟨28,mkS [(0,xP 0 0),(1,xI n),(4,xP 104 0),(5,xI y)],mkH [(0,.var [pL y1.L,pI y1.At]),(104,.var [pI (0:Int),pI (0:Int)])]⟩) ?_
 replace H0:=bind_some H0
 obtain⟨⟨y2,y3⟩,h_1,H0⟩:=H0
 try dsimp only at H0
 refine lok_rt (Env.of E0 [⟨some 12,22,[.one (.ptr 0 0),oI (10:Int)],[.var [pL y1.L,pI y1.At]],[oI y2],[some (.var [pL y3.L,pI y3.At])],True,fun _=>zx9 y1 (10:Int) (y2,y3) h_1,[]⟩]) (⟨28,mkS [(0,xP 0 0),(1,xI n),(4,xP 104 0),(6,xP 106 0)],mkH [(0,.var [pL y3.L,pI y3.At]),(104,.var [pI (0:Int),pI (0:Int)]),(106,.var [pI y,pI (IntKind.i64.wrap (y+y2))])]⟩) ?_
 refine lok_join (fun x_:(List Int)×Int×Int×Int=>zB1 x_.1 x_.2.1 x_.2.2.1 x_.2.2.2=some r_) (fun x_=>⟨28,mkS [(4,xP 104 0),(6,xP 106 0)],mkH [(0,.var [pL x_.1,pI x_.2.1]),(104,.var [pI (0:Int),pI (0:Int)]),(106,.var [pI x_.2.2.1,pI x_.2.2.2])]⟩) ?hymake_Tape_Deadlines_j1 ?hxmake_Tape_Deadlines_j1
 case hymake_Tape_Deadlines_j1=>
  rintro⟨t1,t2,d,d1⟩ H0
  try dsimp only at H0 ⊢
  unfold zB1 at H0
  refine lok_rt E0 (⟨28,mkS [(4,xP 104 0)],mkH [(0,.var [pL t1,pI t2]),(104,.var [pI d,pI d1])]⟩) ?_
  refine lok_ret ?_
  try obtain rfl:=Option.some.inj H0
  try simp only [thenL,blockL]
  exact fin_au _ (.inr rfl) [0] (⟨28,mkS [(4,xP 104 0)],mkH [(0,.var [pL t1,pI t2]),(104,.var [pI d,pI d1])]⟩) rfl rfl imp_au
 case hxmake_Tape_Deadlines_j1=>
  rcases bcases (decide ((0:Int)<n)) with g_2_0 | g_2_0
  ·replace H0:=cpos H0 g_2_0
   replace H0:=bind_some H0
   obtain⟨⟨y4,y5⟩,h_2,H0⟩:=H0
   try dsimp only at H0
   refine lok_rtg (Env.of E0 [⟨some 20,23,[.one (.ptr 0 0),oI n],[.var [pL y3.L,pI y3.At]],[oB y4],[some (.var [pL y5.L,pI y5.At])],True,fun _=>zF1 y3 n (y4,y5) h_2,[]⟩]) g_2_0 (⟨28,mkS [(0,xP 0 0),(4,xP 104 0),(6,xP 106 0),(21,xB y4)],mkH [(0,.var [pL y5.L,pI y5.At]),(104,.var [pI (0:Int),pI (0:Int)]),(106,.var [pI y,pI (IntKind.i64.wrap (y+y2))])]⟩) ?_
   refine lok_c y4 ?_ ?_
   ·intro b_5
    replace H0:=cpos H0 b_5
    replace H0:=bind_some H0
    obtain⟨⟨y6,y7⟩,h_3,H0⟩:=H0
    try dsimp only at H0
    replace H0:=bind_some H0
    obtain⟨⟨y8,y9⟩,h_4,H0⟩:=H0
    try dsimp only at H0
    refine lok_rl (Env.of E0 [⟨some 23,24,[.one (.ptr 0 0)],[.var [pL y5.L,pI y5.At]],[oI y6],[some (.var [pL y7.L,pI y7.At])],True,fun _=>zR1 y5 (y6,y7) h_3,[]⟩,
   ⟨some 25,24,[.one (.ptr 0 0)],[.var [pL y7.L,pI y7.At]],[oI y8],[some (.var [pL y9.L,pI y9.At])],True,fun _=>zR1 y7 (y8,y9) h_4,[]⟩]) (⟨28,mkS [(4,xP 104 0),(6,xP 106 0)],mkH [(0,.var [pL y9.L,pI y9.At]),(104,.var [pI (0:Int),pI (0:Int)]),(106,.var [pI y6,pI y8])]⟩) ?_
    try simp only [thenL,blockL,↓reduceIte,reduceCtorEq]
    exact⟨(y9.L,y9.At,y6,y8),H0,imp_au⟩
   ·intro b_5
    replace H0:=cneg H0 b_5
    refine lok_skip ?_
    try simp only [thenL,blockL,↓reduceIte,reduceCtorEq]
    exact⟨(y5.L,y5.At,y,(IntKind.i64.wrap (y+y2))),H0,imp_au⟩
  ·replace H0:=cneg H0 g_2_0
   refine lok_rtg E0 g_2_0 (⟨28,mkS [(0,xP 0 0),(4,xP 104 0),(6,xP 106 0),(21,xB false)],mkH [(0,.var [pL y3.L,pI y3.At]),(104,.var [pI (0:Int),pI (0:Int)]),(106,.var [pI y,pI (IntKind.i64.wrap (y+y2))])]⟩) ?_
   refine lok_c false ?_ ?_
   ·intro h; exact absurd h (by decide)
   ·intro _
    refine lok_skip ?_
    try simp only [thenL,blockL,↓reduceIte,reduceCtorEq]
    exact⟨(y3.L,y3.At,y,(IntKind.i64.wrap (y+y2))),H0,imp_au⟩
set_option maxHeartbeats 4000000 in
theorem ok_make_Tape_Stamp (t:zk9) (n:Int) (r_:zB9×zk9) (H0:make_Tape_Stamp t n=some r_):CallOK Tryz.prog 27 [.one (.ptr 0 0),.one (.p (pi n))] [.var [.p (.sl 1 (List.map encI t.L)),.p (pi t.At)]] [.agg [.p (pi r_.1.Time),.p (pi r_.1.Source),.p (pi r_.1.Seq)]] [some (.var [.p (.sl 1 (List.map encI r_.2.L)),.p (pi r_.2.At)])]:=by
 refine callOK (n:=36) (rs:=[.cell 4 36]) (nb:=1) (V:=[0]) Tryz.func27 rfl (by kernel_rfl) rfl rfl rfl rfl (Nat.le_of_ble_eq_true rfl) (by decide) ?_
 unfold make_Tape_Stamp at H0
 refine lok_rt E0 (⟨36,mkS [(0,xP 0 0),(1,xI n),(4,xP 104 0)],mkH [(0,.var [pL t.L,pI t.At]),(104,.var [pI (0:Int),pI (0:Int),pI (0:Int)])]⟩) ?_
 replace H0:=bind_some H0
 obtain⟨⟨y,y1⟩,h_0,H0⟩:=H0
 try dsimp only at H0
 replace H0:=bind_some H0
 obtain⟨⟨y2,y3⟩,h_1,H0⟩:=H0
 try dsimp only at H0
 replace H0:=bind_some H0
 obtain⟨⟨y4,y5⟩,h_2,H0⟩:=H0
 try dsimp only at H0
 refine lok_rt (Env.of E0 [⟨some 7,21,[.one (.ptr 0 0),oI (0:Int),oI (24:Int)],[.var [pL t.L,pI t.At]],[oI y],[some (.var [pL y1.L,pI y1.At])],True,fun _=>zM9 t (0:Int) (24:Int) (y,y1) h_0,[]⟩,
   ⟨some 9,21,[.one (.ptr 0 0),oI (0:Int),oI (3:Int)],[.var [pL y1.L,pI y1.At]],[oI y2],[some (.var [pL y3.L,pI y3.At])],True,fun _=>zM9 y1 (0:Int) (3:Int) (y2,y3) h_1,[]⟩,
   ⟨some 11,21,[.one (.ptr 0 0),oI (0:Int),oI (9:Int)],[.var [pL y3.L,pI y3.At]],[oI y4],[some (.var [pL y5.L,pI y5.At])],True,fun _=>zM9 y3 (0:Int) (9:Int) (y4,y5) h_2,[]⟩]) (⟨36,mkS [(0,xP 0 0),(1,xI n),(4,xP 104 0),(5,xP 105 0)],mkH [(0,.var [pL y5.L,pI y5.At]),(104,.var [pI (0:Int),pI (0:Int),pI (0:Int)]),(105,.var [pI y,pI y2,pI y4])]⟩) ?_
 refine lok_join (fun x_:(List Int)×Int×Int×Int×Int=>zA1 x_.1 x_.2.1 x_.2.2.1 x_.2.2.2.1 x_.2.2.2.2=some r_) (fun x_=>⟨36,mkS [(4,xP 104 0),(5,xP 105 0)],mkH [(0,.var [pL x_.1,pI x_.2.1]),(104,.var [pI (0:Int),pI (0:Int),pI (0:Int)]),(105,.var [pI x_.2.2.1,pI x_.2.2.2.1,pI x_.2.2.2.2])]⟩) ?hymake_Tape_Stamp_j1 ?hxmake_Tape_Stamp_j1
 case hymake_Tape_Stamp_j1=>
  rintro⟨t1,t2,s,s1,s2⟩ H0
  try dsimp only at H0 ⊢
  unfold zA1 at H0
  refine lok_rt E0 (⟨36,mkS [(4,xP 104 0)],mkH [(0,.var [pL t1,pI t2]),(104,.var [pI s,pI s1,pI s2])]⟩) ?_
  refine lok_ret ?_
  try obtain rfl:=Option.some.inj H0
  try simp only [thenL,blockL]
  exact fin_au _ (.inr rfl) [0] (⟨36,mkS [(4,xP 104 0)],mkH [(0,.var [pL t1,pI t2]),(104,.var [pI s,pI s1,pI s2])]⟩) rfl rfl imp_au
 case hxmake_Tape_Stamp_j1=>
  rcases bcases (decide ((0:Int)<n)) with g_3_0 | g_3_0
  ·replace H0:=cpos H0 g_3_0
   replace H0:=bind_some H0
   obtain⟨⟨y6,y7⟩,h_3,H0⟩:=H0
   try dsimp only at H0
   refine lok_rtg (Env.of E0 [⟨some 18,23,[.one (.ptr 0 0),oI n],[.var [pL y5.L,pI y5.At]],[oB y6],[some (.var [pL y7.L,pI y7.At])],True,fun _=>zF1 y5 n (y6,y7) h_3,[]⟩]) g_3_0 (⟨36,mkS [(0,xP 0 0),(4,xP 104 0),(5,xP 105 0),(19,xB y6)],mkH [(0,.var [pL y7.L,pI y7.At]),(104,.var [pI (0:Int),pI (0:Int),pI (0:Int)]),(105,.var [pI y,pI y2,pI y4])]⟩) ?_
   refine lok_c y6 ?_ ?_
   ·intro b_10
    replace H0:=cpos H0 b_10
    replace H0:=bind_some H0
    obtain⟨⟨y8,y9⟩,h_4,H0⟩:=H0
    try dsimp only at H0
    refine lok_rt (Env.of E0 [⟨some 21,22,[.one (.ptr 0 0),oI (3:Int)],[.var [pL y7.L,pI y7.At]],[oI y8],[some (.var [pL y9.L,pI y9.At])],True,fun _=>zx9 y7 (3:Int) (y8,y9) h_4,[]⟩]) (⟨36,mkS [(0,xP 0 0),(4,xP 104 0),(5,xP 105 0),(21,xI y8)],mkH [(0,.var [pL y9.L,pI y9.At]),(104,.var [pI (0:Int),pI (0:Int),pI (0:Int)]),(105,.var [pI y,pI y2,pI y4])]⟩) ?_
    refine zz9 ?_
    refine lok_rt E0 (⟨36,mkS [(0,xP 0 0),(4,xP 104 0),(5,xP 105 0),(21,xI y8),(25,xB (y8==(0:Int)))],mkH [(0,.var [pL y9.L,pI y9.At]),(104,.var [pI (0:Int),pI (0:Int),pI (0:Int)]),(105,.var [pI y,pI y2,pI y4])]⟩) ?_
    refine lok_c (y8==(0:Int)) ?_ ?_
    ·intro b_9
     replace H0:=cpos H0 b_9
     replace H0:=bind_some H0
     obtain⟨⟨y10,y11⟩,h_5,H0⟩:=H0
     try dsimp only at H0
     refine lok_rl (Env.of E0 [⟨some 28,24,[.one (.ptr 0 0)],[.var [pL y9.L,pI y9.At]],[oI y10],[some (.var [pL y11.L,pI y11.At])],True,fun _=>zR1 y9 (y10,y11) h_5,[]⟩]) (⟨36,mkS [(4,xP 104 0),(5,xP 105 0)],mkH [(0,.var [pL y11.L,pI y11.At]),(104,.var [pI (0:Int),pI (0:Int),pI (0:Int)]),(105,.var [pI y10,pI y2,pI y4])]⟩) ?_
     try simp only [thenL,blockL,↓reduceIte,reduceCtorEq]
     exact⟨(y11.L,y11.At,y10,y2,y4),H0,imp_au⟩
    ·intro b_9
     replace H0:=cneg H0 b_9
     refine lok_rt E0 (⟨36,mkS [(0,xP 0 0),(4,xP 104 0),(5,xP 105 0),(30,xB (y8==(1:Int)))],mkH [(0,.var [pL y9.L,pI y9.At]),(104,.var [pI (0:Int),pI (0:Int),pI (0:Int)]),(105,.var [pI y,pI y2,pI y4])]⟩) ?_
     refine lok_c (y8==(1:Int)) ?_ ?_
     ·intro b_8
      replace H0:=cpos H0 b_8
      replace H0:=bind_some H0
      obtain⟨⟨y12,y13⟩,h_6,H0⟩:=H0
      try dsimp only at H0
      refine lok_rl (Env.of E0 [⟨some 33,24,[.one (.ptr 0 0)],[.var [pL y9.L,pI y9.At]],[oI y12],[some (.var [pL y13.L,pI y13.At])],True,fun _=>zR1 y9 (y12,y13) h_6,[]⟩]) (⟨36,mkS [(4,xP 104 0),(5,xP 105 0)],mkH [(0,.var [pL y13.L,pI y13.At]),(104,.var [pI (0:Int),pI (0:Int),pI (0:Int)]),(105,.var [pI y,pI y12,pI y4])]⟩) ?_
      try simp only [thenL,blockL,↓reduceIte,reduceCtorEq]
      exact⟨(y13.L,y13.At,y,y12,y4),H0,imp_au⟩
     ·intro b_8
      replace H0:=cneg H0 b_8
      replace H0:=bind_some H0
      obtain⟨⟨y14,y15⟩,h_7,H0⟩:=H0
      try dsimp only at H0
      refine lok_rl (Env.of E0 [⟨some 23,24,[.one (.ptr 0 0)],[.var [pL y9.L,pI y9.At]],[oI y14],[some (.var [pL y15.L,pI y15.At])],True,fun _=>zR1 y9 (y14,y15) h_7,[]⟩]) (⟨36,mkS [(4,xP 104 0),(5,xP 105 0)],mkH [(0,.var [pL y15.L,pI y15.At]),(104,.var [pI (0:Int),pI (0:Int),pI (0:Int)]),(105,.var [pI y,pI y2,pI y14])]⟩) ?_
      try simp only [thenL,blockL,↓reduceIte,reduceCtorEq]
      exact⟨(y15.L,y15.At,y,y2,y14),H0,imp_au⟩
   ·intro b_10
    replace H0:=cneg H0 b_10
    refine lok_skip ?_
    try simp only [thenL,blockL,↓reduceIte,reduceCtorEq]
    exact⟨(y7.L,y7.At,y,y2,y4),H0,imp_au⟩
  ·replace H0:=cneg H0 g_3_0
   refine lok_rtg E0 g_3_0 (⟨36,mkS [(0,xP 0 0),(4,xP 104 0),(5,xP 105 0),(19,xB false)],mkH [(0,.var [pL y5.L,pI y5.At]),(104,.var [pI (0:Int),pI (0:Int),pI (0:Int)]),(105,.var [pI y,pI y2,pI y4])]⟩) ?_
   refine lok_c false ?_ ?_
   ·intro h; exact absurd h (by decide)
   ·intro _
    refine lok_skip ?_
    try simp only [thenL,blockL,↓reduceIte,reduceCtorEq]
    exact⟨(y5.L,y5.At,y,y2,y4),H0,imp_au⟩
set_option maxHeartbeats 4000000 in
theorem ok_make_Tape_EntryEvents (t:zk9) (most:Int) (n:Int) (r_:(List zg9)×zk9) (H0:zU1 t most n=some r_):CallOK Tryz.prog 6 [.one (.ptr 0 0),.one (.p (pi most)),.one (.p (pi n))] [.var [.p (.sl 1 (List.map encI t.L)),.p (pi t.At)]] [.one (.p (.sl 8 (List.map zc9 r_.1)))] [some (.var [.p (.sl 1 (List.map encI r_.2.L)),.p (pi r_.2.At)])]:=by
 refine callOK (n:=111) (rs:=[.tmp 6]) (nb:=1) (V:=[0]) Tryz.func6 rfl (by kernel_rfl) rfl rfl rfl rfl (Nat.le_of_ble_eq_true rfl) (by decide) ?_
 unfold zU1 at H0
 refine lok_rt E0 (⟨111,mkS [(0,xP 0 0),(1,xI most),(2,xI n)],mkH [(0,.var [pL t.L,pI t.At])]⟩) ?_
 refine lok_rt E0 (⟨111,mkS [(0,xP 0 0),(1,xI most),(2,xI n),(7,xV 107)],mkH [(0,.var [pL t.L,pI t.At]),(107,bA 8 zc9 ([]:List zg9))]⟩) ?_
 refine lok_join (fun x_:(List Int)×Int×(List zg9)=>make_Tape_EntryEvents_j1 x_.1 x_.2.1 x_.2.2=some r_) (fun x_=>⟨111,mkS [(7,xV 107)],mkH [(0,.var [pL x_.1,pI x_.2.1]),(107,bA 8 zc9 x_.2.2)]⟩) ?hymake_Tape_EntryEvents_j1 ?hxmake_Tape_EntryEvents_j1
 case hymake_Tape_EntryEvents_j1=>
  rintro⟨t1,t2,out⟩ H0
  try dsimp only at H0 ⊢
  unfold make_Tape_EntryEvents_j1 at H0
  refine lok_rt E0 (⟨111,mkS [(6,xV 107)],mkH [(0,.var [pL t1,pI t2]),(107,bA 8 zc9 out)]⟩) ?_
  refine lok_ret ?_
  try obtain rfl:=Option.some.inj H0
  try simp only [thenL,blockL]
  exact fin_au _ (.inr rfl) [0] (⟨111,mkS [(6,xS 8 zc9 out)],mkH [(0,.var [pL t1,pI t2])]⟩) rfl rfl (Imp.trans (imp_frz 107 8 (List.map zc9 out)) imp_au)
 case hxmake_Tape_EntryEvents_j1=>
  replace H0:=bind_some H0
  obtain⟨⟨y,y1⟩,h_0,H0⟩:=H0
  try dsimp only at H0
  refine lok_rt (Env.of E0 [⟨some 13,21,[.one (.ptr 0 0),oI (0:Int),oI most],[.var [pL t.L,pI t.At]],[oI y],[some (.var [pL y1.L,pI y1.At])],True,fun _=>zM9 t (0:Int) most (y,y1) h_0,[]⟩]) (⟨111,mkS [(0,xP 0 0),(2,xI n),(7,xV 107),(8,xI y)],mkH [(0,.var [pL y1.L,pI y1.At]),(107,bA 8 zc9 ([]:List zg9))]⟩) ?_
  refine zz9 ?_
  replace H0:=bind_some H0
  obtain⟨v_1,hv_1,H0⟩:=H0
  refine lok_iter (fun x_=>⟨111,mkS [(0,xP 0 0),(2,xI n),(7,xV 107),(8,xI x_.1)],mkH [(0,.var [pL x_.2.1,pI x_.2.2.1]),(107,bA 8 zc9 x_.2.2.2)]⟩) hv_1 imp_au ?_
  ·rintro⟨i,t3,t4,out1⟩ o_1 H1 k_1
   unfold zs1 at H1
   try dsimp only at H1 ⊢
   refine lok_seq ?_
   refine lok_rt E0 (⟨111,mkS [(0,xP 0 0),(2,xI n),(7,xV 107),(8,xI i),(15,xB (decide ((0:Int)<i)))],mkH [(0,.var [pL t3,pI t4]),(107,bA 8 zc9 out1)]⟩) ?_
   refine lok_c (decide ((0:Int)<i)) ?_ ?_
   ·intro b_33
    replace H1:=cpos H1 b_33
    refine lok_skip ?_
    try simp only [thenL,blockL,↓reduceIte,reduceCtorEq]
    refine lok_join (fun x_:(List Int)×Int×(List zg9)=>zv1 i x_.1 x_.2.1 x_.2.2=some o_1) (fun x_=>⟨111,mkS [(0,xP 0 0),(2,xI n),(7,xV 107),(8,xI i)],mkH [(0,.var [pL x_.1,pI x_.2.1]),(107,bA 8 zc9 x_.2.2)]⟩) ?hymake_Tape_EntryEvents_j2 ?hxmake_Tape_EntryEvents_j2
    case hymake_Tape_EntryEvents_j2=>
     rintro⟨t7,t8,out3⟩ H1
     try dsimp only at H1 ⊢
     unfold zv1 at H1
     refine lok_rl E0 (⟨111,mkS [(0,xP 0 0),(2,xI n),(7,xV 107),(8,xI (IntKind.i64.wrap (i - (1:Int))))],mkH [(0,.var [pL t7,pI t8]),(107,bA 8 zc9 out3)]⟩) ?_
     try simp only [thenL,blockL,↓reduceIte,reduceCtorEq]
     exact⟨((IntKind.i64.wrap (i - (1:Int))),t7,t8,out3),(Option.some.inj H1).symm,imp_au⟩
    case hxmake_Tape_EntryEvents_j2=>
     refine zz9 ?_
     replace H1:=bind_some H1
     obtain⟨⟨y2,y3⟩,h_2,H1⟩:=H1
     try dsimp only at H1
     refine lok_rt (Env.of E0 [⟨some 19,21,[.one (.ptr 0 0),oI (1:Int),oI (3:Int)],[.var [pL t3,pI t4]],[oI y2],[some (.var [pL y3.L,pI y3.At])],True,fun _=>zM9 (zk9.mk t3 t4) (1:Int) (3:Int) (y2,y3) h_2,[]⟩]) (⟨111,mkS [(0,xP 0 0),(2,xI n),(7,xV 107),(8,xI i),(9,xI y2)],mkH [(0,.var [pL y3.L,pI y3.At]),(107,bA 8 zc9 out1)]⟩) ?_
     replace H1:=bind_some H1
     obtain⟨⟨y4,y5⟩,h_3,H1⟩:=H1
     try dsimp only at H1
     replace H1:=bind_some H1
     obtain⟨⟨y6,y7⟩,h_4,H1⟩:=H1
     try dsimp only at H1
     replace H1:=bind_some H1
     obtain⟨⟨y8,y9⟩,h_5,H1⟩:=H1
     try dsimp only at H1
     replace H1:=bind_some H1
     obtain⟨⟨y10,y11⟩,h_6,H1⟩:=H1
     try dsimp only at H1
     refine lok_rt (Env.of E0 [⟨some 21,21,[.one (.ptr 0 0),oI (0:Int),oI (24:Int)],[.var [pL y3.L,pI y3.At]],[oI y4],[some (.var [pL y5.L,pI y5.At])],True,fun _=>zM9 y3 (0:Int) (24:Int) (y4,y5) h_3,[]⟩,
   ⟨some 28,25,[.one (.ptr 0 0),oL ([(1:Int),(1:Int),(1:Int),(2:Int),(3:Int)])],[.var [pL y5.L,pI y5.At]],[oI y6],[some (.var [pL y7.L,pI y7.At])],True,fun _=>zS9 y5 ([(1:Int),(1:Int),(1:Int),(2:Int),(3:Int)]) (y6,y7) h_4,[]⟩,
   ⟨some 30,22,[.one (.ptr 0 0),oI (4:Int)],[.var [pL y7.L,pI y7.At]],[oI y8],[some (.var [pL y9.L,pI y9.At])],True,fun _=>zx9 y7 (4:Int) (y8,y9) h_5,[]⟩,
   ⟨some 33,22,[.one (.ptr 0 0),oI (2:Int)],[.var [pL y9.L,pI y9.At]],[oI y10],[some (.var [pL y11.L,pI y11.At])],True,fun _=>zx9 y9 (2:Int) (y10,y11) h_6,[]⟩]) (⟨111,mkS [(0,xP 0 0),(2,xI n),(7,xV 107),(8,xI i),(9,xI y2),(10,xP 110 0)],mkH [(0,.var [pL y11.L,pI y11.At]),(107,bA 8 zc9 out1),(110,.var [pI y4,pI y2,pI (out1.length:Int),pI y6,pI y8,pI y2,pI y10,pI (0:Int)])]⟩) ?_
     refine lok_join (fun x_:(List Int)×Int×Int=>zt1 n i out1 y2 y4 y6 y8 y10 x_.1 x_.2.1 x_.2.2=some o_1) (fun x_=>⟨111,mkS [(0,xP 0 0),(2,xI n),(7,xV 107),(8,xI i),(9,xI y2),(10,xP 110 0)],mkH [(0,.var [pL x_.1,pI x_.2.1]),(107,bA 8 zc9 out1),(110,.var [pI y4,pI x_.2.2,pI (out1.length:Int),pI y6,pI y8,pI y2,pI y10,pI (0:Int)])]⟩) ?hymake_Tape_EntryEvents_j5 ?hxmake_Tape_EntryEvents_j5
     case hymake_Tape_EntryEvents_j5=>
      rintro⟨t9,t10,e⟩ H1
      try dsimp only at H1 ⊢
      unfold zt1 at H1
      refine lok_join (fun x_:(List Int)×Int×Int=>zu1 n i out1 y2 y4 y6 y8 y10 e x_.1 x_.2.1 x_.2.2=some o_1) (fun x_=>⟨111,mkS [(0,xP 0 0),(2,xI n),(7,xV 107),(8,xI i),(9,xI y2),(10,xP 110 0)],mkH [(0,.var [pL x_.1,pI x_.2.1]),(107,bA 8 zc9 out1),(110,.var [pI y4,pI e,pI (out1.length:Int),pI y6,pI y8,pI y2,pI y10,pI x_.2.2])]⟩) ?hymake_Tape_EntryEvents_j4 ?hxmake_Tape_EntryEvents_j4
      case hymake_Tape_EntryEvents_j4=>
       rintro⟨t11,t12,e1⟩ H1
       try dsimp only at H1 ⊢
       unfold zu1 at H1
       refine lok_join (fun x_:(List Int)×Int×Int×Int×Int×Int×Int×Int×Int×Int=>zF9 i out1 x_.1 x_.2.1 x_.2.2.1 x_.2.2.2.1 x_.2.2.2.2.1 x_.2.2.2.2.2.1 x_.2.2.2.2.2.2.1 x_.2.2.2.2.2.2.2.1 x_.2.2.2.2.2.2.2.2.1 x_.2.2.2.2.2.2.2.2.2=some o_1) (fun x_=>⟨111,mkS [(0,xP 0 0),(2,xI n),(7,xV 107),(8,xI i),(10,xP 110 0)],mkH [(0,.var [pL x_.1,pI x_.2.1]),(107,bA 8 zc9 out1),(110,.var [pI x_.2.2.1,pI x_.2.2.2.1,pI x_.2.2.2.2.1,pI x_.2.2.2.2.2.1,pI x_.2.2.2.2.2.2.1,pI x_.2.2.2.2.2.2.2.1,pI x_.2.2.2.2.2.2.2.2.1,pI x_.2.2.2.2.2.2.2.2.2])]⟩) ?hymake_Tape_EntryEvents_j3 ?hxmake_Tape_EntryEvents_j3
       case hymake_Tape_EntryEvents_j3=>
        rintro⟨t13,t14,e2,e3,e4,e5,e6,e7,e8,e9⟩ H1
        try dsimp only at H1 ⊢
        unfold zF9 at H1
        replace H1:=req_some H1
        obtain⟨q_14,H1⟩:=H1
        replace H1:=zp1 H1
        obtain⟨out4,a_7,H1⟩:=H1
        refine lok_rtg E0 a_7 (⟨111,mkS [(0,xP 0 0),(2,xI n),(7,xV 107),(8,xI i)],mkH [(0,.var [pL t13,pI t14]),(107,bA 8 zc9 out4)]⟩) ?_
        replace H1:=bind_some H1
        obtain⟨⟨y12,y13⟩,h_8,H1⟩:=H1
        try dsimp only at H1
        refine lok_rt (Env.of E0 [⟨some 99,23,[.one (.ptr 0 0),oI (8:Int)],[.var [pL t13,pI t14]],[oB y12],[some (.var [pL y13.L,pI y13.At])],True,fun _=>zF1 (zk9.mk t13 t14) (8:Int) (y12,y13) h_8,[]⟩]) (⟨111,mkS [(0,xP 0 0),(2,xI n),(7,xV 107),(8,xI i),(99,xB y12)],mkH [(0,.var [pL y13.L,pI y13.At]),(107,bA 8 zc9 out4)]⟩) ?_
        refine lok_c y12 ?_ ?_
        ·intro b_13
         replace H1:=cpos H1 b_13
         replace H1:=bind_some H1
         obtain⟨⟨y14,y15⟩,h_9,H1⟩:=H1
         try dsimp only at H1
         replace H1:=req_some H1
         obtain⟨⟨q_11,q_12⟩,H1⟩:=H1
         replace H1:=zp1 H1
         obtain⟨out5,a_10,H1⟩:=H1
         refine lok_rlg (Env.of E0 [⟨some 105,22,[.one (.ptr 0 0),oI (out4.length:Int)],[.var [pL y13.L,pI y13.At]],[oI y14],[some (.var [pL y15.L,pI y15.At])],True,fun _=>zx9 y13 (out4.length:Int) (y14,y15) h_9,[]⟩]) a_10 (⟨111,mkS [(0,xP 0 0),(2,xI n),(7,xV 107),(8,xI i)],mkH [(0,.var [pL y15.L,pI y15.At]),(107,bA 8 zc9 out5)]⟩) ?_
         try simp only [thenL,blockL,↓reduceIte,reduceCtorEq]
         exact⟨(y15.L,y15.At,out5),H1,imp_au⟩
        ·intro b_13
         replace H1:=cneg H1 b_13
         refine lok_skip ?_
         try simp only [thenL,blockL,↓reduceIte,reduceCtorEq]
         exact⟨(y13.L,y13.At,out4),H1,imp_au⟩
       case hxmake_Tape_EntryEvents_j3=>
        rcases bcases (decide ((0:Int)<n)) with g_15_0 | g_15_0
        ·replace H1:=cpos H1 g_15_0
         replace H1:=bind_some H1
         obtain⟨⟨y16,y17⟩,h_15,H1⟩:=H1
         try dsimp only at H1
         refine lok_rtg (Env.of E0 [⟨some 55,23,[.one (.ptr 0 0),oI n],[.var [pL t11,pI t12]],[oB y16],[some (.var [pL y17.L,pI y17.At])],True,fun _=>zF1 (zk9.mk t11 t12) n (y16,y17) h_15,[]⟩]) g_15_0 (⟨111,mkS [(0,xP 0 0),(2,xI n),(7,xV 107),(8,xI i),(9,xI y2),(10,xP 110 0),(55,xB y16),(56,xB y16)],mkH [(0,.var [pL y17.L,pI y17.At]),(107,bA 8 zc9 out1),(110,.var [pI y4,pI e,pI (out1.length:Int),pI y6,pI y8,pI y2,pI y10,pI e1])]⟩) ?_
         refine lok_c y16 ?_ ?_
         ·intro b_28
          replace H1:=cpos H1 b_28
          replace H1:=bind_some H1
          obtain⟨⟨y18,y19⟩,h_16,H1⟩:=H1
          try dsimp only at H1
          refine lok_rt (Env.of E0 [⟨some 58,22,[.one (.ptr 0 0),oI (6:Int)],[.var [pL y17.L,pI y17.At]],[oI y18],[some (.var [pL y19.L,pI y19.At])],True,fun _=>zx9 y17 (6:Int) (y18,y19) h_16,[]⟩]) (⟨111,mkS [(0,xP 0 0),(2,xI n),(7,xV 107),(8,xI i),(9,xI y2),(10,xP 110 0),(55,xB y16),(58,xI y18)],mkH [(0,.var [pL y19.L,pI y19.At]),(107,bA 8 zc9 out1),(110,.var [pI y4,pI e,pI (out1.length:Int),pI y6,pI y8,pI y2,pI y10,pI e1])]⟩) ?_
          refine zz9 ?_
          refine lok_rt E0 (⟨111,mkS [(0,xP 0 0),(2,xI n),(7,xV 107),(8,xI i),(9,xI y2),(10,xP 110 0),(55,xB y16),(58,xI y18),(64,xB (y18==(0:Int)))],mkH [(0,.var [pL y19.L,pI y19.At]),(107,bA 8 zc9 out1),(110,.var [pI y4,pI e,pI (out1.length:Int),pI y6,pI y8,pI y2,pI y10,pI e1])]⟩) ?_
          refine lok_c (y18==(0:Int)) ?_ ?_
          ·intro b_27
           replace H1:=cpos H1 b_27
           replace H1:=bind_some H1
           obtain⟨⟨y20,y21⟩,h_17,H1⟩:=H1
           try dsimp only at H1
           refine lok_rl (Env.of E0 [⟨some 67,21,[.one (.ptr 0 0),oI (-1:Int),oI (4:Int)],[.var [pL y19.L,pI y19.At]],[oI y20],[some (.var [pL y21.L,pI y21.At])],True,fun _=>zM9 y19 (-1:Int) (4:Int) (y20,y21) h_17,[]⟩]) (⟨111,mkS [(0,xP 0 0),(2,xI n),(7,xV 107),(8,xI i),(10,xP 110 0),(55,xB y16)],mkH [(0,.var [pL y21.L,pI y21.At]),(107,bA 8 zc9 out1),(110,.var [pI y4,pI e,pI (out1.length:Int),pI y20,pI y8,pI y2,pI y10,pI e1])]⟩) ?_
           try simp only [thenL,blockL,↓reduceIte,reduceCtorEq]
           exact⟨(y21.L,y21.At,y4,e,(out1.length:Int),y20,y8,y2,y10,e1),H1,imp_au⟩
          ·intro b_27
           replace H1:=cneg H1 b_27
           refine lok_rt E0 (⟨111,mkS [(0,xP 0 0),(2,xI n),(7,xV 107),(8,xI i),(9,xI y2),(10,xP 110 0),(55,xB y16),(58,xI y18),(69,xB (y18==(1:Int)))],mkH [(0,.var [pL y19.L,pI y19.At]),(107,bA 8 zc9 out1),(110,.var [pI y4,pI e,pI (out1.length:Int),pI y6,pI y8,pI y2,pI y10,pI e1])]⟩) ?_
           refine lok_c (y18==(1:Int)) ?_ ?_
           ·intro b_26
            replace H1:=cpos H1 b_26
            replace H1:=bind_some H1
            obtain⟨⟨y22,y23⟩,h_18,H1⟩:=H1
            try dsimp only at H1
            refine lok_rl (Env.of E0 [⟨some 72,24,[.one (.ptr 0 0)],[.var [pL y19.L,pI y19.At]],[oI y22],[some (.var [pL y23.L,pI y23.At])],True,fun _=>zR1 y19 (y22,y23) h_18,[]⟩]) (⟨111,mkS [(0,xP 0 0),(2,xI n),(7,xV 107),(8,xI i),(10,xP 110 0),(55,xB y16)],mkH [(0,.var [pL y23.L,pI y23.At]),(107,bA 8 zc9 out1),(110,.var [pI y4,pI e,pI (out1.length:Int),pI y6,pI y22,pI y2,pI y10,pI e1])]⟩) ?_
            try simp only [thenL,blockL,↓reduceIte,reduceCtorEq]
            exact⟨(y23.L,y23.At,y4,e,(out1.length:Int),y6,y22,y2,y10,e1),H1,imp_au⟩
           ·intro b_26
            replace H1:=cneg H1 b_26
            refine lok_rt E0 (⟨111,mkS [(0,xP 0 0),(2,xI n),(7,xV 107),(8,xI i),(9,xI y2),(10,xP 110 0),(55,xB y16),(58,xI y18),(75,xB (y18==(2:Int)))],mkH [(0,.var [pL y19.L,pI y19.At]),(107,bA 8 zc9 out1),(110,.var [pI y4,pI e,pI (out1.length:Int),pI y6,pI y8,pI y2,pI y10,pI e1])]⟩) ?_
            refine lok_c (y18==(2:Int)) ?_ ?_
            ·intro b_25
             replace H1:=cpos H1 b_25
             replace H1:=bind_some H1
             obtain⟨⟨y24,y25⟩,h_19,H1⟩:=H1
             try dsimp only at H1
             refine lok_rl (Env.of E0 [⟨some 79,25,[.one (.ptr 0 0),oL ([(0:Int),(1:Int),(99:Int),(100:Int)])],[.var [pL y19.L,pI y19.At]],[oI y24],[some (.var [pL y25.L,pI y25.At])],True,fun _=>zS9 y19 ([(0:Int),(1:Int),(99:Int),(100:Int)]) (y24,y25) h_19,[]⟩]) (⟨111,mkS [(0,xP 0 0),(2,xI n),(7,xV 107),(8,xI i),(10,xP 110 0),(55,xB y16)],mkH [(0,.var [pL y25.L,pI y25.At]),(107,bA 8 zc9 out1),(110,.var [pI y4,pI e,pI (out1.length:Int),pI y6,pI y8,pI y24,pI y10,pI e1])]⟩) ?_
             try simp only [thenL,blockL,↓reduceIte,reduceCtorEq]
             exact⟨(y25.L,y25.At,y4,e,(out1.length:Int),y6,y8,y24,y10,e1),H1,imp_au⟩
            ·intro b_25
             replace H1:=cneg H1 b_25
             refine lok_rt E0 (⟨111,mkS [(0,xP 0 0),(2,xI n),(7,xV 107),(8,xI i),(9,xI y2),(10,xP 110 0),(55,xB y16),(58,xI y18),(82,xB (y18==(3:Int)))],mkH [(0,.var [pL y19.L,pI y19.At]),(107,bA 8 zc9 out1),(110,.var [pI y4,pI e,pI (out1.length:Int),pI y6,pI y8,pI y2,pI y10,pI e1])]⟩) ?_
             refine lok_c (y18==(3:Int)) ?_ ?_
             ·intro b_24
              replace H1:=cpos H1 b_24
              replace H1:=bind_some H1
              obtain⟨⟨y26,y27⟩,h_20,H1⟩:=H1
              try dsimp only at H1
              refine lok_rl (Env.of E0 [⟨some 86,25,[.one (.ptr 0 0),oL ([(-1:Int),(31:Int),(32:Int)])],[.var [pL y19.L,pI y19.At]],[oI y26],[some (.var [pL y27.L,pI y27.At])],True,fun _=>zS9 y19 ([(-1:Int),(31:Int),(32:Int)]) (y26,y27) h_20,[]⟩]) (⟨111,mkS [(0,xP 0 0),(2,xI n),(7,xV 107),(8,xI i),(10,xP 110 0),(55,xB y16)],mkH [(0,.var [pL y27.L,pI y27.At]),(107,bA 8 zc9 out1),(110,.var [pI y4,pI e,pI (out1.length:Int),pI y6,pI y8,pI y2,pI y26,pI e1])]⟩) ?_
              try simp only [thenL,blockL,↓reduceIte,reduceCtorEq]
              exact⟨(y27.L,y27.At,y4,e,(out1.length:Int),y6,y8,y2,y26,e1),H1,imp_au⟩
             ·intro b_24
              replace H1:=cneg H1 b_24
              refine lok_rt E0 (⟨111,mkS [(0,xP 0 0),(2,xI n),(7,xV 107),(8,xI i),(9,xI y2),(10,xP 110 0),(55,xB y16),(89,xB (y18==(4:Int)))],mkH [(0,.var [pL y19.L,pI y19.At]),(107,bA 8 zc9 out1),(110,.var [pI y4,pI e,pI (out1.length:Int),pI y6,pI y8,pI y2,pI y10,pI e1])]⟩) ?_
              refine lok_c (y18==(4:Int)) ?_ ?_
              ·intro b_23
               replace H1:=cpos H1 b_23
               replace H1:=bind_some H1
               obtain⟨⟨y28,y29⟩,h_21,H1⟩:=H1
               try dsimp only at H1
               refine lok_rl (Env.of E0 [⟨some 92,27,[.one (.ptr 0 0),oI (4:Int)],[.var [pL y19.L,pI y19.At]],[.agg [pI y28.Time,pI y28.Source,pI y28.Seq]],[some (.var [pL y29.L,pI y29.At])],True,fun _=>ok_make_Tape_Stamp y19 (4:Int) (y28,y29) h_21,[]⟩]) (⟨111,mkS [(0,xP 0 0),(2,xI n),(7,xV 107),(8,xI i),(10,xP 110 0),(55,xB y16)],mkH [(0,.var [pL y29.L,pI y29.At]),(107,bA 8 zc9 out1),(110,.var [pI y28.Time,pI y28.Source,pI y28.Seq,pI y6,pI y8,pI y2,pI y10,pI e1])]⟩) ?_
               try simp only [thenL,blockL,↓reduceIte,reduceCtorEq]
               exact⟨(y29.L,y29.At,y28.Time,y28.Source,y28.Seq,y6,y8,y2,y10,e1),H1,imp_au⟩
              ·intro b_23
               replace H1:=cneg H1 b_23
               replace H1:=bind_some H1
               obtain⟨⟨y30,y31⟩,h_22,H1⟩:=H1
               try dsimp only at H1
               refine lok_rl (Env.of E0 [⟨some 62,25,[.one (.ptr 0 0),oL ([(0:Int),(99:Int),(100:Int),y2])],[.var [pL y19.L,pI y19.At]],[oI y30],[some (.var [pL y31.L,pI y31.At])],True,fun _=>zS9 y19 ([(0:Int),(99:Int),(100:Int),y2]) (y30,y31) h_22,[]⟩]) (⟨111,mkS [(0,xP 0 0),(2,xI n),(7,xV 107),(8,xI i),(10,xP 110 0),(55,xB y16)],mkH [(0,.var [pL y31.L,pI y31.At]),(107,bA 8 zc9 out1),(110,.var [pI y4,pI e,pI (out1.length:Int),pI y6,pI y8,pI y2,pI y10,pI y30])]⟩) ?_
               try simp only [thenL,blockL,↓reduceIte,reduceCtorEq]
               exact⟨(y31.L,y31.At,y4,e,(out1.length:Int),y6,y8,y2,y10,y30),H1,imp_au⟩
         ·intro b_28
          replace H1:=cneg H1 b_28
          refine lok_skip ?_
          try simp only [thenL,blockL,↓reduceIte,reduceCtorEq]
          exact⟨(y17.L,y17.At,y4,e,(out1.length:Int),y6,y8,y2,y10,e1),H1,imp_au⟩
        ·replace H1:=cneg H1 g_15_0
         refine lok_rtg E0 g_15_0 (⟨111,mkS [(0,xP 0 0),(2,xI n),(7,xV 107),(8,xI i),(9,xI y2),(10,xP 110 0),(56,xB false)],mkH [(0,.var [pL t11,pI t12]),(107,bA 8 zc9 out1),(110,.var [pI y4,pI e,pI (out1.length:Int),pI y6,pI y8,pI y2,pI y10,pI e1])]⟩) ?_
         refine lok_c false ?_ ?_
         ·intro h; exact absurd h (by decide)
         ·intro _
          refine lok_skip ?_
          try simp only [thenL,blockL,↓reduceIte,reduceCtorEq]
          exact⟨(t11,t12,y4,e,(out1.length:Int),y6,y8,y2,y10,e1),H1,imp_au⟩
      case hxmake_Tape_EntryEvents_j4=>
       refine lok_rt E0 (⟨111,mkS [(0,xP 0 0),(2,xI n),(7,xV 107),(8,xI i),(9,xI y2),(10,xP 110 0),(42,xB (y6==(3:Int)))],mkH [(0,.var [pL t9,pI t10]),(107,bA 8 zc9 out1),(110,.var [pI y4,pI e,pI (out1.length:Int),pI y6,pI y8,pI y2,pI y10,pI (0:Int)])]⟩) ?_
       refine lok_c (y6==(3:Int)) ?_ ?_
       ·intro b_30
        replace H1:=cpos H1 b_30
        replace H1:=bind_some H1
        obtain⟨⟨y32,y33⟩,h_28,H1⟩:=H1
        try dsimp only at H1
        replace H1:=bind_some H1
        obtain⟨y34,h_29,H1⟩:=H1
        refine lok_rl (Env.of E0 [⟨some 45,22,[.one (.ptr 0 0),oI (2:Int)],[.var [pL t9,pI t10]],[oI y32],[some (.var [pL y33.L,pI y33.At])],True,fun _=>zx9 (zk9.mk t9 t10) (2:Int) (y32,y33) h_28,[]⟩,
   ⟨some 47,26,[oI (IntKind.i64.wrap (y2+y32)),oI (3:Int)],[],[oI y34],[],True,fun _=>ok_make_Cut (IntKind.i64.wrap (y2+y32)) (3:Int) y34 h_29,[]⟩]) (⟨111,mkS [(0,xP 0 0),(2,xI n),(7,xV 107),(8,xI i),(9,xI y2),(10,xP 110 0)],mkH [(0,.var [pL y33.L,pI y33.At]),(107,bA 8 zc9 out1),(110,.var [pI y4,pI e,pI (out1.length:Int),pI y6,pI y8,pI y2,pI y10,pI (IntKind.i64.wrap ((1:Int)+y34))])]⟩) ?_
        try simp only [thenL,blockL,↓reduceIte,reduceCtorEq]
        exact⟨(y33.L,y33.At,(IntKind.i64.wrap ((1:Int)+y34))),H1,imp_au⟩
       ·intro b_30
        replace H1:=cneg H1 b_30
        refine lok_skip ?_
        try simp only [thenL,blockL,↓reduceIte,reduceCtorEq]
        exact⟨(t9,t10,(0:Int)),H1,imp_au⟩
     case hxmake_Tape_EntryEvents_j5=>
      replace H1:=bind_some H1
      obtain⟨⟨y35,y36⟩,h_31,H1⟩:=H1
      try dsimp only at H1
      refine lok_rt (Env.of E0 [⟨some 37,23,[.one (.ptr 0 0),oI (6:Int)],[.var [pL y11.L,pI y11.At]],[oB y35],[some (.var [pL y36.L,pI y36.At])],True,fun _=>zF1 y11 (6:Int) (y35,y36) h_31,[]⟩]) (⟨111,mkS [(0,xP 0 0),(2,xI n),(7,xV 107),(8,xI i),(9,xI y2),(10,xP 110 0),(37,xB y35)],mkH [(0,.var [pL y36.L,pI y36.At]),(107,bA 8 zc9 out1),(110,.var [pI y4,pI y2,pI (out1.length:Int),pI y6,pI y8,pI y2,pI y10,pI (0:Int)])]⟩) ?_
      refine lok_c y35 ?_ ?_
      ·intro b_32
       replace H1:=cpos H1 b_32
       refine lok_rl E0 (⟨111,mkS [(0,xP 0 0),(2,xI n),(7,xV 107),(8,xI i),(9,xI y2),(10,xP 110 0)],mkH [(0,.var [pL y36.L,pI y36.At]),(107,bA 8 zc9 out1),(110,.var [pI y4,pI (0:Int),pI (out1.length:Int),pI y6,pI y8,pI y2,pI y10,pI (0:Int)])]⟩) ?_
       try simp only [thenL,blockL,↓reduceIte,reduceCtorEq]
       exact⟨(y36.L,y36.At,(0:Int)),H1,imp_au⟩
      ·intro b_32
       replace H1:=cneg H1 b_32
       refine lok_skip ?_
       try simp only [thenL,blockL,↓reduceIte,reduceCtorEq]
       exact⟨(y36.L,y36.At,y2),H1,imp_au⟩
   ·intro b_33
    replace H1:=cneg H1 b_33
    refine lok_exit ?_
    try simp only [thenL,blockL,↓reduceIte,reduceCtorEq]
    have e_1:=k_1 _ (Option.some.inj H1).symm
    subst e_1
    try dsimp only at H0
    try simp only [thenL,blockL,↓reduceIte,reduceCtorEq]
    exact⟨(t3,t4,out1),H0,imp_au⟩
end Go.LS
