/-
  The walks: the functions compute what the plain ones say. Condition: the plain function has a value.
-/
import Derived.Test.YtmgjidfafnajnaaGreatK2
import Derived.Test.YtmgjidfafnajnaaGreatD3
namespace Go.LS
open Go.Proofs
set_option linter.all false
set_option linter.unusedSimpArgs false
set_option linter.unusedVariables false
set_option maxRecDepth 20000
set_option maxHeartbeats 4000000 in
theorem ok_make_Tape_RegisterEvents (t:zk9) (most:Int) (n:Int) (r_:(List ze9)×zk9) (H0:zI1 t most n=some r_):CallOK Tryz.prog 7 [.one (.ptr 0 0),.one (.p (pi most)),.one (.p (pi n))] [.var [.p (.sl 1 (List.map encI t.L)),.p (pi t.At)]] [.one (.p (.sl 6 (List.map zb9 r_.1)))] [some (.var [.p (.sl 1 (List.map encI r_.2.L)),.p (pi r_.2.At)])]:=by
 refine callOK (n:=77) (rs:=[.tmp 6]) (nb:=1) (V:=[0]) Tryz.func7 rfl (by kernel_rfl) rfl rfl rfl rfl (Nat.le_of_ble_eq_true rfl) (by decide) ?_
 unfold zI1 at H0
 refine lok_rt E0 (⟨77,mkS [(0,xP 0 0),(1,xI most),(2,xI n)],mkH [(0,.var [pL t.L,pI t.At])]⟩) ?_
 refine lok_rt E0 (⟨77,mkS [(0,xP 0 0),(1,xI most),(2,xI n),(7,xV 107)],mkH [(0,.var [pL t.L,pI t.At]),(107,bA 6 zb9 ([]:List ze9))]⟩) ?_
 refine lok_join (fun x_:(List Int)×Int×(List ze9)=>make_Tape_RegisterEvents_j1 x_.1 x_.2.1 x_.2.2=some r_) (fun x_=>⟨77,mkS [(7,xV 107)],mkH [(0,.var [pL x_.1,pI x_.2.1]),(107,bA 6 zb9 x_.2.2)]⟩) ?hymake_Tape_RegisterEvents_j1 ?hxmake_Tape_RegisterEvents_j1
 case hymake_Tape_RegisterEvents_j1=>
  rintro⟨t1,t2,out⟩ H0
  try dsimp only at H0 ⊢
  unfold make_Tape_RegisterEvents_j1 at H0
  refine lok_rt E0 (⟨77,mkS [(6,xV 107)],mkH [(0,.var [pL t1,pI t2]),(107,bA 6 zb9 out)]⟩) ?_
  refine lok_ret ?_
  try obtain rfl:=Option.some.inj H0
  try simp only [thenL,blockL]
  exact fin_au _ (.inr rfl) [0] (⟨77,mkS [(6,xS 6 zb9 out)],mkH [(0,.var [pL t1,pI t2])]⟩) rfl rfl (Imp.trans (imp_frz 107 6 (List.map zb9 out)) imp_au)
 case hxmake_Tape_RegisterEvents_j1=>
  replace H0:=bind_some H0
  obtain⟨⟨y,y1⟩,h_0,H0⟩:=H0
  try dsimp only at H0
  refine lok_rt (Env.of E0 [⟨some 12,21,[.one (.ptr 0 0),oI (0:Int),oI most],[.var [pL t.L,pI t.At]],[oI y],[some (.var [pL y1.L,pI y1.At])],True,fun _=>zM9 t (0:Int) most (y,y1) h_0,[]⟩]) (⟨77,mkS [(0,xP 0 0),(2,xI n),(7,xV 107),(8,xI y)],mkH [(0,.var [pL y1.L,pI y1.At]),(107,bA 6 zb9 ([]:List ze9))]⟩) ?_
  refine zz9 ?_
  replace H0:=bind_some H0
  obtain⟨v_1,hv_1,H0⟩:=H0
  refine lok_iter (fun x_=>⟨77,mkS [(0,xP 0 0),(2,xI n),(7,xV 107),(8,xI x_.1)],mkH [(0,.var [pL x_.2.1,pI x_.2.2.1]),(107,bA 6 zb9 x_.2.2.2)]⟩) hv_1 imp_au ?_
  ·rintro⟨i,t3,t4,out1⟩ o_1 H1 k_1
   unfold zd1 at H1
   try dsimp only at H1 ⊢
   refine lok_seq ?_
   refine lok_rt E0 (⟨77,mkS [(0,xP 0 0),(2,xI n),(7,xV 107),(8,xI i),(14,xB (decide ((0:Int)<i)))],mkH [(0,.var [pL t3,pI t4]),(107,bA 6 zb9 out1)]⟩) ?_
   refine lok_c (decide ((0:Int)<i)) ?_ ?_
   ·intro b_23
    replace H1:=cpos H1 b_23
    refine lok_skip ?_
    try simp only [thenL,blockL,↓reduceIte,reduceCtorEq]
    refine lok_join (fun x_:(List Int)×Int×(List ze9)=>ze1 i x_.1 x_.2.1 x_.2.2=some o_1) (fun x_=>⟨77,mkS [(0,xP 0 0),(2,xI n),(7,xV 107),(8,xI i)],mkH [(0,.var [pL x_.1,pI x_.2.1]),(107,bA 6 zb9 x_.2.2)]⟩) ?hymake_Tape_RegisterEvents_j2 ?hxmake_Tape_RegisterEvents_j2
    case hymake_Tape_RegisterEvents_j2=>
     rintro⟨t7,t8,out3⟩ H1
     try dsimp only at H1 ⊢
     unfold ze1 at H1
     refine lok_rl E0 (⟨77,mkS [(0,xP 0 0),(2,xI n),(7,xV 107),(8,xI (IntKind.i64.wrap (i - (1:Int))))],mkH [(0,.var [pL t7,pI t8]),(107,bA 6 zb9 out3)]⟩) ?_
     try simp only [thenL,blockL,↓reduceIte,reduceCtorEq]
     exact⟨((IntKind.i64.wrap (i - (1:Int))),t7,t8,out3),(Option.some.inj H1).symm,imp_au⟩
    case hxmake_Tape_RegisterEvents_j2=>
     refine zz9 ?_
     replace H1:=bind_some H1
     obtain⟨⟨y2,y3⟩,h_2,H1⟩:=H1
     try dsimp only at H1
     replace H1:=bind_some H1
     obtain⟨⟨y4,y5⟩,h_3,H1⟩:=H1
     try dsimp only at H1
     replace H1:=bind_some H1
     obtain⟨⟨y6,y7⟩,h_4,H1⟩:=H1
     try dsimp only at H1
     replace H1:=bind_some H1
     obtain⟨⟨y8,y9⟩,h_5,H1⟩:=H1
     try dsimp only at H1
     replace H1:=bind_some H1
     obtain⟨⟨y10,y11⟩,h_6,H1⟩:=H1
     try dsimp only at H1
     refine lok_rt (Env.of E0 [⟨some 18,21,[.one (.ptr 0 0),oI (0:Int),oI (24:Int)],[.var [pL t3,pI t4]],[oI y2],[some (.var [pL y3.L,pI y3.At])],True,fun _=>zM9 (zk9.mk t3 t4) (0:Int) (24:Int) (y2,y3) h_2,[]⟩,
   ⟨some 21,25,[.one (.ptr 0 0),oL ([(0:Int),(0:Int),(1:Int),(2:Int),(3:Int)])],[.var [pL y3.L,pI y3.At]],[oI y4],[some (.var [pL y5.L,pI y5.At])],True,fun _=>zS9 y3 ([(0:Int),(0:Int),(1:Int),(2:Int),(3:Int)]) (y4,y5) h_3,[]⟩,
   ⟨some 26,21,[.one (.ptr 0 0),oI (1:Int),oI (5:Int)],[.var [pL y5.L,pI y5.At]],[oI y6],[some (.var [pL y7.L,pI y7.At])],True,fun _=>zM9 y5 (1:Int) (5:Int) (y6,y7) h_4,[]⟩,
   ⟨some 28,22,[.one (.ptr 0 0),oI (5:Int)],[.var [pL y7.L,pI y7.At]],[oI y8],[some (.var [pL y9.L,pI y9.At])],True,fun _=>zx9 y7 (5:Int) (y8,y9) h_5,[]⟩,
   ⟨some 30,22,[.one (.ptr 0 0),oI (60:Int)],[.var [pL y9.L,pI y9.At]],[oI y10],[some (.var [pL y11.L,pI y11.At])],True,fun _=>zx9 y9 (60:Int) (y10,y11) h_6,[]⟩]) (⟨77,mkS [(0,xP 0 0),(2,xI n),(7,xV 107),(8,xI i),(9,xP 109 0)],mkH [(0,.var [pL y11.L,pI y11.At]),(107,bA 6 zb9 out1),(109,.var [pI y2,pI y4,pI (out1.length:Int),pI y6,pI y8,pI y10])]⟩) ?_
     refine lok_join (fun x_:(List Int)×Int×Int×Int×Int×Int×Int×Int=>zG9 i out1 x_.1 x_.2.1 x_.2.2.1 x_.2.2.2.1 x_.2.2.2.2.1 x_.2.2.2.2.2.1 x_.2.2.2.2.2.2.1 x_.2.2.2.2.2.2.2=some o_1) (fun x_=>⟨77,mkS [(0,xP 0 0),(2,xI n),(7,xV 107),(8,xI i),(9,xP 109 0)],mkH [(0,.var [pL x_.1,pI x_.2.1]),(107,bA 6 zb9 out1),(109,.var [pI x_.2.2.1,pI x_.2.2.2.1,pI x_.2.2.2.2.1,pI x_.2.2.2.2.2.1,pI x_.2.2.2.2.2.2.1,pI x_.2.2.2.2.2.2.2])]⟩) ?hymake_Tape_RegisterEvents_j3 ?hxmake_Tape_RegisterEvents_j3
     case hymake_Tape_RegisterEvents_j3=>
      rintro⟨t9,t10,e,e1,e2,e3,e4,e5⟩ H1
      try dsimp only at H1 ⊢
      unfold zG9 at H1
      replace H1:=req_some H1
      obtain⟨q_13,H1⟩:=H1
      refine lok_rt E0 (⟨77,mkS [(0,xP 0 0),(2,xI n),(7,xV 107),(8,xI i)],mkH [(0,.var [pL t9,pI t10]),(107,bA 6 zb9 (out1++[(ze9.mk (zB9.mk e e1 e2) e3 e4 e5)]))]⟩) ?_
      replace H1:=bind_some H1
      obtain⟨⟨y12,y13⟩,h_7,H1⟩:=H1
      try dsimp only at H1
      refine lok_rt (Env.of E0 [⟨some 65,23,[.one (.ptr 0 0),oI (8:Int)],[.var [pL t9,pI t10]],[oB y12],[some (.var [pL y13.L,pI y13.At])],True,fun _=>zF1 (zk9.mk t9 t10) (8:Int) (y12,y13) h_7,[]⟩]) (⟨77,mkS [(0,xP 0 0),(2,xI n),(7,xV 107),(8,xI i),(65,xB y12)],mkH [(0,.var [pL y13.L,pI y13.At]),(107,bA 6 zb9 (out1++[(ze9.mk (zB9.mk e e1 e2) e3 e4 e5)]))]⟩) ?_
      refine lok_c y12 ?_ ?_
      ·intro b_12
       replace H1:=cpos H1 b_12
       replace H1:=bind_some H1
       obtain⟨⟨y14,y15⟩,h_8,H1⟩:=H1
       try dsimp only at H1
       replace H1:=req_some H1
       obtain⟨⟨q_10,q_11⟩,H1⟩:=H1
       replace H1:=zp1 H1
       obtain⟨out4,a_9,H1⟩:=H1
       refine lok_rlg (Env.of E0 [⟨some 71,22,[.one (.ptr 0 0),oI ((out1++[(ze9.mk (zB9.mk e e1 e2) e3 e4 e5)]).length:Int)],[.var [pL y13.L,pI y13.At]],[oI y14],[some (.var [pL y15.L,pI y15.At])],True,fun _=>zx9 y13 ((out1++[(ze9.mk (zB9.mk e e1 e2) e3 e4 e5)]).length:Int) (y14,y15) h_8,[]⟩]) a_9 (⟨77,mkS [(0,xP 0 0),(2,xI n),(7,xV 107),(8,xI i)],mkH [(0,.var [pL y15.L,pI y15.At]),(107,bA 6 zb9 out4)]⟩) ?_
       try simp only [thenL,blockL,↓reduceIte,reduceCtorEq]
       exact⟨(y15.L,y15.At,out4),H1,imp_au⟩
      ·intro b_12
       replace H1:=cneg H1 b_12
       refine lok_skip ?_
       try simp only [thenL,blockL,↓reduceIte,reduceCtorEq]
       exact⟨(y13.L,y13.At,(out1++[(ze9.mk (zB9.mk e e1 e2) e3 e4 e5)])),H1,imp_au⟩
     case hxmake_Tape_RegisterEvents_j3=>
      rcases bcases (decide ((0:Int)<n)) with g_14_0 | g_14_0
      ·replace H1:=cpos H1 g_14_0
       replace H1:=bind_some H1
       obtain⟨⟨y16,y17⟩,h_14,H1⟩:=H1
       try dsimp only at H1
       refine lok_rtg (Env.of E0 [⟨some 37,23,[.one (.ptr 0 0),oI n],[.var [pL y11.L,pI y11.At]],[oB y16],[some (.var [pL y17.L,pI y17.At])],True,fun _=>zF1 y11 n (y16,y17) h_14,[]⟩]) g_14_0 (⟨77,mkS [(0,xP 0 0),(2,xI n),(7,xV 107),(8,xI i),(9,xP 109 0),(37,xB y16),(38,xB y16)],mkH [(0,.var [pL y17.L,pI y17.At]),(107,bA 6 zb9 out1),(109,.var [pI y2,pI y4,pI (out1.length:Int),pI y6,pI y8,pI y10])]⟩) ?_
       refine lok_c y16 ?_ ?_
       ·intro b_23
        replace H1:=cpos H1 b_23
        replace H1:=bind_some H1
        obtain⟨⟨y18,y19⟩,h_15,H1⟩:=H1
        try dsimp only at H1
        refine lok_rt (Env.of E0 [⟨some 40,22,[.one (.ptr 0 0),oI (4:Int)],[.var [pL y17.L,pI y17.At]],[oI y18],[some (.var [pL y19.L,pI y19.At])],True,fun _=>zx9 y17 (4:Int) (y18,y19) h_15,[]⟩]) (⟨77,mkS [(0,xP 0 0),(2,xI n),(7,xV 107),(8,xI i),(9,xP 109 0),(37,xB y16),(40,xI y18)],mkH [(0,.var [pL y19.L,pI y19.At]),(107,bA 6 zb9 out1),(109,.var [pI y2,pI y4,pI (out1.length:Int),pI y6,pI y8,pI y10])]⟩) ?_
        refine zz9 ?_
        refine lok_rt E0 (⟨77,mkS [(0,xP 0 0),(2,xI n),(7,xV 107),(8,xI i),(9,xP 109 0),(37,xB y16),(40,xI y18),(44,xB (y18==(0:Int)))],mkH [(0,.var [pL y19.L,pI y19.At]),(107,bA 6 zb9 out1),(109,.var [pI y2,pI y4,pI (out1.length:Int),pI y6,pI y8,pI y10])]⟩) ?_
        refine lok_c (y18==(0:Int)) ?_ ?_
        ·intro b_22
         replace H1:=cpos H1 b_22
         replace H1:=bind_some H1
         obtain⟨⟨y20,y21⟩,h_16,H1⟩:=H1
         try dsimp only at H1
         refine lok_rl (Env.of E0 [⟨some 47,21,[.one (.ptr 0 0),oI (-1:Int),oI (7:Int)],[.var [pL y19.L,pI y19.At]],[oI y20],[some (.var [pL y21.L,pI y21.At])],True,fun _=>zM9 y19 (-1:Int) (7:Int) (y20,y21) h_16,[]⟩]) (⟨77,mkS [(0,xP 0 0),(2,xI n),(7,xV 107),(8,xI i),(9,xP 109 0),(37,xB y16)],mkH [(0,.var [pL y21.L,pI y21.At]),(107,bA 6 zb9 out1),(109,.var [pI y2,pI y4,pI (out1.length:Int),pI y20,pI y8,pI y10])]⟩) ?_
         try simp only [thenL,blockL,↓reduceIte,reduceCtorEq]
         exact⟨(y21.L,y21.At,y2,y4,(out1.length:Int),y20,y8,y10),H1,imp_au⟩
        ·intro b_22
         replace H1:=cneg H1 b_22
         refine lok_rt E0 (⟨77,mkS [(0,xP 0 0),(2,xI n),(7,xV 107),(8,xI i),(9,xP 109 0),(37,xB y16),(40,xI y18),(49,xB (y18==(1:Int)))],mkH [(0,.var [pL y19.L,pI y19.At]),(107,bA 6 zb9 out1),(109,.var [pI y2,pI y4,pI (out1.length:Int),pI y6,pI y8,pI y10])]⟩) ?_
         refine lok_c (y18==(1:Int)) ?_ ?_
         ·intro b_21
          replace H1:=cpos H1 b_21
          replace H1:=bind_some H1
          obtain⟨⟨y22,y23⟩,h_17,H1⟩:=H1
          try dsimp only at H1
          refine lok_rl (Env.of E0 [⟨some 52,24,[.one (.ptr 0 0)],[.var [pL y19.L,pI y19.At]],[oI y22],[some (.var [pL y23.L,pI y23.At])],True,fun _=>zR1 y19 (y22,y23) h_17,[]⟩]) (⟨77,mkS [(0,xP 0 0),(2,xI n),(7,xV 107),(8,xI i),(9,xP 109 0),(37,xB y16)],mkH [(0,.var [pL y23.L,pI y23.At]),(107,bA 6 zb9 out1),(109,.var [pI y2,pI y4,pI (out1.length:Int),pI y6,pI y22,pI y10])]⟩) ?_
          try simp only [thenL,blockL,↓reduceIte,reduceCtorEq]
          exact⟨(y23.L,y23.At,y2,y4,(out1.length:Int),y6,y22,y10),H1,imp_au⟩
         ·intro b_21
          replace H1:=cneg H1 b_21
          refine lok_rt E0 (⟨77,mkS [(0,xP 0 0),(2,xI n),(7,xV 107),(8,xI i),(9,xP 109 0),(37,xB y16),(54,xB (y18==(2:Int)))],mkH [(0,.var [pL y19.L,pI y19.At]),(107,bA 6 zb9 out1),(109,.var [pI y2,pI y4,pI (out1.length:Int),pI y6,pI y8,pI y10])]⟩) ?_
          refine lok_c (y18==(2:Int)) ?_ ?_
          ·intro b_20
           replace H1:=cpos H1 b_20
           replace H1:=bind_some H1
           obtain⟨⟨y24,y25⟩,h_18,H1⟩:=H1
           try dsimp only at H1
           refine lok_rl (Env.of E0 [⟨some 58,25,[.one (.ptr 0 0),oL ([(-1:Int),(600:Int),(601:Int)])],[.var [pL y19.L,pI y19.At]],[oI y24],[some (.var [pL y25.L,pI y25.At])],True,fun _=>zS9 y19 ([(-1:Int),(600:Int),(601:Int)]) (y24,y25) h_18,[]⟩]) (⟨77,mkS [(0,xP 0 0),(2,xI n),(7,xV 107),(8,xI i),(9,xP 109 0),(37,xB y16)],mkH [(0,.var [pL y25.L,pI y25.At]),(107,bA 6 zb9 out1),(109,.var [pI y2,pI y4,pI (out1.length:Int),pI y6,pI y8,pI y24])]⟩) ?_
           try simp only [thenL,blockL,↓reduceIte,reduceCtorEq]
           exact⟨(y25.L,y25.At,y2,y4,(out1.length:Int),y6,y8,y24),H1,imp_au⟩
          ·intro b_20
           replace H1:=cneg H1 b_20
           replace H1:=bind_some H1
           obtain⟨⟨y26,y27⟩,h_19,H1⟩:=H1
           try dsimp only at H1
           refine lok_rl (Env.of E0 [⟨some 42,27,[.one (.ptr 0 0),oI (4:Int)],[.var [pL y19.L,pI y19.At]],[.agg [pI y26.Time,pI y26.Source,pI y26.Seq]],[some (.var [pL y27.L,pI y27.At])],True,fun _=>ok_make_Tape_Stamp y19 (4:Int) (y26,y27) h_19,[]⟩]) (⟨77,mkS [(0,xP 0 0),(2,xI n),(7,xV 107),(8,xI i),(9,xP 109 0),(37,xB y16)],mkH [(0,.var [pL y27.L,pI y27.At]),(107,bA 6 zb9 out1),(109,.var [pI y26.Time,pI y26.Source,pI y26.Seq,pI y6,pI y8,pI y10])]⟩) ?_
           try simp only [thenL,blockL,↓reduceIte,reduceCtorEq]
           exact⟨(y27.L,y27.At,y26.Time,y26.Source,y26.Seq,y6,y8,y10),H1,imp_au⟩
       ·intro b_23
        replace H1:=cneg H1 b_23
        refine lok_skip ?_
        try simp only [thenL,blockL,↓reduceIte,reduceCtorEq]
        exact⟨(y17.L,y17.At,y2,y4,(out1.length:Int),y6,y8,y10),H1,imp_au⟩
      ·replace H1:=cneg H1 g_14_0
       refine lok_rtg E0 g_14_0 (⟨77,mkS [(0,xP 0 0),(2,xI n),(7,xV 107),(8,xI i),(9,xP 109 0),(38,xB false)],mkH [(0,.var [pL y11.L,pI y11.At]),(107,bA 6 zb9 out1),(109,.var [pI y2,pI y4,pI (out1.length:Int),pI y6,pI y8,pI y10])]⟩) ?_
       refine lok_c false ?_ ?_
       ·intro h; exact absurd h (by decide)
       ·intro _
        refine lok_skip ?_
        try simp only [thenL,blockL,↓reduceIte,reduceCtorEq]
        exact⟨(y11.L,y11.At,y2,y4,(out1.length:Int),y6,y8,y10),H1,imp_au⟩
   ·intro b_23
    replace H1:=cneg H1 b_23
    refine lok_exit ?_
    try simp only [thenL,blockL,↓reduceIte,reduceCtorEq]
    have e_1:=k_1 _ (Option.some.inj H1).symm
    subst e_1
    try dsimp only at H0
    try simp only [thenL,blockL,↓reduceIte,reduceCtorEq]
    exact⟨(t3,t4,out1),H0,imp_au⟩
theorem ok_make_Tape_Sorted (t:zk9) (n:Int) (r_:(List Int)×zk9) (H0:make_Tape_Sorted t n=some r_):CallOK Tryz.prog 28 [.one (.ptr 0 0),.one (.p (pi n))] [.var [.p (.sl 1 (List.map encI t.L)),.p (pi t.At)]] [.one (.vw 1)] [some (.var [.p (.sl 1 (List.map encI r_.2.L)),.p (pi r_.2.At)]),some (.arr 1 (List.map encI r_.1))]:=by
 refine callOK (n:=20) (rs:=[.tmp 4]) (nb:=1) (V:=[0]) Tryz.func28 rfl (by kernel_rfl) rfl rfl rfl rfl (Nat.le_of_ble_eq_true rfl) (by decide) ?_
 unfold make_Tape_Sorted at H0
 refine lok_rt E0 (⟨20,mkS [(0,xP 0 0),(1,xI n)],mkH [(0,.var [pL t.L,pI t.At])]⟩) ?_
 refine lok_rt E0 (⟨20,mkS [(0,xP 0 0),(1,xI n),(5,xV 105)],mkH [(0,.var [pL t.L,pI t.At]),(105,bA 1 encI ([]:List Int))]⟩) ?_
 refine lok_join (fun x_:(List Int)×Int×(List Int)=>make_Tape_Sorted_j1 x_.1 x_.2.1 x_.2.2=some r_) (fun x_=>⟨20,mkS [(5,xV 105)],mkH [(0,.var [pL x_.1,pI x_.2.1]),(105,bA 1 encI x_.2.2)]⟩) ?hymake_Tape_Sorted_j1 ?hxmake_Tape_Sorted_j1
 case hymake_Tape_Sorted_j1=>
  rintro⟨t1,t2,out⟩ H0
  try dsimp only at H0 ⊢
  unfold make_Tape_Sorted_j1 at H0
  refine lok_rt E0 (⟨20,mkS [(4,xV 105)],mkH [(0,.var [pL t1,pI t2]),(105,bA 1 encI out)]⟩) ?_
  refine lok_ret ?_
  try obtain rfl:=Option.some.inj H0
  try simp only [thenL,blockL]
  exact fin_nu [105] _ (.inr rfl) [0,105] (⟨20,mkS [(4,xV 105)],mkH [(0,.var [pL t1,pI t2]),(105,bA 1 encI out)]⟩) rfl rfl imp_au
 case hxmake_Tape_Sorted_j1=>
  refine lok_rt E0 (⟨20,mkS [(0,xP 0 0),(1,xI n),(5,xV 105),(6,xI (0:Int))],mkH [(0,.var [pL t.L,pI t.At]),(105,bA 1 encI ([]:List Int))]⟩) ?_
  refine zz9 ?_
  replace H0:=bind_some H0
  obtain⟨v_0,hv_0,H0⟩:=H0
  refine lok_iter (fun x_=>⟨20,mkS [(0,xP 0 0),(1,xI n),(5,xV 105),(6,xI x_.1)],mkH [(0,.var [pL x_.2.1,pI x_.2.2.1]),(105,bA 1 encI x_.2.2.2)]⟩) hv_0 imp_au ?_
  ·rintro⟨i,t3,t4,out1⟩ o_1 H1 k_1
   unfold make_Tape_Sorted_l3 at H1
   try dsimp only at H1 ⊢
   refine lok_seq ?_
   refine lok_rt E0 (⟨20,mkS [(0,xP 0 0),(1,xI n),(5,xV 105),(6,xI i),(9,xB (decide (i<n)))],mkH [(0,.var [pL t3,pI t4]),(105,bA 1 encI out1)]⟩) ?_
   refine lok_c (decide (i<n)) ?_ ?_
   ·intro b_4
    replace H1:=cpos H1 b_4
    refine lok_skip ?_
    try simp only [thenL,blockL,↓reduceIte,reduceCtorEq]
    refine lok_join (fun x_:(List Int)×Int×(List Int)=>make_Tape_Sorted_j2 i x_.1 x_.2.1 x_.2.2=some o_1) (fun x_=>⟨20,mkS [(0,xP 0 0),(1,xI n),(5,xV 105),(6,xI i)],mkH [(0,.var [pL x_.1,pI x_.2.1]),(105,bA 1 encI x_.2.2)]⟩) ?hymake_Tape_Sorted_j2 ?hxmake_Tape_Sorted_j2
    case hymake_Tape_Sorted_j2=>
     rintro⟨t7,t8,out3⟩ H1
     try dsimp only at H1 ⊢
     unfold make_Tape_Sorted_j2 at H1
     refine lok_rl E0 (⟨20,mkS [(0,xP 0 0),(1,xI n),(5,xV 105),(6,xI (IntKind.i64.wrap (i+(1:Int))))],mkH [(0,.var [pL t7,pI t8]),(105,bA 1 encI out3)]⟩) ?_
     try simp only [thenL,blockL,↓reduceIte,reduceCtorEq]
     exact⟨((IntKind.i64.wrap (i+(1:Int))),t7,t8,out3),(Option.some.inj H1).symm,imp_au⟩
    case hxmake_Tape_Sorted_j2=>
     refine zz9 ?_
     replace H1:=bind_some H1
     obtain⟨⟨y,y1⟩,h_1,H1⟩:=H1
     try dsimp only at H1
     refine lok_rt (Env.of E0 [⟨some 13,22,[.one (.ptr 0 0),oI (2:Int)],[.var [pL t3,pI t4]],[oI y],[some (.var [pL y1.L,pI y1.At])],True,fun _=>zx9 (zk9.mk t3 t4) (2:Int) (y,y1) h_1,[]⟩]) (⟨20,mkS [(0,xP 0 0),(1,xI n),(5,xV 105),(6,xI i),(14,xB (y==(1:Int)))],mkH [(0,.var [pL y1.L,pI y1.At]),(105,bA 1 encI out1)]⟩) ?_
     refine lok_c (y==(1:Int)) ?_ ?_
     ·intro b_3
      replace H1:=cpos H1 b_3
      replace H1:=req_some H1
      obtain⟨q_2,H1⟩:=H1
      refine lok_rl E0 (⟨20,mkS [(0,xP 0 0),(1,xI n),(5,xV 105),(6,xI i)],mkH [(0,.var [pL y1.L,pI y1.At]),(105,bA 1 encI (out1++[i]))]⟩) ?_
      try simp only [thenL,blockL,↓reduceIte,reduceCtorEq]
      exact⟨(y1.L,y1.At,(out1++[i])),H1,imp_au⟩
     ·intro b_3
      replace H1:=cneg H1 b_3
      refine lok_skip ?_
      try simp only [thenL,blockL,↓reduceIte,reduceCtorEq]
      exact⟨(y1.L,y1.At,out1),H1,imp_au⟩
   ·intro b_4
    replace H1:=cneg H1 b_4
    refine lok_exit ?_
    try simp only [thenL,blockL,↓reduceIte,reduceCtorEq]
    have e_1:=k_1 _ (Option.some.inj H1).symm
    subst e_1
    try dsimp only at H0
    try simp only [thenL,blockL,↓reduceIte,reduceCtorEq]
    exact⟨(t3,t4,out1),H0,imp_au⟩
set_option maxHeartbeats 4000000 in
theorem ok_make_Tape_BagEvents (t:zk9) (most:Int) (n:Int) (r_:(List zh9)×zk9) (H0:make_Tape_BagEvents t most n=some r_):CallOK Tryz.prog 8 [.one (.ptr 0 0),.one (.p (pi most)),.one (.p (pi n))] [.var [.p (.sl 1 (List.map encI t.L)),.p (pi t.At)]] [.one (.p (.sl 9 (List.map za9 r_.1)))] [some (.var [.p (.sl 1 (List.map encI r_.2.L)),.p (pi r_.2.At)])]:=by
 refine callOK (n:=196) (rs:=[.tmp 6]) (nb:=1) (V:=[0]) Tryz.func8 rfl (by kernel_rfl) rfl rfl rfl rfl (Nat.le_of_ble_eq_true rfl) (by decide) ?_
 unfold make_Tape_BagEvents at H0
 refine lok_rt E0 (⟨196,mkS [(0,xP 0 0),(1,xI most),(2,xI n)],mkH [(0,.var [pL t.L,pI t.At])]⟩) ?_
 refine lok_rt E0 (⟨196,mkS [(0,xP 0 0),(1,xI most),(2,xI n),(7,xV 107)],mkH [(0,.var [pL t.L,pI t.At]),(107,bA 9 za9 ([]:List zh9))]⟩) ?_
 refine lok_rt (Env.of E0 [⟨some 14,0,[],[],[],[],False,fun h=>h.elim,[true]⟩]) (⟨196,mkS [(0,xP 0 0),(1,xI most),(2,xI n),(7,xV 107),(8,xV 114)],mkH [(0,.var [pL t.L,pI t.At]),(107,bA 9 za9 ([]:List zh9)),(114,bA 1 encI ([(-1:Int),(-1:Int),(-1:Int)]))]⟩) ?_
 refine lok_rt (Env.of E0 [⟨some 15,0,[],[],[],[],False,fun h=>h.elim,[true]⟩]) (⟨196,mkS [(0,xP 0 0),(1,xI most),(2,xI n),(7,xV 107),(8,xV 114),(9,xV 115)],mkH [(0,.var [pL t.L,pI t.At]),(107,bA 9 za9 ([]:List zh9)),(114,bA 1 encI ([(-1:Int),(-1:Int),(-1:Int)])),(115,bA 1 encI ([(0:Int),(0:Int),(0:Int)]))]⟩) ?_
 refine lok_join (fun x_:(List Int)×Int×(List zh9)=>make_Tape_BagEvents_j1 x_.1 x_.2.1 x_.2.2=some r_) (fun x_=>⟨196,mkS [(7,xV 107)],mkH [(0,.var [pL x_.1,pI x_.2.1]),(107,bA 9 za9 x_.2.2)]⟩) ?hymake_Tape_BagEvents_j1 ?hxmake_Tape_BagEvents_j1
 case hymake_Tape_BagEvents_j1=>
  rintro⟨t1,t2,out⟩ H0
  try dsimp only at H0 ⊢
  unfold make_Tape_BagEvents_j1 at H0
  refine lok_rt E0 (⟨196,mkS [(6,xV 107)],mkH [(0,.var [pL t1,pI t2]),(107,bA 9 za9 out)]⟩) ?_
  refine lok_ret ?_
  try obtain rfl:=Option.some.inj H0
  try simp only [thenL,blockL]
  exact fin_au _ (.inr rfl) [0] (⟨196,mkS [(6,xS 9 za9 out)],mkH [(0,.var [pL t1,pI t2])]⟩) rfl rfl (Imp.trans (imp_frz 107 9 (List.map za9 out)) imp_au)
 case hxmake_Tape_BagEvents_j1=>
  replace H0:=bind_some H0
  obtain⟨⟨y,y1⟩,h_0,H0⟩:=H0
  try dsimp only at H0
  refine lok_rt (Env.of E0 [⟨some 18,21,[.one (.ptr 0 0),oI (0:Int),oI most],[.var [pL t.L,pI t.At]],[oI y],[some (.var [pL y1.L,pI y1.At])],True,fun _=>zM9 t (0:Int) most (y,y1) h_0,[]⟩]) (⟨196,mkS [(0,xP 0 0),(2,xI n),(7,xV 107),(8,xV 114),(9,xV 115),(10,xI y)],mkH [(0,.var [pL y1.L,pI y1.At]),(107,bA 9 za9 ([]:List zh9)),(114,bA 1 encI ([(-1:Int),(-1:Int),(-1:Int)])),(115,bA 1 encI ([(0:Int),(0:Int),(0:Int)]))]⟩) ?_
  refine zz9 ?_
  replace H0:=bind_some H0
  obtain⟨v_1,hv_1,H0⟩:=H0
  refine lok_iter (fun x_=>⟨196,mkS [(0,xP 0 0),(2,xI n),(7,xV 107),(8,xV 114),(9,xV 115),(10,xI x_.1)],mkH [(0,.var [pL x_.2.1,pI x_.2.2.1]),(107,bA 9 za9 x_.2.2.2.1),(114,bA 1 encI x_.2.2.2.2.1),(115,bA 1 encI x_.2.2.2.2.2)]⟩) hv_1 imp_au ?_
  ·rintro⟨i,t3,t4,out1,w,w1⟩ o_1 H1 k_1
   unfold zC1 at H1
   try dsimp only at H1 ⊢
   refine lok_seq ?_
   refine lok_rt E0 (⟨196,mkS [(0,xP 0 0),(2,xI n),(7,xV 107),(8,xV 114),(9,xV 115),(10,xI i),(20,xB (decide ((0:Int)<i)))],mkH [(0,.var [pL t3,pI t4]),(107,bA 9 za9 out1),(114,bA 1 encI w),(115,bA 1 encI w1)]⟩) ?_
   refine lok_c (decide ((0:Int)<i)) ?_ ?_
   ·intro b_52
    replace H1:=cpos H1 b_52
    refine lok_skip ?_
    try simp only [thenL,blockL,↓reduceIte,reduceCtorEq]
    refine lok_join (fun x_:(List Int)×Int×(List zh9)×(List Int)×(List Int)=>zE1 i x_.1 x_.2.1 x_.2.2.1 x_.2.2.2.1 x_.2.2.2.2=some o_1) (fun x_=>⟨196,mkS [(0,xP 0 0),(2,xI n),(7,xV 107),(8,xV 114),(9,xV 115),(10,xI i)],mkH [(0,.var [pL x_.1,pI x_.2.1]),(107,bA 9 za9 x_.2.2.1),(114,bA 1 encI x_.2.2.2.1),(115,bA 1 encI x_.2.2.2.2)]⟩) ?hymake_Tape_BagEvents_j2 ?hxmake_Tape_BagEvents_j2
    case hymake_Tape_BagEvents_j2=>
     rintro⟨t7,t8,out3,w2,w3⟩ H1
     try dsimp only at H1 ⊢
     unfold zE1 at H1
     refine lok_rl E0 (⟨196,mkS [(0,xP 0 0),(2,xI n),(7,xV 107),(8,xV 114),(9,xV 115),(10,xI (IntKind.i64.wrap (i - (1:Int))))],mkH [(0,.var [pL t7,pI t8]),(107,bA 9 za9 out3),(114,bA 1 encI w2),(115,bA 1 encI w3)]⟩) ?_
     try simp only [thenL,blockL,↓reduceIte,reduceCtorEq]
     exact⟨((IntKind.i64.wrap (i - (1:Int))),t7,t8,out3,w2,w3),(Option.some.inj H1).symm,imp_au⟩
    case hxmake_Tape_BagEvents_j2=>
     refine zz9 ?_
     replace H1:=bind_some H1
     obtain⟨⟨y2,y3⟩,h_2,H1⟩:=H1
     try dsimp only at H1
     refine lok_rt (Env.of E0 [⟨some 24,22,[.one (.ptr 0 0),oI (3:Int)],[.var [pL t3,pI t4]],[oI y2],[some (.var [pL y3.L,pI y3.At])],True,fun _=>zx9 (zk9.mk t3 t4) (3:Int) (y2,y3) h_2,[]⟩]) (⟨196,mkS [(0,xP 0 0),(2,xI n),(7,xV 107),(8,xV 114),(9,xV 115),(10,xI i),(11,xI y2)],mkH [(0,.var [pL y3.L,pI y3.At]),(107,bA 9 za9 out1),(114,bA 1 encI w),(115,bA 1 encI w1)]⟩) ?_
     replace H1:=bind_some H1
     obtain⟨⟨y4,y5⟩,h_3,H1⟩:=H1
     try dsimp only at H1
     replace H1:=bind_some H1
     obtain⟨⟨y6,y7⟩,h_4,H1⟩:=H1
     try dsimp only at H1
     replace H1:=req_some H1
     obtain⟨⟨q_50,q_51⟩,H1⟩:=H1
     replace H1:=bind_some H1
     obtain⟨⟨y8,y9⟩,h_5,H1⟩:=H1
     try dsimp only at H1
     refine lok_et (Env.of E0 [⟨some 28,22,[.one (.ptr 0 0),oI (2:Int)],[.var [pL y3.L,pI y3.At]],[oI y4],[some (.var [pL y5.L,pI y5.At])],True,fun _=>zx9 y3 (2:Int) (y4,y5) h_3,[]⟩,
   ⟨some 34,25,[.one (.ptr 0 0),oL ([(2:Int),(2:Int),(3:Int),(4:Int)])],[.var [pL y5.L,pI y5.At]],[oI y6],[some (.var [pL y7.L,pI y7.At])],True,fun _=>zS9 y5 ([(2:Int),(2:Int),(3:Int),(4:Int)]) (y6,y7) h_4,[]⟩,
   ⟨some 46,25,[.one (.ptr 0 0),oL ([(0:Int),(0:Int),(1:Int),(2:Int)])],[.var [pL y7.L,pI y7.At]],[oI y8],[some (.var [pL y9.L,pI y9.At])],True,fun _=>zS9 y7 ([(0:Int),(0:Int),(1:Int),(2:Int)]) (y8,y9) h_5,[]⟩]) 196 [⟨[(7,xV 107)],[],[(25,xV 107)],[],none⟩,
   ⟨[(25,xV 107)],[(107,some (bA 9 za9 out1))],[(26,xI (out1.length:Int))],[],none⟩,
   ⟨[(0,xP 0 0)],[],[(27,xP 0 0)],[],none⟩,
   ⟨[(27,xP 0 0)],[(0,some (.var [pL y3.L,pI y3.At]))],[(28,xI y4)],[(0,some (.var [pL y5.L,pI y5.At]))],none⟩,
   ⟨[(7,xV 107)],[],[(29,xV 107)],[],none⟩,
   ⟨[(29,xV 107)],[(107,some (bA 9 za9 out1))],[(30,xI (out1.length:Int))],[],none⟩,
   ⟨[(26,xI (out1.length:Int)),(28,xI y4),(30,xI (out1.length:Int))],[],[(31,.x (.agg [pI (out1.length:Int),pI y4,pI (out1.length:Int)]))],[],none⟩,
   ⟨[(0,xP 0 0)],[],[(32,xP 0 0)],[],none⟩,
   ⟨[],[],[(33,.x (.one (.fl 1 (List.map encI ([(2:Int),(2:Int),(3:Int),(4:Int)])))))],[],none⟩,
   ⟨[(32,xP 0 0),(33,.x (.one (.fl 1 (List.map encI ([(2:Int),(2:Int),(3:Int),(4:Int)])))))],[(0,some (.var [pL y5.L,pI y5.At]))],[(34,xI y6)],[(0,some (.var [pL y7.L,pI y7.At]))],none⟩,
   ⟨[(11,xI y2)],[],[(35,xI y2)],[],none⟩,
   ⟨[(9,xV 115)],[],[(36,xV 115)],[],none⟩,
   ⟨[(11,xI y2)],[],[(37,xI y2)],[],none⟩,
   ⟨[(36,xV 115),(37,xI y2)],[(115,some (bA 1 encI w1))],[(38,.x (.one (.ap 115 (y2.toNat) 0)))],[],none⟩,
   ⟨[(38,.x (.one (.ap 115 (y2.toNat) 0)))],[(115,some (bA 1 encI w1))],[(39,xI (ix w1 y2))],[],none⟩,
   ⟨[(8,xV 114)],[],[(40,xV 114)],[],none⟩,
   ⟨[(11,xI y2)],[],[(41,xI y2)],[],none⟩,
   ⟨[(40,xV 114),(41,xI y2)],[(114,some (bA 1 encI w))],[(42,.x (.one (.ap 114 (y2.toNat) 0)))],[],none⟩,
   ⟨[(42,.x (.one (.ap 114 (y2.toNat) 0)))],[(114,some (bA 1 encI w))],[(43,xI (ix w y2))],[],none⟩,
   ⟨[(0,xP 0 0)],[],[(44,xP 0 0)],[],none⟩,
   ⟨[],[],[(45,.x (.one (.fl 1 (List.map encI ([(0:Int),(0:Int),(1:Int),(2:Int)])))))],[],none⟩,
   ⟨[(44,xP 0 0),(45,.x (.one (.fl 1 (List.map encI ([(0:Int),(0:Int),(1:Int),(2:Int)])))))],[(0,some (.var [pL y7.L,pI y7.At]))],[(46,xI y8)],[(0,some (.var [pL y9.L,pI y9.At]))],none⟩,
   ⟨[(31,.x (.agg [pI (out1.length:Int),pI y4,pI (out1.length:Int)])),(34,xI y6),(35,xI y2),(39,xI (ix w1 y2)),(43,xI (ix w y2)),(46,xI y8)],[],[(47,.x (.agg [pI (out1.length:Int),pI y4,pI (out1.length:Int),pI y6,pI y2,pI (ix w1 y2),pI (ix w y2),pI y8,.p .nil]))],[],none⟩,
   ⟨[],[(112,none)],[(12,xP 112 0)],[(112,some (.var [pI (0:Int),pI (0:Int),pI (0:Int),pI (0:Int),pI (0:Int),pI (0:Int),pI (0:Int),pI (0:Int),.p .nil]))],some 112⟩] (⟨196,mkS [(0,xP 0 0),(2,xI n),(7,xV 107),(8,xV 114),(9,xV 115),(10,xI i),(11,xI y2),(12,xP 112 0)],mkH [(0,.var [pL y9.L,pI y9.At]),(107,bA 9 za9 out1),(112,.var [pI (out1.length:Int),pI y4,pI (out1.length:Int),pI y6,pI y2,pI (ix w1 y2),pI (ix w y2),pI y8,.p .nil]),(114,bA 1 encI w),(115,bA 1 encI w1)]⟩) (by kernel_rfl) (by kernel_rfl) (by kernel_rfl) rfl rfl rfl ?_
     refine lok_join (fun x_:(List Int)×Int×Int×Int×Int×Int×(List Int)×(List Int)×(List Int)=>zW9 n i out1 y2 y4 x_.1 x_.2.1 x_.2.2.1 x_.2.2.2.1 x_.2.2.2.2.1 x_.2.2.2.2.2.1 x_.2.2.2.2.2.2.1 x_.2.2.2.2.2.2.2.1 x_.2.2.2.2.2.2.2.2=some o_1) (fun x_=>⟨196,mkS [(0,xP 0 0),(2,xI n),(7,xV 107),(8,xV 114),(9,xV 115),(10,xI i),(12,xP 112 0)],mkH [(0,.var [pL x_.1,pI x_.2.1]),(107,bA 9 za9 out1),(112,.var [pI (out1.length:Int),pI y4,pI (out1.length:Int),pI x_.2.2.1,pI y2,pI x_.2.2.2.1,pI x_.2.2.2.2.1,pI x_.2.2.2.2.2.1,.vw 1117]),(114,bA 1 encI x_.2.2.2.2.2.2.1),(115,bA 1 encI x_.2.2.2.2.2.2.2.1),(1117,bA 1 encI x_.2.2.2.2.2.2.2.2)]⟩) ?hymake_Tape_BagEvents_j5 ?hxmake_Tape_BagEvents_j5
     case hymake_Tape_BagEvents_j5=>
      rintro⟨t9,t10,e,e1,e2,e3,w4,w5,w6⟩ H1
      try dsimp only at H1 ⊢
      unfold zW9 at H1
      refine lok_join (fun x_:Int=>zD1 n i out1 y2 t9 t10 e e1 e2 e3 w4 w5 w6 x_=some o_1) (fun x_=>⟨196,mkS [(0,xP 0 0),(2,xI n),(7,xV 107),(8,xV 114),(9,xV 115),(10,xI i),(12,xP 112 0)],mkH [(0,.var [pL t9,pI t10]),(107,bA 9 za9 out1),(112,.var [pI (out1.length:Int),pI x_,pI (out1.length:Int),pI e,pI y2,pI e1,pI e2,pI e3,.vw 1117]),(114,bA 1 encI w4),(115,bA 1 encI w5),(1117,bA 1 encI w6)]⟩) ?hymake_Tape_BagEvents_j4 ?hxmake_Tape_BagEvents_j4
      case hymake_Tape_BagEvents_j4=>
       rintro e4 H1
       try dsimp only at H1 ⊢
       unfold zD1 at H1
       refine lok_join (fun x_:(List Int)×Int×Int×Int×Int×Int×Int×Int×Int×Int×(List Int)=>zH9 i out1 w4 w5 x_.1 x_.2.1 x_.2.2.1 x_.2.2.2.1 x_.2.2.2.2.1 x_.2.2.2.2.2.1 x_.2.2.2.2.2.2.1 x_.2.2.2.2.2.2.2.1 x_.2.2.2.2.2.2.2.2.1 x_.2.2.2.2.2.2.2.2.2.1 x_.2.2.2.2.2.2.2.2.2.2=some o_1) (fun x_=>⟨196,mkS [(0,xP 0 0),(2,xI n),(7,xV 107),(8,xV 114),(9,xV 115),(10,xI i),(12,xP 112 0)],mkH [(0,.var [pL x_.1,pI x_.2.1]),(107,bA 9 za9 out1),(112,.var [pI x_.2.2.1,pI x_.2.2.2.1,pI x_.2.2.2.2.1,pI x_.2.2.2.2.2.1,pI x_.2.2.2.2.2.2.1,pI x_.2.2.2.2.2.2.2.1,pI x_.2.2.2.2.2.2.2.2.1,pI x_.2.2.2.2.2.2.2.2.2.1,.vw 1117]),(114,bA 1 encI w4),(115,bA 1 encI w5),(1117,bA 1 encI x_.2.2.2.2.2.2.2.2.2.2)]⟩) ?hymake_Tape_BagEvents_j3 ?hxmake_Tape_BagEvents_j3
       case hymake_Tape_BagEvents_j3=>
        rintro⟨t11,t12,e5,e6,e7,e8,e9,e10,e11,e12,w7⟩ H1
        try dsimp only at H1 ⊢
        unfold zH9 at H1
        refine lok_imp (st':=⟨196,mkS [(0,xP 0 0),(2,xI n),(7,xV 107),(8,xV 114),(9,xV 115),(10,xI i),(12,xP 112 0)],mkH [(0,.var [pL t11,pI t12]),(107,bA 9 za9 out1),(112,.var [pI e5,pI e6,pI e7,pI e8,pI e9,pI e10,pI e11,pI e12,pL w7]),(114,bA 1 encI w4),(115,bA 1 encI w5)]⟩) (Imp.trans (imp_frz 1117 1 (List.map encI w7)) imp_au) ?_
        replace H1:=req_some H1
        obtain⟨q_13,H1⟩:=H1
        replace H1:=zp1 H1
        obtain⟨out4,a_6,H1⟩:=H1
        refine lok_rtg E0 a_6 (⟨196,mkS [(0,xP 0 0),(2,xI n),(7,xV 107),(8,xV 114),(9,xV 115),(10,xI i)],mkH [(0,.var [pL t11,pI t12]),(107,bA 9 za9 out4),(114,bA 1 encI w4),(115,bA 1 encI w5)]⟩) ?_
        replace H1:=bind_some H1
        obtain⟨⟨y10,y11⟩,h_7,H1⟩:=H1
        try dsimp only at H1
        refine lok_rt (Env.of E0 [⟨some 184,23,[.one (.ptr 0 0),oI (8:Int)],[.var [pL t11,pI t12]],[oB y10],[some (.var [pL y11.L,pI y11.At])],True,fun _=>zF1 (zk9.mk t11 t12) (8:Int) (y10,y11) h_7,[]⟩]) (⟨196,mkS [(0,xP 0 0),(2,xI n),(7,xV 107),(8,xV 114),(9,xV 115),(10,xI i),(184,xB y10)],mkH [(0,.var [pL y11.L,pI y11.At]),(107,bA 9 za9 out4),(114,bA 1 encI w4),(115,bA 1 encI w5)]⟩) ?_
        refine lok_c y10 ?_ ?_
        ·intro b_12
         replace H1:=cpos H1 b_12
         replace H1:=bind_some H1
         obtain⟨⟨y12,y13⟩,h_8,H1⟩:=H1
         try dsimp only at H1
         replace H1:=req_some H1
         obtain⟨⟨q_10,q_11⟩,H1⟩:=H1
         replace H1:=zp1 H1
         obtain⟨out5,a_9,H1⟩:=H1
         refine lok_rlg (Env.of E0 [⟨some 190,22,[.one (.ptr 0 0),oI (out4.length:Int)],[.var [pL y11.L,pI y11.At]],[oI y12],[some (.var [pL y13.L,pI y13.At])],True,fun _=>zx9 y11 (out4.length:Int) (y12,y13) h_8,[]⟩]) a_9 (⟨196,mkS [(0,xP 0 0),(2,xI n),(7,xV 107),(8,xV 114),(9,xV 115),(10,xI i)],mkH [(0,.var [pL y13.L,pI y13.At]),(107,bA 9 za9 out5),(114,bA 1 encI w4),(115,bA 1 encI w5)]⟩) ?_
         try simp only [thenL,blockL,↓reduceIte,reduceCtorEq]
         exact⟨(y13.L,y13.At,out5,w4,w5),H1,imp_au⟩
        ·intro b_12
         replace H1:=cneg H1 b_12
         refine lok_skip ?_
         try simp only [thenL,blockL,↓reduceIte,reduceCtorEq]
         exact⟨(y11.L,y11.At,out4,w4,w5),H1,imp_au⟩
       case hxmake_Tape_BagEvents_j3=>
        rcases bcases (decide ((0:Int)<n)) with g_14_0 | g_14_0
        ·replace H1:=cpos H1 g_14_0
         replace H1:=bind_some H1
         obtain⟨⟨y14,y15⟩,h_14,H1⟩:=H1
         try dsimp only at H1
         refine lok_rtg (Env.of E0 [⟨some 133,23,[.one (.ptr 0 0),oI n],[.var [pL t9,pI t10]],[oB y14],[some (.var [pL y15.L,pI y15.At])],True,fun _=>zF1 (zk9.mk t9 t10) n (y14,y15) h_14,[]⟩]) g_14_0 (⟨196,mkS [(0,xP 0 0),(2,xI n),(7,xV 107),(8,xV 114),(9,xV 115),(10,xI i),(12,xP 112 0),(133,xB y14),(134,xB y14)],mkH [(0,.var [pL y15.L,pI y15.At]),(107,bA 9 za9 out1),(112,.var [pI (out1.length:Int),pI e4,pI (out1.length:Int),pI e,pI y2,pI e1,pI e2,pI e3,.vw 1117]),(114,bA 1 encI w4),(115,bA 1 encI w5),(1117,bA 1 encI w6)]⟩) ?_
         refine lok_c y14 ?_ ?_
         ·intro b_30
          replace H1:=cpos H1 b_30
          replace H1:=bind_some H1
          obtain⟨⟨y16,y17⟩,h_15,H1⟩:=H1
          try dsimp only at H1
          refine lok_rt (Env.of E0 [⟨some 136,22,[.one (.ptr 0 0),oI (7:Int)],[.var [pL y15.L,pI y15.At]],[oI y16],[some (.var [pL y17.L,pI y17.At])],True,fun _=>zx9 y15 (7:Int) (y16,y17) h_15,[]⟩]) (⟨196,mkS [(0,xP 0 0),(2,xI n),(7,xV 107),(8,xV 114),(9,xV 115),(10,xI i),(12,xP 112 0),(133,xB y14),(136,xI y16)],mkH [(0,.var [pL y17.L,pI y17.At]),(107,bA 9 za9 out1),(112,.var [pI (out1.length:Int),pI e4,pI (out1.length:Int),pI e,pI y2,pI e1,pI e2,pI e3,.vw 1117]),(114,bA 1 encI w4),(115,bA 1 encI w5),(1117,bA 1 encI w6)]⟩) ?_
          refine zz9 ?_
          refine lok_rt E0 (⟨196,mkS [(0,xP 0 0),(2,xI n),(7,xV 107),(8,xV 114),(9,xV 115),(10,xI i),(12,xP 112 0),(133,xB y14),(136,xI y16),(140,xB (y16==(0:Int)))],mkH [(0,.var [pL y17.L,pI y17.At]),(107,bA 9 za9 out1),(112,.var [pI (out1.length:Int),pI e4,pI (out1.length:Int),pI e,pI y2,pI e1,pI e2,pI e3,.vw 1117]),(114,bA 1 encI w4),(115,bA 1 encI w5),(1117,bA 1 encI w6)]⟩) ?_
          refine lok_c (y16==(0:Int)) ?_ ?_
          ·intro b_29
           replace H1:=cpos H1 b_29
           replace H1:=bind_some H1
           obtain⟨⟨y18,y19⟩,h_16,H1⟩:=H1
           try dsimp only at H1
           refine lok_rl (Env.of E0 [⟨some 143,21,[.one (.ptr 0 0),oI (-1:Int),oI (6:Int)],[.var [pL y17.L,pI y17.At]],[oI y18],[some (.var [pL y19.L,pI y19.At])],True,fun _=>zM9 y17 (-1:Int) (6:Int) (y18,y19) h_16,[]⟩]) (⟨196,mkS [(0,xP 0 0),(2,xI n),(7,xV 107),(8,xV 114),(9,xV 115),(10,xI i),(12,xP 112 0),(133,xB y14)],mkH [(0,.var [pL y19.L,pI y19.At]),(107,bA 9 za9 out1),(112,.var [pI (out1.length:Int),pI e4,pI (out1.length:Int),pI y18,pI y2,pI e1,pI e2,pI e3,.vw 1117]),(114,bA 1 encI w4),(115,bA 1 encI w5),(1117,bA 1 encI w6)]⟩) ?_
           try simp only [thenL,blockL,↓reduceIte,reduceCtorEq]
           exact⟨(y19.L,y19.At,(out1.length:Int),e4,(out1.length:Int),y18,y2,e1,e2,e3,w6),H1,imp_au⟩
          ·intro b_29
           replace H1:=cneg H1 b_29
           refine lok_rt E0 (⟨196,mkS [(0,xP 0 0),(2,xI n),(7,xV 107),(8,xV 114),(9,xV 115),(10,xI i),(12,xP 112 0),(133,xB y14),(136,xI y16),(145,xB (y16==(1:Int)))],mkH [(0,.var [pL y17.L,pI y17.At]),(107,bA 9 za9 out1),(112,.var [pI (out1.length:Int),pI e4,pI (out1.length:Int),pI e,pI y2,pI e1,pI e2,pI e3,.vw 1117]),(114,bA 1 encI w4),(115,bA 1 encI w5),(1117,bA 1 encI w6)]⟩) ?_
           refine lok_c (y16==(1:Int)) ?_ ?_
           ·intro b_28
            replace H1:=cpos H1 b_28
            replace H1:=bind_some H1
            obtain⟨⟨y20,y21⟩,h_17,H1⟩:=H1
            try dsimp only at H1
            refine lok_rl (Env.of E0 [⟨some 149,25,[.one (.ptr 0 0),oL ([(-1:Int),(0:Int),(3:Int),(9999:Int),(10000:Int)])],[.var [pL y17.L,pI y17.At]],[oI y20],[some (.var [pL y21.L,pI y21.At])],True,fun _=>zS9 y17 ([(-1:Int),(0:Int),(3:Int),(9999:Int),(10000:Int)]) (y20,y21) h_17,[]⟩]) (⟨196,mkS [(0,xP 0 0),(2,xI n),(7,xV 107),(8,xV 114),(9,xV 115),(10,xI i),(12,xP 112 0),(133,xB y14)],mkH [(0,.var [pL y21.L,pI y21.At]),(107,bA 9 za9 out1),(112,.var [pI (out1.length:Int),pI e4,pI (out1.length:Int),pI e,pI y20,pI e1,pI e2,pI e3,.vw 1117]),(114,bA 1 encI w4),(115,bA 1 encI w5),(1117,bA 1 encI w6)]⟩) ?_
            try simp only [thenL,blockL,↓reduceIte,reduceCtorEq]
            exact⟨(y21.L,y21.At,(out1.length:Int),e4,(out1.length:Int),e,y20,e1,e2,e3,w6),H1,imp_au⟩
           ·intro b_28
            replace H1:=cneg H1 b_28
            refine lok_rt E0 (⟨196,mkS [(0,xP 0 0),(2,xI n),(7,xV 107),(8,xV 114),(9,xV 115),(10,xI i),(12,xP 112 0),(133,xB y14),(136,xI y16),(151,xB (y16==(2:Int)))],mkH [(0,.var [pL y17.L,pI y17.At]),(107,bA 9 za9 out1),(112,.var [pI (out1.length:Int),pI e4,pI (out1.length:Int),pI e,pI y2,pI e1,pI e2,pI e3,.vw 1117]),(114,bA 1 encI w4),(115,bA 1 encI w5),(1117,bA 1 encI w6)]⟩) ?_
            refine lok_c (y16==(2:Int)) ?_ ?_
            ·intro b_27
             replace H1:=cpos H1 b_27
             replace H1:=bind_some H1
             obtain⟨⟨y22,y23⟩,h_18,H1⟩:=H1
             try dsimp only at H1
             refine lok_rl (Env.of E0 [⟨some 155,25,[.one (.ptr 0 0),oL ([(-1:Int),(0:Int),(10:Int),(1000000:Int),(1000001:Int)])],[.var [pL y17.L,pI y17.At]],[oI y22],[some (.var [pL y23.L,pI y23.At])],True,fun _=>zS9 y17 ([(-1:Int),(0:Int),(10:Int),(1000000:Int),(1000001:Int)]) (y22,y23) h_18,[]⟩]) (⟨196,mkS [(0,xP 0 0),(2,xI n),(7,xV 107),(8,xV 114),(9,xV 115),(10,xI i),(12,xP 112 0),(133,xB y14)],mkH [(0,.var [pL y23.L,pI y23.At]),(107,bA 9 za9 out1),(112,.var [pI (out1.length:Int),pI e4,pI (out1.length:Int),pI e,pI y2,pI y22,pI e2,pI e3,.vw 1117]),(114,bA 1 encI w4),(115,bA 1 encI w5),(1117,bA 1 encI w6)]⟩) ?_
             try simp only [thenL,blockL,↓reduceIte,reduceCtorEq]
             exact⟨(y23.L,y23.At,(out1.length:Int),e4,(out1.length:Int),e,y2,y22,e2,e3,w6),H1,imp_au⟩
            ·intro b_27
             replace H1:=cneg H1 b_27
             refine lok_rt E0 (⟨196,mkS [(0,xP 0 0),(2,xI n),(7,xV 107),(8,xV 114),(9,xV 115),(10,xI i),(12,xP 112 0),(133,xB y14),(136,xI y16),(157,xB (y16==(3:Int)))],mkH [(0,.var [pL y17.L,pI y17.At]),(107,bA 9 za9 out1),(112,.var [pI (out1.length:Int),pI e4,pI (out1.length:Int),pI e,pI y2,pI e1,pI e2,pI e3,.vw 1117]),(114,bA 1 encI w4),(115,bA 1 encI w5),(1117,bA 1 encI w6)]⟩) ?_
             refine lok_c (y16==(3:Int)) ?_ ?_
             ·intro b_26
              replace H1:=cpos H1 b_26
              replace H1:=bind_some H1
              obtain⟨⟨y24,y25⟩,h_19,H1⟩:=H1
              try dsimp only at H1
              refine lok_rl (Env.of E0 [⟨some 161,25,[.one (.ptr 0 0),oL ([(-1:Int),(0:Int),(1:Int),(99:Int),(100:Int)])],[.var [pL y17.L,pI y17.At]],[oI y24],[some (.var [pL y25.L,pI y25.At])],True,fun _=>zS9 y17 ([(-1:Int),(0:Int),(1:Int),(99:Int),(100:Int)]) (y24,y25) h_19,[]⟩]) (⟨196,mkS [(0,xP 0 0),(2,xI n),(7,xV 107),(8,xV 114),(9,xV 115),(10,xI i),(12,xP 112 0),(133,xB y14)],mkH [(0,.var [pL y25.L,pI y25.At]),(107,bA 9 za9 out1),(112,.var [pI (out1.length:Int),pI e4,pI (out1.length:Int),pI e,pI y2,pI e1,pI y24,pI e3,.vw 1117]),(114,bA 1 encI w4),(115,bA 1 encI w5),(1117,bA 1 encI w6)]⟩) ?_
              try simp only [thenL,blockL,↓reduceIte,reduceCtorEq]
              exact⟨(y25.L,y25.At,(out1.length:Int),e4,(out1.length:Int),e,y2,e1,y24,e3,w6),H1,imp_au⟩
             ·intro b_26
              replace H1:=cneg H1 b_26
              refine lok_rt E0 (⟨196,mkS [(0,xP 0 0),(2,xI n),(7,xV 107),(8,xV 114),(9,xV 115),(10,xI i),(12,xP 112 0),(133,xB y14),(136,xI y16),(163,xB (y16==(4:Int)))],mkH [(0,.var [pL y17.L,pI y17.At]),(107,bA 9 za9 out1),(112,.var [pI (out1.length:Int),pI e4,pI (out1.length:Int),pI e,pI y2,pI e1,pI e2,pI e3,.vw 1117]),(114,bA 1 encI w4),(115,bA 1 encI w5),(1117,bA 1 encI w6)]⟩) ?_
              refine lok_c (y16==(4:Int)) ?_ ?_
              ·intro b_25
               replace H1:=cpos H1 b_25
               replace H1:=bind_some H1
               obtain⟨⟨y26,y27⟩,h_20,H1⟩:=H1
               try dsimp only at H1
               refine lok_rl (Env.of E0 [⟨some 167,25,[.one (.ptr 0 0),oL ([(-1:Int),(0:Int),(1:Int),(99:Int),(100:Int)])],[.var [pL y17.L,pI y17.At]],[oI y26],[some (.var [pL y27.L,pI y27.At])],True,fun _=>zS9 y17 ([(-1:Int),(0:Int),(1:Int),(99:Int),(100:Int)]) (y26,y27) h_20,[]⟩]) (⟨196,mkS [(0,xP 0 0),(2,xI n),(7,xV 107),(8,xV 114),(9,xV 115),(10,xI i),(12,xP 112 0),(133,xB y14)],mkH [(0,.var [pL y27.L,pI y27.At]),(107,bA 9 za9 out1),(112,.var [pI (out1.length:Int),pI e4,pI (out1.length:Int),pI e,pI y2,pI e1,pI e2,pI y26,.vw 1117]),(114,bA 1 encI w4),(115,bA 1 encI w5),(1117,bA 1 encI w6)]⟩) ?_
               try simp only [thenL,blockL,↓reduceIte,reduceCtorEq]
               exact⟨(y27.L,y27.At,(out1.length:Int),e4,(out1.length:Int),e,y2,e1,e2,y26,w6),H1,imp_au⟩
              ·intro b_25
               replace H1:=cneg H1 b_25
               refine lok_rt E0 (⟨196,mkS [(0,xP 0 0),(2,xI n),(7,xV 107),(8,xV 114),(9,xV 115),(10,xI i),(12,xP 112 0),(133,xB y14),(169,xB (y16==(5:Int)))],mkH [(0,.var [pL y17.L,pI y17.At]),(107,bA 9 za9 out1),(112,.var [pI (out1.length:Int),pI e4,pI (out1.length:Int),pI e,pI y2,pI e1,pI e2,pI e3,.vw 1117]),(114,bA 1 encI w4),(115,bA 1 encI w5),(1117,bA 1 encI w6)]⟩) ?_
               refine lok_c (y16==(5:Int)) ?_ ?_
               ·intro b_24
                replace H1:=cpos H1 b_24
                replace H1:=bind_some H1
                obtain⟨⟨y28,y29⟩,h_21,H1⟩:=H1
                try dsimp only at H1
                replace H1:=req_some H1
                obtain⟨q_22,H1⟩:=H1
                refine lok_el (Env.of E0 [⟨some 175,25,[.one (.ptr 0 0),oL ([(0:Int),(9999:Int),(10000:Int),(-1:Int)])],[.var [pL y17.L,pI y17.At]],[oI y28],[some (.var [pL y29.L,pI y29.At])],True,fun _=>zS9 y17 ([(0:Int),(9999:Int),(10000:Int),(-1:Int)]) (y28,y29) h_21,[]⟩]) 196 [⟨[(12,xP 112 0)],[],[(171,xP 112 8)],[],none⟩,
   ⟨[(171,xP 112 8)],[(112,some (.var [pI (out1.length:Int),pI e4,pI (out1.length:Int),pI e,pI y2,pI e1,pI e2,pI e3,.vw 1117]))],[(172,xV 1117)],[],none⟩,
   ⟨[(0,xP 0 0)],[],[(173,xP 0 0)],[],none⟩,
   ⟨[],[],[(174,.x (.one (.fl 1 (List.map encI ([(0:Int),(9999:Int),(10000:Int),(-1:Int)])))))],[],none⟩,
   ⟨[(173,xP 0 0),(174,.x (.one (.fl 1 (List.map encI ([(0:Int),(9999:Int),(10000:Int),(-1:Int)])))))],[(0,some (.var [pL y17.L,pI y17.At]))],[(175,xI y28)],[(0,some (.var [pL y29.L,pI y29.At]))],none⟩,
   ⟨[(175,xI y28)],[],[(176,.x (.one (.fl 1 (List.map encI ([y28])))))],[],none⟩] (⟨196,mkS [(0,xP 0 0),(2,xI n),(7,xV 107),(8,xV 114),(9,xV 115),(10,xI i),(12,xP 112 0),(133,xB y14)],mkH [(0,.var [pL y29.L,pI y29.At]),(107,bA 9 za9 out1),(112,.var [pI (out1.length:Int),pI e4,pI (out1.length:Int),pI e,pI y2,pI e1,pI e2,pI e3,.vw 1117]),(114,bA 1 encI w4),(115,bA 1 encI w5),(1117,bA 1 encI (w6++[y28]))]⟩) (by kernel_rfl) (by kernel_rfl) (by kernel_rfl) rfl rfl rfl ?_
                try simp only [thenL,blockL,↓reduceIte,reduceCtorEq]
                exact⟨(y29.L,y29.At,(out1.length:Int),e4,(out1.length:Int),e,y2,e1,e2,e3,(w6++[y28])),H1,imp_au⟩
               ·intro b_24
                replace H1:=cneg H1 b_24
                replace H1:=bind_some H1
                obtain⟨⟨y30,y31⟩,h_23,H1⟩:=H1
                try dsimp only at H1
                refine lok_rl (Env.of E0 [⟨some 138,27,[.one (.ptr 0 0),oI (4:Int)],[.var [pL y17.L,pI y17.At]],[.agg [pI y30.Time,pI y30.Source,pI y30.Seq]],[some (.var [pL y31.L,pI y31.At])],True,fun _=>ok_make_Tape_Stamp y17 (4:Int) (y30,y31) h_23,[]⟩]) (⟨196,mkS [(0,xP 0 0),(2,xI n),(7,xV 107),(8,xV 114),(9,xV 115),(10,xI i),(12,xP 112 0),(133,xB y14)],mkH [(0,.var [pL y31.L,pI y31.At]),(107,bA 9 za9 out1),(112,.var [pI y30.Time,pI y30.Source,pI y30.Seq,pI e,pI y2,pI e1,pI e2,pI e3,.vw 1117]),(114,bA 1 encI w4),(115,bA 1 encI w5),(1117,bA 1 encI w6)]⟩) ?_
                try simp only [thenL,blockL,↓reduceIte,reduceCtorEq]
                exact⟨(y31.L,y31.At,y30.Time,y30.Source,y30.Seq,e,y2,e1,e2,e3,w6),H1,imp_au⟩
         ·intro b_30
          replace H1:=cneg H1 b_30
          refine lok_skip ?_
          try simp only [thenL,blockL,↓reduceIte,reduceCtorEq]
          exact⟨(y15.L,y15.At,(out1.length:Int),e4,(out1.length:Int),e,y2,e1,e2,e3,w6),H1,imp_au⟩
        ·replace H1:=cneg H1 g_14_0
         refine lok_rtg E0 g_14_0 (⟨196,mkS [(0,xP 0 0),(2,xI n),(7,xV 107),(8,xV 114),(9,xV 115),(10,xI i),(12,xP 112 0),(134,xB false)],mkH [(0,.var [pL t9,pI t10]),(107,bA 9 za9 out1),(112,.var [pI (out1.length:Int),pI e4,pI (out1.length:Int),pI e,pI y2,pI e1,pI e2,pI e3,.vw 1117]),(114,bA 1 encI w4),(115,bA 1 encI w5),(1117,bA 1 encI w6)]⟩) ?_
         refine lok_c false ?_ ?_
         ·intro h; exact absurd h (by decide)
         ·intro _
          refine lok_skip ?_
          try simp only [thenL,blockL,↓reduceIte,reduceCtorEq]
          exact⟨(t9,t10,(out1.length:Int),e4,(out1.length:Int),e,y2,e1,e2,e3,w6),H1,imp_au⟩
      case hxmake_Tape_BagEvents_j4=>
       refine lok_rt E0 (⟨196,mkS [(0,xP 0 0),(2,xI n),(7,xV 107),(8,xV 114),(9,xV 115),(10,xI i),(12,xP 112 0),(122,xB (y4 != (0:Int)))],mkH [(0,.var [pL t9,pI t10]),(107,bA 9 za9 out1),(112,.var [pI (out1.length:Int),pI y4,pI (out1.length:Int),pI e,pI y2,pI e1,pI e2,pI e3,.vw 1117]),(114,bA 1 encI w4),(115,bA 1 encI w5),(1117,bA 1 encI w6)]⟩) ?_
       refine lok_c (y4 != (0:Int)) ?_ ?_
       ·intro b_30
        replace H1:=cpos H1 b_30
        refine lok_rl E0 (⟨196,mkS [(0,xP 0 0),(2,xI n),(7,xV 107),(8,xV 114),(9,xV 115),(10,xI i),(12,xP 112 0)],mkH [(0,.var [pL t9,pI t10]),(107,bA 9 za9 out1),(112,.var [pI (out1.length:Int),pI (imax e2 (0:Int)),pI (out1.length:Int),pI e,pI y2,pI e1,pI e2,pI e3,.vw 1117]),(114,bA 1 encI w4),(115,bA 1 encI w5),(1117,bA 1 encI w6)]⟩) ?_
        try simp only [thenL,blockL,↓reduceIte,reduceCtorEq]
        exact⟨(imax e2 (0:Int)),H1,imp_au⟩
       ·intro b_30
        replace H1:=cneg H1 b_30
        refine lok_skip ?_
        try simp only [thenL,blockL,↓reduceIte,reduceCtorEq]
        exact⟨y4,H1,imp_au⟩
     case hxmake_Tape_BagEvents_j5=>
      replace H1:=req_some H1
      obtain⟨q_49,H1⟩:=H1
      refine lok_rt E0 (⟨196,mkS [(0,xP 0 0),(2,xI n),(7,xV 107),(8,xV 114),(9,xV 115),(10,xI i),(11,xI y2),(12,xP 112 0),(52,xB (decide ((ix w y2)<(0:Int))))],mkH [(0,.var [pL y9.L,pI y9.At]),(107,bA 9 za9 out1),(112,.var [pI (out1.length:Int),pI y4,pI (out1.length:Int),pI y6,pI y2,pI (ix w1 y2),pI (ix w y2),pI y8,.p .nil]),(114,bA 1 encI w),(115,bA 1 encI w1)]⟩) ?_
      refine lok_c (decide ((ix w y2)<(0:Int))) ?_ ?_
      ·intro b_48
       replace H1:=cpos H1 b_48
       replace H1:=bind_some H1
       obtain⟨⟨y32,y33⟩,h_31,H1⟩:=H1
       try dsimp only at H1
       replace H1:=bind_some H1
       obtain⟨⟨y34,y35⟩,h_32,H1⟩:=H1
       try dsimp only at H1
       refine lok_rt (Env.of E0 [⟨some 54,21,[.one (.ptr 0 0),oI (1:Int),oI (3:Int)],[.var [pL y9.L,pI y9.At]],[oI y32],[some (.var [pL y33.L,pI y33.At])],True,fun _=>zM9 y9 (1:Int) (3:Int) (y32,y33) h_31,[]⟩,
   ⟨some 58,22,[.one (.ptr 0 0),oI (4:Int)],[.var [pL y33.L,pI y33.At]],[oI y34],[some (.var [pL y35.L,pI y35.At])],True,fun _=>zx9 y33 (4:Int) (y34,y35) h_32,[]⟩]) (⟨196,mkS [(0,xP 0 0),(2,xI n),(7,xV 107),(8,xV 114),(9,xV 115),(10,xI i),(11,xI y2),(12,xP 112 0)],mkH [(0,.var [pL y35.L,pI y35.At]),(107,bA 9 za9 out1),(112,.var [pI (out1.length:Int),pI y4,pI (out1.length:Int),pI (1:Int),pI y2,pI (IntKind.i64.wrap ((IntKind.i64.wrap ((10:Int)*y2))+y34)),pI y32,pI (0:Int),.p .nil]),(114,bA 1 encI w),(115,bA 1 encI w1)]⟩) ?_
       refine lok_join (fun x_:(List Int)×Int×(List Int)=>make_Tape_BagEvents_j6 n i out1 w w1 y2 y4 y32 y34 x_.1 x_.2.1 x_.2.2=some o_1) (fun x_=>⟨196,mkS [(0,xP 0 0),(2,xI n),(7,xV 107),(8,xV 114),(9,xV 115),(10,xI i),(11,xI y2),(12,xP 112 0)],mkH [(0,.var [pL x_.1,pI x_.2.1]),(107,bA 9 za9 out1),(112,.var [pI (out1.length:Int),pI y4,pI (out1.length:Int),pI (1:Int),pI y2,pI (IntKind.i64.wrap ((IntKind.i64.wrap ((10:Int)*y2))+y34)),pI y32,pI (0:Int),.vw 181]),(114,bA 1 encI w),(115,bA 1 encI w1),(181,bA 1 encI x_.2.2)]⟩) ?hymake_Tape_BagEvents_j6 ?hxmake_Tape_BagEvents_j6
       case hymake_Tape_BagEvents_j6=>
        rintro⟨t13,t14,w8⟩ H1
        try dsimp only at H1 ⊢
        unfold make_Tape_BagEvents_j6 at H1
        replace H1:=req_some H1
        obtain⟨⟨q_34,q_35⟩,H1⟩:=H1
        replace H1:=zp1 H1
        obtain⟨w9,a_33,H1⟩:=H1
        refine lok_elg E0 196 [⟨[(8,xV 114)],[],[(83,xV 114)],[],none⟩,
   ⟨[(11,xI y2)],[],[(84,xI y2)],[],none⟩,
   ⟨[(9,xV 115)],[],[(85,xV 115)],[],none⟩,
   ⟨[(11,xI y2)],[],[(86,xI y2)],[],none⟩,
   ⟨[(12,xP 112 0)],[],[(87,xP 112 6)],[],none⟩,
   ⟨[(87,xP 112 6)],[(112,some (.var [pI (out1.length:Int),pI y4,pI (out1.length:Int),pI (1:Int),pI y2,pI (IntKind.i64.wrap ((IntKind.i64.wrap ((10:Int)*y2))+y34)),pI y32,pI (0:Int),.vw 181]))],[(88,xI y32)],[],none⟩,
   ⟨[(12,xP 112 0)],[],[(89,xP 112 5)],[],none⟩,
   ⟨[(89,xP 112 5)],[(112,some (.var [pI (out1.length:Int),pI y4,pI (out1.length:Int),pI (1:Int),pI y2,pI (IntKind.i64.wrap ((IntKind.i64.wrap ((10:Int)*y2))+y34)),pI y32,pI (0:Int),.vw 181]))],[(90,xI (IntKind.i64.wrap ((IntKind.i64.wrap ((10:Int)*y2))+y34)))],[],none⟩,
   ⟨[(83,xV 114),(84,xI y2)],[(114,some (bA 1 encI w))],[(91,.x (.one (.ap 114 (y2.toNat) 0)))],[],none⟩,
   ⟨[(88,xI y32),(91,.x (.one (.ap 114 (y2.toNat) 0)))],[(114,some (bA 1 encI w))],[],[(114,some (bA 1 encI (setI w y2 y32)))],none⟩] a_33 (⟨196,mkS [(0,xP 0 0),(2,xI n),(7,xV 107),(8,xV 114),(9,xV 115),(10,xI i),(12,xP 112 0)],mkH [(0,.var [pL t13,pI t14]),(107,bA 9 za9 out1),(112,.var [pI (out1.length:Int),pI y4,pI (out1.length:Int),pI (1:Int),pI y2,pI (IntKind.i64.wrap ((IntKind.i64.wrap ((10:Int)*y2))+y34)),pI y32,pI (0:Int),.vw 181]),(114,bA 1 encI (setI w y2 y32)),(115,bA 1 encI w9),(181,bA 1 encI w8)]⟩) (by kernel_rfl) (by kernel_rfl) (by kernel_rfl) rfl rfl rfl ?_
        try simp only [thenL,blockL,↓reduceIte,reduceCtorEq]
        exact⟨(t13,t14,(1:Int),(IntKind.i64.wrap ((IntKind.i64.wrap ((10:Int)*y2))+y34)),y32,(0:Int),(setI w y2 y32),w9,w8),H1,(Imp.trans (imp_ren 181 1117 (by decide) (by decide)) imp_au)⟩
       case hxmake_Tape_BagEvents_j6=>
        refine lok_rt E0 (⟨196,mkS [(0,xP 0 0),(2,xI n),(7,xV 107),(8,xV 114),(9,xV 115),(10,xI i),(11,xI y2),(12,xP 112 0),(13,xI (0:Int))],mkH [(0,.var [pL y35.L,pI y35.At]),(107,bA 9 za9 out1),(112,.var [pI (out1.length:Int),pI y4,pI (out1.length:Int),pI (1:Int),pI y2,pI (IntKind.i64.wrap ((IntKind.i64.wrap ((10:Int)*y2))+y34)),pI y32,pI (0:Int),.p .nil]),(114,bA 1 encI w),(115,bA 1 encI w1)]⟩) ?_
        refine zz9 ?_
        replace H1:=bind_some H1
        obtain⟨v_36,hv_36,H1⟩:=H1
        refine lok_iter (fun x_=>⟨196,mkS [(0,xP 0 0),(2,xI n),(7,xV 107),(8,xV 114),(9,xV 115),(10,xI i),(11,xI y2),(12,xP 112 0),(13,xI x_.1)],mkH [(0,.var [pL x_.2.1,pI x_.2.2.1]),(107,bA 9 za9 out1),(112,.var [pI (out1.length:Int),pI y4,pI (out1.length:Int),pI (1:Int),pI y2,pI (IntKind.i64.wrap ((IntKind.i64.wrap ((10:Int)*y2))+y34)),pI y32,pI (0:Int),.vw 181]),(114,bA 1 encI w),(115,bA 1 encI w1),(181,bA 1 encI x_.2.2.2)]⟩) hv_36 imp_au ?_
        ·rintro⟨c,t15,t16,w10⟩ o_2 H2 k_2
         unfold zm1 at H2
         try dsimp only at H2 ⊢
         refine lok_seq ?_
         refine lok_rt E0 (⟨196,mkS [(0,xP 0 0),(2,xI n),(7,xV 107),(8,xV 114),(9,xV 115),(10,xI i),(11,xI y2),(12,xP 112 0),(13,xI c),(65,xB (decide (c<(9:Int))))],mkH [(0,.var [pL t15,pI t16]),(107,bA 9 za9 out1),(112,.var [pI (out1.length:Int),pI y4,pI (out1.length:Int),pI (1:Int),pI y2,pI (IntKind.i64.wrap ((IntKind.i64.wrap ((10:Int)*y2))+y34)),pI y32,pI (0:Int),.vw 181]),(114,bA 1 encI w),(115,bA 1 encI w1),(181,bA 1 encI w10)]⟩) ?_
         refine lok_c (decide (c<(9:Int))) ?_ ?_
         ·intro b_40
          replace H2:=cpos H2 b_40
          refine lok_skip ?_
          try simp only [thenL,blockL,↓reduceIte,reduceCtorEq]
          refine lok_join (fun x_:(List Int)×Int×(List Int)=>zn1 c x_.1 x_.2.1 x_.2.2=some o_2) (fun x_=>⟨196,mkS [(0,xP 0 0),(2,xI n),(7,xV 107),(8,xV 114),(9,xV 115),(10,xI i),(11,xI y2),(12,xP 112 0),(13,xI c)],mkH [(0,.var [pL x_.1,pI x_.2.1]),(107,bA 9 za9 out1),(112,.var [pI (out1.length:Int),pI y4,pI (out1.length:Int),pI (1:Int),pI y2,pI (IntKind.i64.wrap ((IntKind.i64.wrap ((10:Int)*y2))+y34)),pI y32,pI (0:Int),.vw 181]),(114,bA 1 encI w),(115,bA 1 encI w1),(181,bA 1 encI x_.2.2)]⟩) ?hymake_Tape_BagEvents_j7 ?hxmake_Tape_BagEvents_j7
          case hymake_Tape_BagEvents_j7=>
           rintro⟨t19,t20,w12⟩ H2
           try dsimp only at H2 ⊢
           unfold zn1 at H2
           refine lok_rl E0 (⟨196,mkS [(0,xP 0 0),(2,xI n),(7,xV 107),(8,xV 114),(9,xV 115),(10,xI i),(11,xI y2),(12,xP 112 0),(13,xI (IntKind.i64.wrap (c+(1:Int))))],mkH [(0,.var [pL t19,pI t20]),(107,bA 9 za9 out1),(112,.var [pI (out1.length:Int),pI y4,pI (out1.length:Int),pI (1:Int),pI y2,pI (IntKind.i64.wrap ((IntKind.i64.wrap ((10:Int)*y2))+y34)),pI y32,pI (0:Int),.vw 181]),(114,bA 1 encI w),(115,bA 1 encI w1),(181,bA 1 encI w12)]⟩) ?_
           try simp only [thenL,blockL,↓reduceIte,reduceCtorEq]
           exact⟨((IntKind.i64.wrap (c+(1:Int))),t19,t20,w12),(Option.some.inj H2).symm,imp_au⟩
          case hxmake_Tape_BagEvents_j7=>
           refine zz9 ?_
           replace H2:=bind_some H2
           obtain⟨y36,h_37,H2⟩:=H2
           rcases bcases (y36==y2) with g_38_0 | g_38_0
           ·replace H2:=cpos H2 g_38_0
            replace H2:=bind_some H2
            obtain⟨⟨y37,y38⟩,h_38,H2⟩:=H2
            try dsimp only at H2
            refine lok_rtg (Env.of E0 [⟨some 69,26,[oI c,oI (3:Int)],[],[oI y36],[],True,fun _=>ok_make_Cut c (3:Int) y36 h_37,[]⟩,
   ⟨some 74,22,[.one (.ptr 0 0),oI (3:Int)],[.var [pL t15,pI t16]],[oI y37],[some (.var [pL y38.L,pI y38.At])],True,fun _=>zx9 (zk9.mk t15 t16) (3:Int) (y37,y38) h_38,[]⟩]) g_38_0 (⟨196,mkS [(0,xP 0 0),(2,xI n),(7,xV 107),(8,xV 114),(9,xV 115),(10,xI i),(11,xI y2),(12,xP 112 0),(13,xI c),(74,xI y37),(76,xB (decide ((0:Int)<y37)))],mkH [(0,.var [pL y38.L,pI y38.At]),(107,bA 9 za9 out1),(112,.var [pI (out1.length:Int),pI y4,pI (out1.length:Int),pI (1:Int),pI y2,pI (IntKind.i64.wrap ((IntKind.i64.wrap ((10:Int)*y2))+y34)),pI y32,pI (0:Int),.vw 181]),(114,bA 1 encI w),(115,bA 1 encI w1),(181,bA 1 encI w10)]⟩) ?_
            refine lok_c (decide ((0:Int)<y37)) ?_ ?_
            ·intro b_40
             replace H2:=cpos H2 b_40
             replace H2:=req_some H2
             obtain⟨q_39,H2⟩:=H2
             refine lok_rl E0 (⟨196,mkS [(0,xP 0 0),(2,xI n),(7,xV 107),(8,xV 114),(9,xV 115),(10,xI i),(11,xI y2),(12,xP 112 0),(13,xI c),(74,xI y37)],mkH [(0,.var [pL y38.L,pI y38.At]),(107,bA 9 za9 out1),(112,.var [pI (out1.length:Int),pI y4,pI (out1.length:Int),pI (1:Int),pI y2,pI (IntKind.i64.wrap ((IntKind.i64.wrap ((10:Int)*y2))+y34)),pI y32,pI (0:Int),.vw 181]),(114,bA 1 encI w),(115,bA 1 encI w1),(181,bA 1 encI (w10++[c]))]⟩) ?_
             try simp only [thenL,blockL,↓reduceIte,reduceCtorEq]
             exact⟨(y38.L,y38.At,(w10++[c])),H2,imp_au⟩
            ·intro b_40
             replace H2:=cneg H2 b_40
             refine lok_skip ?_
             try simp only [thenL,blockL,↓reduceIte,reduceCtorEq]
             exact⟨(y38.L,y38.At,w10),H2,imp_au⟩
           ·replace H2:=cneg H2 g_38_0
            refine lok_rtg (Env.of E0 [⟨some 69,26,[oI c,oI (3:Int)],[],[oI y36],[],True,fun _=>ok_make_Cut c (3:Int) y36 h_37,[]⟩]) g_38_0 (⟨196,mkS [(0,xP 0 0),(2,xI n),(7,xV 107),(8,xV 114),(9,xV 115),(10,xI i),(11,xI y2),(12,xP 112 0),(13,xI c),(76,xB false)],mkH [(0,.var [pL t15,pI t16]),(107,bA 9 za9 out1),(112,.var [pI (out1.length:Int),pI y4,pI (out1.length:Int),pI (1:Int),pI y2,pI (IntKind.i64.wrap ((IntKind.i64.wrap ((10:Int)*y2))+y34)),pI y32,pI (0:Int),.vw 181]),(114,bA 1 encI w),(115,bA 1 encI w1),(181,bA 1 encI w10)]⟩) ?_
            refine lok_c false ?_ ?_
            ·intro h; exact absurd h (by decide)
            ·intro _
             refine lok_skip ?_
             try simp only [thenL,blockL,↓reduceIte,reduceCtorEq]
             exact⟨(t15,t16,w10),H2,imp_au⟩
         ·intro b_40
          replace H2:=cneg H2 b_40
          refine lok_exit ?_
          try simp only [thenL,blockL,↓reduceIte,reduceCtorEq]
          have e_2:=k_2 _ (Option.some.inj H2).symm
          subst e_2
          try dsimp only at H1
          try simp only [thenL,blockL,↓reduceIte,reduceCtorEq]
          exact⟨(t15,t16,w10),H1,imp_au⟩
      ·intro b_48
       replace H1:=cneg H1 b_48
       refine lok_rt E0 (⟨196,mkS [(0,xP 0 0),(2,xI n),(7,xV 107),(8,xV 114),(9,xV 115),(10,xI i),(11,xI y2),(12,xP 112 0),(95,xB (y6==(2:Int)))],mkH [(0,.var [pL y9.L,pI y9.At]),(107,bA 9 za9 out1),(112,.var [pI (out1.length:Int),pI y4,pI (out1.length:Int),pI y6,pI y2,pI (ix w1 y2),pI (ix w y2),pI y8,.p .nil]),(114,bA 1 encI w),(115,bA 1 encI w1)]⟩) ?_
       refine lok_c (y6==(2:Int)) ?_ ?_
       ·intro b_47
        replace H1:=cpos H1 b_47
        replace H1:=req_some H1
        obtain⟨q_41,H1⟩:=H1
        refine lok_rl E0 (⟨196,mkS [(0,xP 0 0),(2,xI n),(7,xV 107),(8,xV 114),(9,xV 115),(10,xI i),(12,xP 112 0)],mkH [(0,.var [pL y9.L,pI y9.At]),(107,bA 9 za9 out1),(112,.var [pI (out1.length:Int),pI y4,pI (out1.length:Int),pI y6,pI y2,pI (ix w1 y2),pI (ix w y2),pI y8,.p .nil]),(114,bA 1 encI (setI w y2 y8)),(115,bA 1 encI w1)]⟩) ?_
        try simp only [thenL,blockL,↓reduceIte,reduceCtorEq]
        exact⟨(y9.L,y9.At,y6,(ix w1 y2),(ix w y2),y8,(setI w y2 y8),w1,([]:List Int)),H1,imp_au⟩
       ·intro b_47
        replace H1:=cneg H1 b_47
        refine lok_rt E0 (⟨196,mkS [(0,xP 0 0),(2,xI n),(7,xV 107),(8,xV 114),(9,xV 115),(10,xI i),(11,xI y2),(12,xP 112 0),(103,xB (y6==(4:Int)))],mkH [(0,.var [pL y9.L,pI y9.At]),(107,bA 9 za9 out1),(112,.var [pI (out1.length:Int),pI y4,pI (out1.length:Int),pI y6,pI y2,pI (ix w1 y2),pI (ix w y2),pI y8,.p .nil]),(114,bA 1 encI w),(115,bA 1 encI w1)]⟩) ?_
        refine lok_c (y6==(4:Int)) ?_ ?_
        ·intro b_46
         replace H1:=cpos H1 b_46
         replace H1:=bind_some H1
         obtain⟨⟨y39,y40⟩,h_42,H1⟩:=H1
         try dsimp only at H1
         refine lok_rt (Env.of E0 [⟨some 105,22,[.one (.ptr 0 0),oI (40:Int)],[.var [pL y9.L,pI y9.At]],[oI y39],[some (.var [pL y40.L,pI y40.At])],True,fun _=>zx9 y9 (40:Int) (y39,y40) h_42,[]⟩]) (⟨196,mkS [(0,xP 0 0),(2,xI n),(7,xV 107),(8,xV 114),(9,xV 115),(10,xI i),(11,xI y2),(12,xP 112 0)],mkH [(0,.var [pL y40.L,pI y40.At]),(107,bA 9 za9 out1),(112,.var [pI (out1.length:Int),pI y4,pI (out1.length:Int),pI y6,pI y2,pI (IntKind.i64.wrap ((100:Int)+y39)),pI (ix w y2),pI y8,.p .nil]),(114,bA 1 encI w),(115,bA 1 encI w1)]⟩) ?_
         replace H1:=req_some H1
         obtain⟨q_43,H1⟩:=H1
         refine lok_rl E0 (⟨196,mkS [(0,xP 0 0),(2,xI n),(7,xV 107),(8,xV 114),(9,xV 115),(10,xI i),(12,xP 112 0)],mkH [(0,.var [pL y40.L,pI y40.At]),(107,bA 9 za9 out1),(112,.var [pI (out1.length:Int),pI y4,pI (out1.length:Int),pI y6,pI y2,pI (IntKind.i64.wrap ((100:Int)+y39)),pI (ix w y2),pI y8,.p .nil]),(114,bA 1 encI w),(115,bA 1 encI (setI w1 y2 (IntKind.i64.wrap ((100:Int)+y39))))]⟩) ?_
         try simp only [thenL,blockL,↓reduceIte,reduceCtorEq]
         exact⟨(y40.L,y40.At,y6,(IntKind.i64.wrap ((100:Int)+y39)),(ix w y2),y8,w,(setI w1 y2 (IntKind.i64.wrap ((100:Int)+y39))),([]:List Int)),H1,imp_au⟩
        ·intro b_46
         replace H1:=cneg H1 b_46
         refine lok_rt E0 (⟨196,mkS [(0,xP 0 0),(2,xI n),(7,xV 107),(8,xV 114),(9,xV 115),(10,xI i),(12,xP 112 0),(115,xB (y6==(3:Int)))],mkH [(0,.var [pL y9.L,pI y9.At]),(107,bA 9 za9 out1),(112,.var [pI (out1.length:Int),pI y4,pI (out1.length:Int),pI y6,pI y2,pI (ix w1 y2),pI (ix w y2),pI y8,.p .nil]),(114,bA 1 encI w),(115,bA 1 encI w1)]⟩) ?_
         refine lok_c (y6==(3:Int)) ?_ ?_
         ·intro b_45
          replace H1:=cpos H1 b_45
          replace H1:=bind_some H1
          obtain⟨⟨y41,y42⟩,h_44,H1⟩:=H1
          try dsimp only at H1
          refine lok_rl (Env.of E0 [⟨some 117,28,[.one (.ptr 0 0),oI (9:Int)],[.var [pL y9.L,pI y9.At]],[.one (.vw 1)],[some (.var [pL y42.L,pI y42.At]),some (bA 1 encI y41)],True,fun _=>ok_make_Tape_Sorted y9 (9:Int) (y41,y42) h_44,[]⟩]) (⟨196,mkS [(0,xP 0 0),(2,xI n),(7,xV 107),(8,xV 114),(9,xV 115),(10,xI i),(12,xP 112 0)],mkH [(0,.var [pL y42.L,pI y42.At]),(107,bA 9 za9 out1),(112,.var [pI (out1.length:Int),pI y4,pI (out1.length:Int),pI y6,pI y2,pI (ix w1 y2),pI (ix w y2),pI y8,.vw 1117]),(114,bA 1 encI w),(115,bA 1 encI w1),(1117,bA 1 encI y41)]⟩) ?_
          try simp only [thenL,blockL,↓reduceIte,reduceCtorEq]
          exact⟨(y42.L,y42.At,y6,(ix w1 y2),(ix w y2),y8,w,w1,y41),H1,imp_au⟩
         ·intro b_45
          replace H1:=cneg H1 b_45
          refine lok_skip ?_
          try simp only [thenL,blockL,↓reduceIte,reduceCtorEq]
          exact⟨(y9.L,y9.At,y6,(ix w1 y2),(ix w y2),y8,w,w1,([]:List Int)),H1,imp_au⟩
   ·intro b_52
    replace H1:=cneg H1 b_52
    refine lok_exit ?_
    try simp only [thenL,blockL,↓reduceIte,reduceCtorEq]
    have e_1:=k_1 _ (Option.some.inj H1).symm
    subst e_1
    try dsimp only at H0
    try simp only [thenL,blockL,↓reduceIte,reduceCtorEq]
    exact⟨(t3,t4,out1),H0,imp_au⟩
theorem ok_make_Tape_Order (t:zk9) (n:Int) (r_:(List Int)×zk9) (H0:make_Tape_Order t n=some r_):CallOK Tryz.prog 29 [.one (.ptr 0 0),.one (.p (pi n))] [.var [.p (.sl 1 (List.map encI t.L)),.p (pi t.At)]] [.one (.p (.sl 1 (List.map encI r_.1)))] [some (.var [.p (.sl 1 (List.map encI r_.2.L)),.p (pi r_.2.At)])]:=by
 refine callOK (n:=33) (rs:=[.tmp 4]) (nb:=1) (V:=[0]) Tryz.func29 rfl (by kernel_rfl) rfl rfl rfl rfl (Nat.le_of_ble_eq_true rfl) (by decide) ?_
 unfold make_Tape_Order at H0
 refine lok_rt E0 (⟨33,mkS [(0,xP 0 0),(1,xI n)],mkH [(0,.var [pL t.L,pI t.At])]⟩) ?_
 refine lok_rt E0 (⟨33,mkS [(0,xP 0 0),(1,xI n),(5,xV 105)],mkH [(0,.var [pL t.L,pI t.At]),(105,bA 1 encI ([]:List Int))]⟩) ?_
 refine lok_join (fun x_:(List Int)×(List Int)×Int=>make_Tape_Order_j1 x_.1 x_.2.1 x_.2.2=some r_) (fun x_=>⟨33,mkS [(5,xL x_.1)],mkH [(0,.var [pL x_.2.1,pI x_.2.2])]⟩) ?hymake_Tape_Order_j1 ?hxmake_Tape_Order_j1
 case hymake_Tape_Order_j1=>
  rintro⟨out,t1,t2⟩ H0
  try dsimp only at H0 ⊢
  unfold make_Tape_Order_j1 at H0
  refine lok_rt E0 (⟨33,mkS [(4,xL out)],mkH [(0,.var [pL t1,pI t2])]⟩) ?_
  refine lok_ret ?_
  try obtain rfl:=Option.some.inj H0
  try simp only [thenL,blockL]
  exact fin_au _ (.inr rfl) [0] (⟨33,mkS [(4,xL out)],mkH [(0,.var [pL t1,pI t2])]⟩) rfl rfl imp_au
 case hxmake_Tape_Order_j1=>
  refine lok_rt E0 (⟨33,mkS [(0,xP 0 0),(1,xI n),(5,xV 105),(6,xI (0:Int))],mkH [(0,.var [pL t.L,pI t.At]),(105,bA 1 encI ([]:List Int))]⟩) ?_
  refine zz9 ?_
  replace H0:=bind_some H0
  obtain⟨v_0,hv_0,H0⟩:=H0
  refine lok_iter (fun x_=>⟨33,mkS [(0,xP 0 0),(1,xI n),(5,xL x_.1),(6,xI x_.2.1)],mkH [(0,.var [pL x_.2.2.1,pI x_.2.2.2])]⟩) hv_0 (Imp.trans (imp_frz 105 1 (List.map encI ([]:List Int))) imp_au) ?_
  ·rintro⟨out1,i,t3,t4⟩ o_1 H1 k_1
   unfold make_Tape_Order_l2 at H1
   try dsimp only at H1 ⊢
   refine lok_seq ?_
   refine lok_rt E0 (⟨33,mkS [(0,xP 0 0),(1,xI n),(5,xL out1),(6,xI i),(11,xB (decide (i<n)))],mkH [(0,.var [pL t3,pI t4])]⟩) ?_
   refine lok_c (decide (i<n)) ?_ ?_
   ·intro b_8
    replace H1:=cpos H1 b_8
    refine lok_skip ?_
    try simp only [thenL,blockL,↓reduceIte,reduceCtorEq]
    refine lok_seq ?_
    refine zz9 ?_
    replace H1:=bind_some H1
    obtain⟨⟨y,y1⟩,h_1,H1⟩:=H1
    try dsimp only at H1
    refine lok_rt (Env.of E0 [⟨some 17,22,[.one (.ptr 0 0),oI (IntKind.i64.wrap (i+(1:Int)))],[.var [pL t3,pI t4]],[oI y],[some (.var [pL y1.L,pI y1.At])],True,fun _=>zx9 (zk9.mk t3 t4) (IntKind.i64.wrap (i+(1:Int))) (y,y1) h_1,[]⟩]) (⟨33,mkS [(0,xP 0 0),(1,xI n),(5,xL out1),(6,xI i),(7,xI y)],mkH [(0,.var [pL y1.L,pI y1.At])]⟩) ?_
    refine lok_rt E0 (⟨33,mkS [(0,xP 0 0),(1,xI n),(5,xL out1),(6,xI i),(7,xI y),(8,xV 108)],mkH [(0,.var [pL y1.L,pI y1.At]),(108,bA 1 encI ([]:List Int))]⟩) ?_
    replace H1:=req_some H1
    obtain⟨⟨q_6,q_7⟩,H1⟩:=H1
    refine lok_rt E0 (⟨33,mkS [(0,xP 0 0),(1,xI n),(5,xL out1),(6,xI i),(7,xI y),(8,xV 108)],mkH [(0,.var [pL y1.L,pI y1.At]),(108,bA 1 encI (([]:List Int)++(List.take y.toNat out1)))]⟩) ?_
    replace H1:=req_some H1
    obtain⟨q_5,H1⟩:=H1
    refine lok_rt E0 (⟨33,mkS [(0,xP 0 0),(1,xI n),(5,xL out1),(6,xI i),(7,xI y),(8,xV 108)],mkH [(0,.var [pL y1.L,pI y1.At]),(108,bA 1 encI ((([]:List Int)++(List.take y.toNat out1))++[i]))]⟩) ?_
    replace H1:=req_some H1
    obtain⟨⟨q_3,q_4⟩,H1⟩:=H1
    replace H1:=zp1 H1
    obtain⟨next,a_2,H1⟩:=H1
    refine lok_rlg E0 a_2 (⟨33,mkS [(0,xP 0 0),(1,xI n),(5,xV 108),(6,xI i)],mkH [(0,.var [pL y1.L,pI y1.At]),(108,bA 1 encI next)]⟩) ?_
    try simp only [thenL,blockL,↓reduceIte,reduceCtorEq]
    refine lok_rl E0 (⟨33,mkS [(0,xP 0 0),(1,xI n),(5,xV 108),(6,xI (IntKind.i64.wrap (i+(1:Int))))],mkH [(0,.var [pL y1.L,pI y1.At]),(108,bA 1 encI next)]⟩) ?_
    try simp only [thenL,blockL,↓reduceIte,reduceCtorEq]
    exact⟨(next,(IntKind.i64.wrap (i+(1:Int))),y1.L,y1.At),(Option.some.inj H1).symm,(Imp.trans (imp_frz 108 1 (List.map encI next)) imp_au)⟩
   ·intro b_8
    replace H1:=cneg H1 b_8
    refine lok_exit ?_
    try simp only [thenL,blockL,↓reduceIte,reduceCtorEq]
    have e_1:=k_1 _ (Option.some.inj H1).symm
    subst e_1
    try dsimp only at H0
    try simp only [thenL,blockL,↓reduceIte,reduceCtorEq]
    exact⟨(out1,t3,t4),H0,imp_au⟩
theorem ok_make_Tape_Mixed (t:zk9) (n:Int) (r_:(List Int)×zk9) (H0:make_Tape_Mixed t n=some r_):CallOK Tryz.prog 9 [.one (.ptr 0 0),.one (.p (pi n))] [.var [.p (.sl 1 (List.map encI t.L)),.p (pi t.At)]] [.one (.p (.sl 1 (List.map encI r_.1)))] [some (.var [.p (.sl 1 (List.map encI r_.2.L)),.p (pi r_.2.At)])]:=by
 refine callOK (n:=46) (rs:=[.tmp 4]) (nb:=1) (V:=[0]) Tryz.func9 rfl (by kernel_rfl) rfl rfl rfl rfl (Nat.le_of_ble_eq_true rfl) (by decide) ?_
 unfold make_Tape_Mixed at H0
 refine lok_rt E0 (⟨46,mkS [(0,xP 0 0),(1,xI n)],mkH [(0,.var [pL t.L,pI t.At])]⟩) ?_
 replace H0:=bind_some H0
 obtain⟨⟨y,y1⟩,h_0,H0⟩:=H0
 try dsimp only at H0
 refine lok_rt (Env.of E0 [⟨some 12,29,[.one (.ptr 0 0),oI n],[.var [pL t.L,pI t.At]],[oL y],[some (.var [pL y1.L,pI y1.At])],True,fun _=>ok_make_Tape_Order t n (y,y1) h_0,[]⟩]) (⟨46,mkS [(0,xP 0 0),(1,xI n),(5,xL y)],mkH [(0,.var [pL y1.L,pI y1.At])]⟩) ?_
 refine lok_join (fun x_:(List Int)×(List Int)×Int=>make_Tape_Mixed_j1 x_.1 x_.2.1 x_.2.2=some r_) (fun x_=>⟨46,mkS [(5,xL x_.1)],mkH [(0,.var [pL x_.2.1,pI x_.2.2])]⟩) ?hymake_Tape_Mixed_j1 ?hxmake_Tape_Mixed_j1
 case hymake_Tape_Mixed_j1=>
  rintro⟨out,t1,t2⟩ H0
  try dsimp only at H0 ⊢
  unfold make_Tape_Mixed_j1 at H0
  refine lok_rt E0 (⟨46,mkS [(4,xL out)],mkH [(0,.var [pL t1,pI t2])]⟩) ?_
  refine lok_ret ?_
  try obtain rfl:=Option.some.inj H0
  try simp only [thenL,blockL]
  exact fin_au _ (.inr rfl) [0] (⟨46,mkS [(4,xL out)],mkH [(0,.var [pL t1,pI t2])]⟩) rfl rfl imp_au
 case hxmake_Tape_Mixed_j1=>
  replace H0:=bind_some H0
  obtain⟨⟨y2,y3⟩,h_1,H0⟩:=H0
  try dsimp only at H0
  refine lok_rt (Env.of E0 [⟨some 14,22,[.one (.ptr 0 0),oI (4:Int)],[.var [pL y1.L,pI y1.At]],[oI y2],[some (.var [pL y3.L,pI y3.At])],True,fun _=>zx9 y1 (4:Int) (y2,y3) h_1,[]⟩]) (⟨46,mkS [(0,xP 0 0),(1,xI n),(5,xL y),(6,xI y2)],mkH [(0,.var [pL y3.L,pI y3.At])]⟩) ?_
  refine zz9 ?_
  replace H0:=bind_some H0
  obtain⟨v_2,hv_2,H0⟩:=H0
  refine lok_iter (fun x_=>⟨46,mkS [(0,xP 0 0),(1,xI n),(5,xL x_.1),(6,xI x_.2.1)],mkH [(0,.var [pL x_.2.2.1,pI x_.2.2.2])]⟩) hv_2 imp_au ?_
  ·rintro⟨out1,i,t3,t4⟩ o_1 H1 k_1
   unfold make_Tape_Mixed_l2 at H1
   try dsimp only at H1 ⊢
   refine lok_seq ?_
   refine lok_rt E0 (⟨46,mkS [(0,xP 0 0),(1,xI n),(5,xL out1),(6,xI i),(20,xB ((decide ((0:Int)<i))&&(decide ((0:Int)<n))))],mkH [(0,.var [pL t3,pI t4])]⟩) ?_
   refine lok_c ((decide ((0:Int)<i))&&(decide ((0:Int)<n))) ?_ ?_
   ·intro b_11
    replace H1:=cpos H1 b_11
    refine lok_skip ?_
    try simp only [thenL,blockL,↓reduceIte,reduceCtorEq]
    refine lok_seq ?_
    refine zz9 ?_
    replace H1:=bind_some H1
    obtain⟨⟨y4,y5⟩,h_3,H1⟩:=H1
    try dsimp only at H1
    replace H1:=bind_some H1
    obtain⟨⟨y6,y7⟩,h_4,H1⟩:=H1
    try dsimp only at H1
    refine lok_rt (Env.of E0 [⟨some 27,22,[.one (.ptr 0 0),oI (IntKind.i64.wrap ((out1.length:Int)+(1:Int)))],[.var [pL t3,pI t4]],[oI y4],[some (.var [pL y5.L,pI y5.At])],True,fun _=>zx9 (zk9.mk t3 t4) (IntKind.i64.wrap ((out1.length:Int)+(1:Int))) (y4,y5) h_3,[]⟩,
   ⟨some 30,22,[.one (.ptr 0 0),oI n],[.var [pL y5.L,pI y5.At]],[oI y6],[some (.var [pL y7.L,pI y7.At])],True,fun _=>zx9 y5 n (y6,y7) h_4,[]⟩]) (⟨46,mkS [(0,xP 0 0),(1,xI n),(5,xL out1),(6,xI i),(7,xI y4),(8,xI y6)],mkH [(0,.var [pL y7.L,pI y7.At])]⟩) ?_
    refine lok_rt E0 (⟨46,mkS [(0,xP 0 0),(1,xI n),(5,xL out1),(6,xI i),(7,xI y4),(8,xI y6),(9,xV 109)],mkH [(0,.var [pL y7.L,pI y7.At]),(109,bA 1 encI ([]:List Int))]⟩) ?_
    replace H1:=req_some H1
    obtain⟨⟨q_9,q_10⟩,H1⟩:=H1
    refine lok_rt E0 (⟨46,mkS [(0,xP 0 0),(1,xI n),(5,xL out1),(6,xI i),(7,xI y4),(8,xI y6),(9,xV 109)],mkH [(0,.var [pL y7.L,pI y7.At]),(109,bA 1 encI (([]:List Int)++(List.take y4.toNat out1)))]⟩) ?_
    replace H1:=req_some H1
    obtain⟨q_8,H1⟩:=H1
    refine lok_rt E0 (⟨46,mkS [(0,xP 0 0),(1,xI n),(5,xL out1),(6,xI i),(7,xI y4),(9,xV 109)],mkH [(0,.var [pL y7.L,pI y7.At]),(109,bA 1 encI ((([]:List Int)++(List.take y4.toNat out1))++[y6]))]⟩) ?_
    replace H1:=req_some H1
    obtain⟨⟨q_6,q_7⟩,H1⟩:=H1
    replace H1:=zp1 H1
    obtain⟨next,a_5,H1⟩:=H1
    refine lok_rlg E0 a_5 (⟨46,mkS [(0,xP 0 0),(1,xI n),(5,xV 109),(6,xI i)],mkH [(0,.var [pL y7.L,pI y7.At]),(109,bA 1 encI next)]⟩) ?_
    try simp only [thenL,blockL,↓reduceIte,reduceCtorEq]
    refine lok_rl E0 (⟨46,mkS [(0,xP 0 0),(1,xI n),(5,xV 109),(6,xI (IntKind.i64.wrap (i - (1:Int))))],mkH [(0,.var [pL y7.L,pI y7.At]),(109,bA 1 encI next)]⟩) ?_
    try simp only [thenL,blockL,↓reduceIte,reduceCtorEq]
    exact⟨(next,(IntKind.i64.wrap (i - (1:Int))),y7.L,y7.At),(Option.some.inj H1).symm,(Imp.trans (imp_frz 109 1 (List.map encI next)) imp_au)⟩
   ·intro b_11
    replace H1:=cneg H1 b_11
    refine lok_exit ?_
    try simp only [thenL,blockL,↓reduceIte,reduceCtorEq]
    have e_1:=k_1 _ (Option.some.inj H1).symm
    subst e_1
    try dsimp only at H0
    try simp only [thenL,blockL,↓reduceIte,reduceCtorEq]
    exact⟨(out1,t3,t4),H0,imp_au⟩
set_option maxHeartbeats 4000000 in
theorem ok_top_TopAccounted (t:List Int) (r_:Bool) (H0:top_TopAccounted t=some r_):CallOK Tryz.prog 3 [.one (.p (.sl 1 (List.map encI t)))] [] [.one (.p (.val (.bool r_)))] []:=by
 refine callOK (n:=322) (rs:=[.tmp 2]) (nb:=0) (V:=[]) Tryz.func3 rfl (by kernel_rfl) rfl rfl rfl rfl (Nat.le_of_ble_eq_true rfl) (by decide) ?_
 unfold top_TopAccounted at H0
 refine lok_rt E0 (⟨322,mkS [(0,xL t)],mkH []⟩) ?_
 replace H0:=bind_some H0
 obtain⟨y,h_0,H0⟩:=H0
 refine lok_rt (Env.of E0 [⟨some 48,4,[oL t],[],[.one (.ptr 0 0)],[some (.var [pL y.L,pI y.At])],True,fun _=>ok_make_New t y h_0,[]⟩]) (⟨322,mkS [(3,xP 1048 0)],mkH [(1048,.var [pL y.L,pI y.At])]⟩) ?_
 replace H0:=bind_some H0
 obtain⟨⟨y1,y2⟩,h_1,H0⟩:=H0
 try dsimp only at H0
 refine lok_rt (Env.of E0 [⟨some 50,5,[.one (.ptr 0 0),oI (0:Int)],[.var [pL y.L,pI y.At]],[.agg [pI y1.Close,pI y1.Late]],[some (.var [pL y2.L,pI y2.At])],True,fun _=>ok_make_Tape_Deadlines y (0:Int) (y1,y2) h_1,[]⟩]) (⟨322,mkS [(3,xP 1048 0),(4,xP 104 0)],mkH [(104,.var [pI y1.Close,pI y1.Late]),(1048,.var [pL y2.L,pI y2.At])]⟩) ?_
 replace H0:=bind_some H0
 obtain⟨⟨y3,y4⟩,h_2,H0⟩:=H0
 try dsimp only at H0
 replace H0:=bind_some H0
 obtain⟨⟨y5,y6⟩,h_3,H0⟩:=H0
 try dsimp only at H0
 replace H0:=bind_some H0
 obtain⟨⟨y7,y8⟩,h_4,H0⟩:=H0
 try dsimp only at H0
 refine lok_rt (Env.of E0 [⟨some 52,6,[.one (.ptr 0 0),oI (10:Int),oI (8:Int)],[.var [pL y2.L,pI y2.At]],[oS 8 zc9 y3],[some (.var [pL y4.L,pI y4.At])],True,fun _=>ok_make_Tape_EntryEvents y2 (10:Int) (8:Int) (y3,y4) h_2,[]⟩,
   ⟨some 54,7,[.one (.ptr 0 0),oI (10:Int),oI (8:Int)],[.var [pL y4.L,pI y4.At]],[oS 6 zb9 y5],[some (.var [pL y6.L,pI y6.At])],True,fun _=>ok_make_Tape_RegisterEvents y4 (10:Int) (8:Int) (y5,y6) h_3,[]⟩,
   ⟨some 56,8,[.one (.ptr 0 0),oI (10:Int),oI (8:Int)],[.var [pL y6.L,pI y6.At]],[oS 9 za9 y7],[some (.var [pL y8.L,pI y8.At])],True,fun _=>ok_make_Tape_BagEvents y6 (10:Int) (8:Int) (y7,y8) h_4,[]⟩]) (⟨322,mkS [(3,xP 1048 0),(4,xP 104 0),(5,xS 8 zc9 y3),(6,xS 6 zb9 y5),(7,xS 9 za9 y7)],mkH [(104,.var [pI y1.Close,pI y1.Late]),(1048,.var [pL y8.L,pI y8.At])]⟩) ?_
 replace H0:=bind_some H0
 obtain⟨⟨y9,y10⟩,h_5,H0⟩:=H0
 try dsimp only at H0
 replace H0:=bind_some H0
 obtain⟨⟨y11,y12⟩,h_6,H0⟩:=H0
 try dsimp only at H0
 replace H0:=bind_some H0
 obtain⟨⟨y13,y14⟩,h_7,H0⟩:=H0
 try dsimp only at H0
 refine lok_rt (Env.of E0 [⟨some 60,9,[.one (.ptr 0 0),oI (y3.length:Int)],[.var [pL y8.L,pI y8.At]],[oL y9],[some (.var [pL y10.L,pI y10.At])],True,fun _=>ok_make_Tape_Mixed y8 (y3.length:Int) (y9,y10) h_5,[]⟩,
   ⟨some 64,9,[.one (.ptr 0 0),oI (y5.length:Int)],[.var [pL y10.L,pI y10.At]],[oL y11],[some (.var [pL y12.L,pI y12.At])],True,fun _=>ok_make_Tape_Mixed y10 (y5.length:Int) (y11,y12) h_6,[]⟩,
   ⟨some 68,9,[.one (.ptr 0 0),oI (y7.length:Int)],[.var [pL y12.L,pI y12.At]],[oL y13],[some (.var [pL y14.L,pI y14.At])],True,fun _=>ok_make_Tape_Mixed y12 (y7.length:Int) (y13,y14) h_7,[]⟩]) (⟨322,mkS [(4,xP 104 0),(5,xS 8 zc9 y3),(6,xS 6 zb9 y5),(7,xS 9 za9 y7),(8,xL y9),(9,xL y11),(10,xL y13)],mkH [(104,.var [pI y1.Close,pI y1.Late])]⟩) ?_
 refine lok_rt E0 (⟨322,mkS [(4,xP 104 0),(5,xS 8 zc9 y3),(6,xS 6 zb9 y5),(7,xS 9 za9 y7),(8,xL y9),(9,xL y11),(10,xL y13),(11,xV 111)],mkH [(104,.var [pI y1.Close,pI y1.Late]),(111,bA 8 zc9 ([]:List zg9))]⟩) ?_
 refine lok_rt E0 (⟨322,mkS [(4,xP 104 0),(5,xS 8 zc9 y3),(6,xS 6 zb9 y5),(7,xS 9 za9 y7),(8,xL y9),(9,xL y11),(10,xL y13),(11,xV 111),(12,xV 112)],mkH [(104,.var [pI y1.Close,pI y1.Late]),(111,bA 8 zc9 ([]:List zg9)),(112,bA 6 zb9 ([]:List ze9))]⟩) ?_
 refine lok_rt E0 (⟨322,mkS [(4,xP 104 0),(5,xS 8 zc9 y3),(6,xS 6 zb9 y5),(7,xS 9 za9 y7),(8,xL y9),(9,xL y11),(10,xL y13),(11,xV 111),(12,xV 112),(13,xV 113)],mkH [(104,.var [pI y1.Close,pI y1.Late]),(111,bA 8 zc9 ([]:List zg9)),(112,bA 6 zb9 ([]:List ze9)),(113,bA 9 za9 ([]:List zh9))]⟩) ?_
 refine lok_join (fun x_:(List zg9)=>top_TopAccounted_j13 y1 y3 y5 y7 y11 y13 x_=some r_) (fun x_=>⟨322,mkS [(4,xP 104 0),(5,xS 8 zc9 y3),(6,xS 6 zb9 y5),(7,xS 9 za9 y7),(9,xL y11),(10,xL y13),(11,xV 111),(12,xV 112),(13,xV 113)],mkH [(104,.var [pI y1.Close,pI y1.Late]),(111,bA 8 zc9 x_),(112,bA 6 zb9 ([]:List ze9)),(113,bA 9 za9 ([]:List zh9))]⟩) ?hytop_TopAccounted_j13 ?hxtop_TopAccounted_j13
 case hytop_TopAccounted_j13=>
  rintro entries2 H0
  try dsimp only at H0 ⊢
  unfold top_TopAccounted_j13 at H0
  refine lok_join (fun x_:(List ze9)=>top_TopAccounted_j11 y1 y3 y5 y7 y13 entries2 x_=some r_) (fun x_=>⟨322,mkS [(4,xP 104 0),(5,xS 8 zc9 y3),(6,xS 6 zb9 y5),(7,xS 9 za9 y7),(10,xL y13),(11,xV 111),(12,xV 112),(13,xV 113)],mkH [(104,.var [pI y1.Close,pI y1.Late]),(111,bA 8 zc9 entries2),(112,bA 6 zb9 x_),(113,bA 9 za9 ([]:List zh9))]⟩) ?hytop_TopAccounted_j11 ?hxtop_TopAccounted_j11
  case hytop_TopAccounted_j11=>
   rintro registers2 H0
   try dsimp only at H0 ⊢
   unfold top_TopAccounted_j11 at H0
   refine lok_join (fun x_:(List zh9)=>top_TopAccounted_j9 y1 y3 y5 y7 entries2 registers2 x_=some r_) (fun x_=>⟨322,mkS [(4,xP 104 0),(5,xS 8 zc9 y3),(6,xS 6 zb9 y5),(7,xS 9 za9 y7),(11,xV 111),(12,xV 112),(13,xV 113)],mkH [(104,.var [pI y1.Close,pI y1.Late]),(111,bA 8 zc9 entries2),(112,bA 6 zb9 registers2),(113,bA 9 za9 x_)]⟩) ?hytop_TopAccounted_j9 ?hxtop_TopAccounted_j9
   case hytop_TopAccounted_j9=>
    rintro bags2 H0
    try dsimp only at H0 ⊢
    unfold top_TopAccounted_j9 at H0
    replace H0:=bind_some H0
    obtain⟨⟨y15,y16,y17⟩,h_8,H0⟩:=H0
    try dsimp only at H0
    refine lok_rt (Env.of E0 [⟨some 120,10,[oS 8 zc9 y3,.agg [pI y1.Close,pI y1.Late],oI (1000000:Int)],[],[oS 4 zd9 y15,oS 3 zn9 y16,oI y17],[],True,fun _=>ok_entry_Fold y3 y1 (1000000:Int) (y15,y16,y17) h_8,[]⟩]) (⟨322,mkS [(4,xP 104 0),(6,xS 6 zb9 y5),(7,xS 9 za9 y7),(11,xV 111),(12,xV 112),(13,xV 113),(17,xS 4 zd9 y15),(19,xI y17)],mkH [(104,.var [pI y1.Close,pI y1.Late]),(111,bA 8 zc9 entries2),(112,bA 6 zb9 registers2),(113,bA 9 za9 bags2)]⟩) ?_
    refine lok_imp (st':=⟨322,mkS [(4,xP 104 0),(6,xS 6 zb9 y5),(7,xS 9 za9 y7),(11,xS 8 zc9 entries2),(12,xV 112),(13,xV 113),(17,xS 4 zd9 y15),(19,xI y17)],mkH [(104,.var [pI y1.Close,pI y1.Late]),(112,bA 6 zb9 registers2),(113,bA 9 za9 bags2)]⟩) (Imp.trans (imp_frz 111 8 (List.map zc9 entries2)) imp_au) ?_
    replace H0:=bind_some H0
    obtain⟨⟨y18,y19,y20⟩,h_9,H0⟩:=H0
    try dsimp only at H0
    refine lok_rt (Env.of E0 [⟨some 127,10,[oS 8 zc9 entries2,.agg [pI y1.Close,pI y1.Late],oI (1000000:Int)],[],[oS 4 zd9 y18,oS 3 zn9 y19,oI y20],[],True,fun _=>ok_entry_Fold entries2 y1 (1000000:Int) (y18,y19,y20) h_9,[]⟩]) (⟨322,mkS [(6,xS 6 zb9 y5),(7,xS 9 za9 y7),(12,xV 112),(13,xV 113),(17,xS 4 zd9 y15),(19,xI y17),(20,xS 4 zd9 y18),(22,xI y20)],mkH [(112,bA 6 zb9 registers2),(113,bA 9 za9 bags2)]⟩) ?_
    replace H0:=bind_some H0
    obtain⟨y21,h_10,H0⟩:=H0
    replace H0:=bind_some H0
    obtain⟨⟨y22,y23,y24⟩,h_11,H0⟩:=H0
    try dsimp only at H0
    refine lok_rt (Env.of E0 [⟨some 133,12,[oS 4 zd9 y15,oI (1:Int)],[],[oS 4 zd9 y21],[],True,fun _=>ok_entry_Paper y15 (1:Int) y21 h_10,[]⟩,
   ⟨some 135,11,[oS 4 zd9 y21,oS 6 zb9 y5,oI (1000000:Int)],[],[oS 5 zj9 y22,oS 3 zn9 y23,oI y24],[],True,fun _=>ok_attendance_Fold y21 y5 (1000000:Int) (y22,y23,y24) h_11,[]⟩]) (⟨322,mkS [(7,xS 9 za9 y7),(12,xV 112),(13,xV 113),(17,xS 4 zd9 y15),(19,xI y17),(20,xS 4 zd9 y18),(22,xI y20),(23,xS 5 zj9 y22),(25,xI y24)],mkH [(112,bA 6 zb9 registers2),(113,bA 9 za9 bags2)]⟩) ?_
    refine lok_imp (st':=⟨322,mkS [(7,xS 9 za9 y7),(12,xS 6 zb9 registers2),(13,xV 113),(17,xS 4 zd9 y15),(19,xI y17),(20,xS 4 zd9 y18),(22,xI y20),(23,xS 5 zj9 y22),(25,xI y24)],mkH [(113,bA 9 za9 bags2)]⟩) (Imp.trans (imp_frz 112 6 (List.map zb9 registers2)) imp_au) ?_
    replace H0:=bind_some H0
    obtain⟨y25,h_12,H0⟩:=H0
    replace H0:=bind_some H0
    obtain⟨⟨y26,y27,y28⟩,h_13,H0⟩:=H0
    try dsimp only at H0
    refine lok_rt (Env.of E0 [⟨some 141,12,[oS 4 zd9 y18,oI (1:Int)],[],[oS 4 zd9 y25],[],True,fun _=>ok_entry_Paper y18 (1:Int) y25 h_12,[]⟩,
   ⟨some 143,11,[oS 4 zd9 y25,oS 6 zb9 registers2,oI (1000000:Int)],[],[oS 5 zj9 y26,oS 3 zn9 y27,oI y28],[],True,fun _=>ok_attendance_Fold y25 registers2 (1000000:Int) (y26,y27,y28) h_13,[]⟩]) (⟨322,mkS [(7,xS 9 za9 y7),(13,xV 113),(17,xS 4 zd9 y15),(19,xI y17),(22,xI y20),(23,xS 5 zj9 y22),(25,xI y24),(26,xS 5 zj9 y26),(28,xI y28)],mkH [(113,bA 9 za9 bags2)]⟩) ?_
    replace H0:=bind_some H0
    obtain⟨⟨y29,y30,y31⟩,h_14,H0⟩:=H0
    try dsimp only at H0
    refine lok_rt (Env.of E0 [⟨some 149,13,[oS 9 za9 y7,oI (1000000:Int)],[],[oS 6 zo9 y29,oS 3 zn9 y30,oI y31],[],True,fun _=>ok_custody_Fold y7 (1000000:Int) (y29,y30,y31) h_14,[]⟩]) (⟨322,mkS [(13,xV 113),(17,xS 4 zd9 y15),(19,xI y17),(22,xI y20),(23,xS 5 zj9 y22),(25,xI y24),(26,xS 5 zj9 y26),(28,xI y28),(29,xS 6 zo9 y29),(31,xI y31)],mkH [(113,bA 9 za9 bags2)]⟩) ?_
    refine lok_imp (st':=⟨322,mkS [(13,xS 9 za9 bags2),(17,xS 4 zd9 y15),(19,xI y17),(22,xI y20),(23,xS 5 zj9 y22),(25,xI y24),(26,xS 5 zj9 y26),(28,xI y28),(29,xS 6 zo9 y29),(31,xI y31)],mkH []⟩) (Imp.trans (imp_frz 113 9 (List.map za9 bags2)) imp_au) ?_
    replace H0:=bind_some H0
    obtain⟨⟨y32,y33,y34⟩,h_15,H0⟩:=H0
    try dsimp only at H0
    refine lok_rt (Env.of E0 [⟨some 155,13,[oS 9 za9 bags2,oI (1000000:Int)],[],[oS 6 zo9 y32,oS 3 zn9 y33,oI y34],[],True,fun _=>ok_custody_Fold bags2 (1000000:Int) (y32,y33,y34) h_15,[]⟩]) (⟨322,mkS [(17,xS 4 zd9 y15),(19,xI y17),(22,xI y20),(23,xS 5 zj9 y22),(25,xI y24),(26,xS 5 zj9 y26),(28,xI y28),(29,xS 6 zo9 y29),(31,xI y31),(32,xS 6 zo9 y32),(34,xI y34)],mkH []⟩) ?_
    refine lok_seq ?_
    replace H0:=req_some H0
    obtain⟨⟨q_42,q_43⟩,H0⟩:=H0
    refine lok_rt (Env.of E0 [⟨some 192,12,[oS 4 zd9 y15,oI (1:Int)],[],[oS 4 zd9 ((entry_Paper y15 (1:Int)).getD default)],[],(entry_Paper y15 (1:Int)).isSome=true,fun h=>ok_entry_Paper y15 (1:Int) _ (zL1 h),[]⟩,
   ⟨some 199,14,[oS 6 zo9 y29,oS 6 zo9 y32],[],[oB ((zO1 y29 y32).getD default)],[],(zO1 y29 y32).isSome=true,fun h=>ok_ref17_SameBags y29 y32 _ (zL1 h),[]⟩]) (⟨322,mkS [(23,xS 5 zj9 y22),(26,xS 5 zj9 y26),(29,xS 6 zo9 y29),(201,xB (((((((((y17 != (0:Int))||(y20 != (0:Int)))||(y24 != (0:Int)))||(y28 != (0:Int)))||(y31 != (0:Int)))||(y34 != (0:Int)))||((y22.length:Int) != (y26.length:Int)))||((y22.length:Int) != (((entry_Paper y15 (1:Int)).getD default).length:Int)))||(!((zO1 y29 y32).getD default))))],mkH []⟩) ?_
    refine lok_c (((((((((y17 != (0:Int))||(y20 != (0:Int)))||(y24 != (0:Int)))||(y28 != (0:Int)))||(y31 != (0:Int)))||(y34 != (0:Int)))||((y22.length:Int) != (y26.length:Int)))||((y22.length:Int) != (((entry_Paper y15 (1:Int)).getD default).length:Int)))||(!((zO1 y29 y32).getD default))) ?_ ?_
    ·intro b_41
     replace H0:=cpos H0 b_41
     refine lok_rt E0 (⟨322,mkS [(2,xB false)],mkH []⟩) ?_
     refine lok_ret ?_
     try obtain rfl:=Option.some.inj H0
     try simp only [thenL,blockL]
     exact fin_au _ (.inr rfl) [] (⟨322,mkS [(2,xB false)],mkH []⟩) rfl rfl imp_au
    ·intro b_41
     replace H0:=cneg H0 b_41
     refine lok_skip ?_
     try simp only [thenL,blockL,↓reduceIte,reduceCtorEq]
     refine lok_join (fun x_:Unit=>top_TopAccounted_j7 y22 y29=some r_) (fun x_=>⟨322,mkS [(23,xS 5 zj9 y22),(29,xS 6 zo9 y29)],mkH []⟩) ?hytop_TopAccounted_j7 ?hxtop_TopAccounted_j7
     case hytop_TopAccounted_j7=>
      rintro _ H0
      try dsimp only at H0 ⊢
      unfold top_TopAccounted_j7 at H0
      replace H0:=bind_some H0
      obtain⟨y35,h_16,H0⟩:=H0
      refine lok_rt (Env.of E0 [⟨some 235,16,[oS 5 zj9 y22],[],[oL y35],[],True,fun _=>ok_attendance_Present y22 y35 h_16,[]⟩]) (⟨322,mkS [(23,xS 5 zj9 y22),(29,xS 6 zo9 y29),(36,xL y35)],mkH []⟩) ?_
      replace H0:=bind_some H0
      obtain⟨⟨y36,y37,y38,y39⟩,h_17,H0⟩:=H0
      try dsimp only at H0
      refine lok_rt (Env.of E0 [⟨some 239,17,[oS 6 zo9 y29,oL y35],[],[oL y36,oL y37,oL y38,oL y39],[],True,fun _=>ok_custody_Account y29 y35 (y36,y37,y38,y39) h_17,[]⟩]) (⟨322,mkS [(23,xS 5 zj9 y22),(36,xL y35),(37,xL y36),(38,xL y37),(39,xL y38),(40,xL y39)],mkH []⟩) ?_
      replace H0:=bind_some H0
      obtain⟨⟨y40,y41⟩,h_18,H0⟩:=H0
      try dsimp only at H0
      refine lok_rt (Env.of E0 [⟨some 247,18,[oS 5 zj9 y22,oL y38],[],[oL y40,oL y41],[],True,fun _=>ok_attendance_Compare y22 y38 (y40,y41) h_18,[]⟩]) (⟨322,mkS [(36,xL y35),(37,xL y36),(38,xL y37),(39,xL y38),(40,xL y39),(41,xL y40),(42,xL y41)],mkH []⟩) ?_
      refine lok_seq ?_
      refine lok_rt E0 (⟨322,mkS [(36,xL y35),(37,xL y36),(38,xL y37),(39,xL y38),(40,xL y39),(41,xL y40),(278,xB ((((IntKind.i64.wrap ((IntKind.i64.wrap ((IntKind.i64.wrap ((y36.length:Int)+(y37.length:Int)))+(y38.length:Int)))+(y39.length:Int))) != (y35.length:Int))||((IntKind.i64.wrap ((y40.length:Int)+(y38.length:Int))) != (y35.length:Int)))||((y41.length:Int) != (0:Int))))],mkH []⟩) ?_
      refine lok_c ((((IntKind.i64.wrap ((IntKind.i64.wrap ((IntKind.i64.wrap ((y36.length:Int)+(y37.length:Int)))+(y38.length:Int)))+(y39.length:Int))) != (y35.length:Int))||((IntKind.i64.wrap ((y40.length:Int)+(y38.length:Int))) != (y35.length:Int)))||((y41.length:Int) != (0:Int))) ?_ ?_
      ·intro b_32
       replace H0:=cpos H0 b_32
       refine lok_rt E0 (⟨322,mkS [(2,xB false)],mkH []⟩) ?_
       refine lok_ret ?_
       try obtain rfl:=Option.some.inj H0
       try simp only [thenL,blockL]
       exact fin_au _ (.inr rfl) [] (⟨322,mkS [(2,xB false)],mkH []⟩) rfl rfl imp_au
      ·intro b_32
       replace H0:=cneg H0 b_32
       refine lok_skip ?_
       try simp only [thenL,blockL,↓reduceIte,reduceCtorEq]
       refine lok_join (fun x_:Unit=>top_TopAccounted_j1=some r_) (fun x_=>⟨322,mkS [],mkH []⟩) ?hytop_TopAccounted_j1 ?hxtop_TopAccounted_j1
       case hytop_TopAccounted_j1=>
        rintro _ H0
        try dsimp only at H0 ⊢
        unfold top_TopAccounted_j1 at H0
        replace H0:=bind_some H0
        obtain⟨y42,h_19,H0⟩:=H0
        refine lok_rt (Env.of E0 [⟨some 321,20,[],[],[oB y42],[],True,fun _=>ok_top_awake17 y42 h_19,[]⟩]) (⟨322,mkS [(2,xB y42)],mkH []⟩) ?_
        refine lok_ret ?_
        try obtain rfl:=Option.some.inj H0
        try simp only [thenL,blockL]
        exact fin_au _ (.inr rfl) [] (⟨322,mkS [(2,xB y42)],mkH []⟩) rfl rfl imp_au
       case hxtop_TopAccounted_j1=>
        refine lok_rt E0 (⟨322,mkS [(36,xL y35),(37,xL y36),(38,xL y37),(39,xL y38),(40,xL y39),(41,xL y40),(43,xI (0:Int))],mkH []⟩) ?_
        refine zz9 ?_
        replace H0:=bind_some H0
        obtain⟨v_20,hv_20,H0⟩:=H0
        refine lok_iter (fun x_=>⟨322,mkS [(36,xL y35),(37,xL y36),(38,xL y37),(39,xL y38),(40,xL y39),(41,xL y40),(43,xI x_)],mkH []⟩) hv_20 imp_au ?_
        ·rintro i o_1 H1 k_1
         unfold top_TopAccounted_l6 at H1
         try dsimp only at H1 ⊢
         refine lok_seq ?_
         refine lok_rt E0 (⟨322,mkS [(36,xL y35),(37,xL y36),(38,xL y37),(39,xL y38),(40,xL y39),(41,xL y40),(43,xI i),(282,xB (decide (i<(y35.length:Int))))],mkH []⟩) ?_
         refine lok_c (decide (i<(y35.length:Int))) ?_ ?_
         ·intro b_31
          replace H1:=cpos H1 b_31
          refine lok_skip ?_
          try simp only [thenL,blockL,↓reduceIte,reduceCtorEq]
          refine lok_join (fun x_:Unit=>top_TopAccounted_j2 i=some o_1) (fun x_=>⟨322,mkS [(36,xL y35),(37,xL y36),(38,xL y37),(39,xL y38),(40,xL y39),(41,xL y40),(43,xI i)],mkH []⟩) ?hytop_TopAccounted_j2 ?hxtop_TopAccounted_j2
          case hytop_TopAccounted_j2=>
           rintro _ H1
           try dsimp only at H1 ⊢
           unfold top_TopAccounted_j2 at H1
           refine lok_rl E0 (⟨322,mkS [(36,xL y35),(37,xL y36),(38,xL y37),(39,xL y38),(40,xL y39),(41,xL y40),(43,xI (IntKind.i64.wrap (i+(1:Int))))],mkH []⟩) ?_
           try simp only [thenL,blockL,↓reduceIte,reduceCtorEq]
           exact⟨(IntKind.i64.wrap (i+(1:Int))),(Option.some.inj H1).symm,imp_au⟩
          case hxtop_TopAccounted_j2=>
           refine zz9 ?_
           refine lok_rt E0 (⟨322,mkS [(36,xL y35),(37,xL y36),(38,xL y37),(39,xL y38),(40,xL y39),(41,xL y40),(43,xI i),(44,xI (0:Int))],mkH []⟩) ?_
           refine lok_rt E0 (⟨322,mkS [(36,xL y35),(37,xL y36),(38,xL y37),(39,xL y38),(40,xL y39),(41,xL y40),(43,xI i),(44,xI (0:Int)),(45,xP 145 0)],mkH [(145,.var [pL y36,pL y37,pL y38,pL y39])]⟩) ?_
           refine lok_join (fun x_:Int=>top_TopAccounted_j3 y35 y38 y40 i x_=some o_1) (fun x_=>⟨322,mkS [(36,xL y35),(37,xL y36),(38,xL y37),(39,xL y38),(40,xL y39),(41,xL y40),(43,xI i),(44,xI x_)],mkH []⟩) ?hytop_TopAccounted_j3 ?hxtop_TopAccounted_j3
           case hytop_TopAccounted_j3=>
            rintro n H1
            try dsimp only at H1 ⊢
            unfold top_TopAccounted_j3 at H1
            replace H1:=req_some H1
            obtain⟨⟨q_22,q_23,q_24⟩,H1⟩:=H1
            refine lok_dt (Env.of E0 [⟨some 312,19,[oL y40,oI (ix y35 i)],[],[oB ((ref06_Has y40 (ix y35 i)).getD default)],[],(ref06_Has y40 (ix y35 i)).isSome=true,fun h=>ok_ref06_Has y40 (ix y35 i) _ (zL1 h),[]⟩,
   ⟨some 318,19,[oL y38,oI (ix y35 i)],[],[oB ((ref06_Has y38 (ix y35 i)).getD default)],[],(ref06_Has y38 (ix y35 i)).isSome=true,fun h=>ok_ref06_Has y38 (ix y35 i) _ (zL1 h),[]⟩]) 14 (⟨322,mkS [(36,xL y35),(37,xL y36),(38,xL y37),(39,xL y38),(40,xL y39),(41,xL y40),(43,xI i),(320,xB ((n != (1:Int))||(((ref06_Has y40 (ix y35 i)).getD default)==((ref06_Has y38 (ix y35 i)).getD default))))],mkH []⟩) (by kernel_rfl) (by kernel_rfl) ?_
            refine lok_c ((n != (1:Int))||(((ref06_Has y40 (ix y35 i)).getD default)==((ref06_Has y38 (ix y35 i)).getD default))) ?_ ?_
            ·intro b_21
             replace H1:=cpos H1 b_21
             refine lok_rt E0 (⟨322,mkS [(2,xB false)],mkH []⟩) ?_
             refine lok_ret ?_
             try simp only [thenL,blockL,↓reduceIte,reduceCtorEq]
             have e_1:=k_1 _ (Option.some.inj H1).symm
             subst e_1
             try dsimp only at H0
             try obtain rfl:=Option.some.inj H0
             try simp only [thenL,blockL]
             exact fin_au _ (.inr rfl) [] (⟨322,mkS [(2,xB false)],mkH []⟩) rfl rfl imp_au
            ·intro b_21
             replace H1:=cneg H1 b_21
             refine lok_skip ?_
             try simp only [thenL,blockL,↓reduceIte,reduceCtorEq]
             exact⟨(),H1,imp_au⟩
           case hxtop_TopAccounted_j3=>
            refine lok_rt E0 (⟨322,mkS [(36,xL y35),(37,xL y36),(38,xL y37),(39,xL y38),(40,xL y39),(41,xL y40),(43,xI i),(44,xI (0:Int)),(45,xP 145 0),(46,xI (0:Int))],mkH [(145,.var [pL y36,pL y37,pL y38,pL y39])]⟩) ?_
            refine zz9 ?_
            replace H1:=bind_some H1
            obtain⟨v_25,hv_25,H1⟩:=H1
            refine lok_iter (fun x_=>⟨322,mkS [(36,xL y35),(37,xL y36),(38,xL y37),(39,xL y38),(40,xL y39),(41,xL y40),(43,xI i),(44,xI x_.1),(45,xP 145 0),(46,xI x_.2)],mkH [(145,.var [pL y36,pL y37,pL y38,pL y39])]⟩) hv_25 imp_au ?_
            ·rintro⟨n1,j⟩ o_2 H2 k_2
             unfold zx1 at H2
             try dsimp only at H2 ⊢
             refine lok_seq ?_
             refine lok_rt E0 (⟨322,mkS [(36,xL y35),(37,xL y36),(38,xL y37),(39,xL y38),(40,xL y39),(41,xL y40),(43,xI i),(44,xI n1),(45,xP 145 0),(46,xI j),(291,xB (decide (j<(4:Int))))],mkH [(145,.var [pL y36,pL y37,pL y38,pL y39])]⟩) ?_
             refine lok_c (decide (j<(4:Int))) ?_ ?_
             ·intro b_30
              replace H2:=cpos H2 b_30
              refine lok_skip ?_
              try simp only [thenL,blockL,↓reduceIte,reduceCtorEq]
              refine lok_join (fun x_:Int=>top_TopAccounted_j4 j x_=some o_2) (fun x_=>⟨322,mkS [(36,xL y35),(37,xL y36),(38,xL y37),(39,xL y38),(40,xL y39),(41,xL y40),(43,xI i),(44,xI x_),(45,xP 145 0),(46,xI j)],mkH [(145,.var [pL y36,pL y37,pL y38,pL y39])]⟩) ?hytop_TopAccounted_j4 ?hxtop_TopAccounted_j4
              case hytop_TopAccounted_j4=>
               rintro n3 H2
               try dsimp only at H2 ⊢
               unfold top_TopAccounted_j4 at H2
               refine lok_rl E0 (⟨322,mkS [(36,xL y35),(37,xL y36),(38,xL y37),(39,xL y38),(40,xL y39),(41,xL y40),(43,xI i),(44,xI n3),(45,xP 145 0),(46,xI (IntKind.i64.wrap (j+(1:Int))))],mkH [(145,.var [pL y36,pL y37,pL y38,pL y39])]⟩) ?_
               try simp only [thenL,blockL,↓reduceIte,reduceCtorEq]
               exact⟨(n3,(IntKind.i64.wrap (j+(1:Int)))),(Option.some.inj H2).symm,imp_au⟩
              case hxtop_TopAccounted_j4=>
               refine zz9 ?_
               replace H2:=req_some H2
               obtain⟨⟨q_28,q_29⟩,H2⟩:=H2
               replace H2:=bind_some H2
               obtain⟨y43,h_26,H2⟩:=H2
               refine lok_dtg (Env.of E0 [⟨some 301,19,[oL (ix [y36,y37,y38,y39] j),oI (ix y35 i)],[],[oB y43],[],True,fun _=>ok_ref06_Has (ix [y36,y37,y38,y39] j) (ix y35 i) y43 h_26,[]⟩]) 7 q_28 (⟨322,mkS [(36,xL y35),(37,xL y36),(38,xL y37),(39,xL y38),(40,xL y39),(41,xL y40),(43,xI i),(44,xI n1),(45,xP 145 0),(46,xI j),(301,xB y43)],mkH [(145,.var [pL y36,pL y37,pL y38,pL y39])]⟩) (by kernel_rfl) (by kernel_rfl) ?_
               refine lok_c y43 ?_ ?_
               ·intro b_27
                replace H2:=cpos H2 b_27
                refine lok_rl E0 (⟨322,mkS [(36,xL y35),(37,xL y36),(38,xL y37),(39,xL y38),(40,xL y39),(41,xL y40),(43,xI i),(44,xI (IntKind.i64.wrap (n1+(1:Int)))),(45,xP 145 0),(46,xI j)],mkH [(145,.var [pL y36,pL y37,pL y38,pL y39])]⟩) ?_
                try simp only [thenL,blockL,↓reduceIte,reduceCtorEq]
                exact⟨(IntKind.i64.wrap (n1+(1:Int))),H2,imp_au⟩
               ·intro b_27
                replace H2:=cneg H2 b_27
                refine lok_skip ?_
                try simp only [thenL,blockL,↓reduceIte,reduceCtorEq]
                exact⟨n1,H2,imp_au⟩
             ·intro b_30
              replace H2:=cneg H2 b_30
              refine lok_exit ?_
              try simp only [thenL,blockL,↓reduceIte,reduceCtorEq]
              have e_2:=k_2 _ (Option.some.inj H2).symm
              subst e_2
              try dsimp only at H1
              try simp only [thenL,blockL,↓reduceIte,reduceCtorEq]
              exact⟨n1,H1,imp_au⟩
         ·intro b_31
          replace H1:=cneg H1 b_31
          refine lok_exit ?_
          try simp only [thenL,blockL,↓reduceIte,reduceCtorEq]
          have e_1:=k_1 _ (Option.some.inj H1).symm
          subst e_1
          try dsimp only at H0
          try simp only [thenL,blockL,↓reduceIte,reduceCtorEq]
          exact⟨(),H0,imp_au⟩
     case hxtop_TopAccounted_j7=>
      refine lok_rt E0 (⟨322,mkS [(23,xS 5 zj9 y22),(26,xS 5 zj9 y26),(29,xS 6 zo9 y29),(35,xI (0:Int))],mkH []⟩) ?_
      refine zz9 ?_
      replace H0:=bind_some H0
      obtain⟨v_33,hv_33,H0⟩:=H0
      refine lok_iter (fun x_=>⟨322,mkS [(23,xS 5 zj9 y22),(26,xS 5 zj9 y26),(29,xS 6 zo9 y29),(35,xI x_)],mkH []⟩) hv_33 imp_au ?_
      ·rintro i1 o_1 H1 k_1
       unfold top_TopAccounted_l8 at H1
       try dsimp only at H1 ⊢
       refine lok_seq ?_
       refine lok_rt E0 (⟨322,mkS [(23,xS 5 zj9 y22),(26,xS 5 zj9 y26),(29,xS 6 zo9 y29),(35,xI i1),(205,xB (decide (i1<(y22.length:Int))))],mkH []⟩) ?_
       refine lok_c (decide (i1<(y22.length:Int))) ?_ ?_
       ·intro b_40
        replace H1:=cpos H1 b_40
        refine lok_skip ?_
        try simp only [thenL,blockL,↓reduceIte,reduceCtorEq]
        refine lok_seq ?_
        refine zz9 ?_
        replace H1:=req_some H1
        obtain⟨⟨q_36,q_37⟩,H1⟩:=H1
        replace H1:=bind_some H1
        obtain⟨y44,h_34,H1⟩:=H1
        replace H1:=req_some H1
        obtain⟨⟨q_38,q_39⟩,H1⟩:=H1
        refine lok_dt (Env.of E0 [⟨some 216,15,[.agg [pI ((ix y22 i1).Candidate),pI ((ix y22 i1).State),pI ((ix y22 i1).Late),pI ((ix y22 i1).Left),pL ((ix y22 i1).Incidents)],.agg [pI ((ix y26 i1).Candidate),pI ((ix y26 i1).State),pI ((ix y26 i1).Late),pI ((ix y26 i1).Left),pL ((ix y26 i1).Incidents)]],[],[oB y44],[],True,fun _=>ok_ref16_Same (ix y22 i1) (ix y26 i1) y44 h_34,[]⟩]) 21 (⟨322,mkS [(23,xS 5 zj9 y22),(26,xS 5 zj9 y26),(29,xS 6 zo9 y29),(35,xI i1),(233,xB (((!y44)||(decide ((ix y22 i1).State<(0:Int))))||(decide ((2:Int)<(ix y22 i1).State))))],mkH []⟩) (by kernel_rfl) (by kernel_rfl) ?_
        refine lok_c (((!y44)||(decide ((ix y22 i1).State<(0:Int))))||(decide ((2:Int)<(ix y22 i1).State))) ?_ ?_
        ·intro b_35
         replace H1:=cpos H1 b_35
         refine lok_rt E0 (⟨322,mkS [(2,xB false)],mkH []⟩) ?_
         refine lok_ret ?_
         try simp only [thenL,blockL,↓reduceIte,reduceCtorEq]
         have e_1:=k_1 _ (Option.some.inj H1).symm
         subst e_1
         try dsimp only at H0
         try obtain rfl:=Option.some.inj H0
         try simp only [thenL,blockL]
         exact fin_au _ (.inr rfl) [] (⟨322,mkS [(2,xB false)],mkH []⟩) rfl rfl imp_au
        ·intro b_35
         replace H1:=cneg H1 b_35
         refine lok_skip ?_
         try simp only [thenL,blockL,↓reduceIte,reduceCtorEq]
         refine lok_rl E0 (⟨322,mkS [(23,xS 5 zj9 y22),(26,xS 5 zj9 y26),(29,xS 6 zo9 y29),(35,xI (IntKind.i64.wrap (i1+(1:Int))))],mkH []⟩) ?_
         try simp only [thenL,blockL,↓reduceIte,reduceCtorEq]
         exact⟨(IntKind.i64.wrap (i1+(1:Int))),(Option.some.inj H1).symm,imp_au⟩
       ·intro b_40
        replace H1:=cneg H1 b_40
        refine lok_exit ?_
        try simp only [thenL,blockL,↓reduceIte,reduceCtorEq]
        have e_1:=k_1 _ (Option.some.inj H1).symm
        subst e_1
        try dsimp only at H0
        try simp only [thenL,blockL,↓reduceIte,reduceCtorEq]
        exact⟨(),H0,imp_au⟩
   case hxtop_TopAccounted_j9=>
    refine lok_rt E0 (⟨322,mkS [(4,xP 104 0),(5,xS 8 zc9 y3),(6,xS 6 zb9 y5),(7,xS 9 za9 y7),(10,xL y13),(11,xV 111),(12,xV 112),(13,xV 113),(16,xI (0:Int))],mkH [(104,.var [pI y1.Close,pI y1.Late]),(111,bA 8 zc9 entries2),(112,bA 6 zb9 registers2),(113,bA 9 za9 ([]:List zh9))]⟩) ?_
    refine zz9 ?_
    replace H0:=bind_some H0
    obtain⟨v_44,hv_44,H0⟩:=H0
    refine lok_iter (fun x_=>⟨322,mkS [(4,xP 104 0),(5,xS 8 zc9 y3),(6,xS 6 zb9 y5),(7,xS 9 za9 y7),(10,xL y13),(11,xV 111),(12,xV 112),(13,xV 113),(16,xI x_.1)],mkH [(104,.var [pI y1.Close,pI y1.Late]),(111,bA 8 zc9 entries2),(112,bA 6 zb9 registers2),(113,bA 9 za9 x_.2)]⟩) hv_44 imp_au ?_
    ·rintro⟨i2,bags21⟩ o_1 H1 k_1
     unfold top_TopAccounted_l10 at H1
     try dsimp only at H1 ⊢
     refine lok_seq ?_
     refine lok_rt E0 (⟨322,mkS [(4,xP 104 0),(5,xS 8 zc9 y3),(6,xS 6 zb9 y5),(7,xS 9 za9 y7),(10,xL y13),(11,xV 111),(12,xV 112),(13,xV 113),(16,xI i2),(104,xB (decide (i2<(y13.length:Int))))],mkH [(104,.var [pI y1.Close,pI y1.Late]),(111,bA 8 zc9 entries2),(112,bA 6 zb9 registers2),(113,bA 9 za9 bags21)]⟩) ?_
     refine lok_c (decide (i2<(y13.length:Int))) ?_ ?_
     ·intro b_49
      replace H1:=cpos H1 b_49
      refine lok_skip ?_
      try simp only [thenL,blockL,↓reduceIte,reduceCtorEq]
      refine lok_seq ?_
      refine zz9 ?_
      replace H1:=req_some H1
      obtain⟨⟨q_46,q_47,q_48⟩,H1⟩:=H1
      replace H1:=zp1 H1
      obtain⟨bags23,a_45,H1⟩:=H1
      refine lok_rlg E0 a_45 (⟨322,mkS [(4,xP 104 0),(5,xS 8 zc9 y3),(6,xS 6 zb9 y5),(7,xS 9 za9 y7),(10,xL y13),(11,xV 111),(12,xV 112),(13,xV 113),(16,xI i2)],mkH [(104,.var [pI y1.Close,pI y1.Late]),(111,bA 8 zc9 entries2),(112,bA 6 zb9 registers2),(113,bA 9 za9 bags23)]⟩) ?_
      try simp only [thenL,blockL,↓reduceIte,reduceCtorEq]
      refine lok_rl E0 (⟨322,mkS [(4,xP 104 0),(5,xS 8 zc9 y3),(6,xS 6 zb9 y5),(7,xS 9 za9 y7),(10,xL y13),(11,xV 111),(12,xV 112),(13,xV 113),(16,xI (IntKind.i64.wrap (i2+(1:Int))))],mkH [(104,.var [pI y1.Close,pI y1.Late]),(111,bA 8 zc9 entries2),(112,bA 6 zb9 registers2),(113,bA 9 za9 bags23)]⟩) ?_
      try simp only [thenL,blockL,↓reduceIte,reduceCtorEq]
      exact⟨((IntKind.i64.wrap (i2+(1:Int))),bags23),(Option.some.inj H1).symm,imp_au⟩
     ·intro b_49
      replace H1:=cneg H1 b_49
      refine lok_exit ?_
      try simp only [thenL,blockL,↓reduceIte,reduceCtorEq]
      have e_1:=k_1 _ (Option.some.inj H1).symm
      subst e_1
      try dsimp only at H0
      try simp only [thenL,blockL,↓reduceIte,reduceCtorEq]
      exact⟨bags21,H0,imp_au⟩
  case hxtop_TopAccounted_j11=>
   refine lok_rt E0 (⟨322,mkS [(4,xP 104 0),(5,xS 8 zc9 y3),(6,xS 6 zb9 y5),(7,xS 9 za9 y7),(9,xL y11),(10,xL y13),(11,xV 111),(12,xV 112),(13,xV 113),(15,xI (0:Int))],mkH [(104,.var [pI y1.Close,pI y1.Late]),(111,bA 8 zc9 entries2),(112,bA 6 zb9 ([]:List ze9)),(113,bA 9 za9 ([]:List zh9))]⟩) ?_
   refine zz9 ?_
   replace H0:=bind_some H0
   obtain⟨v_50,hv_50,H0⟩:=H0
   refine lok_iter (fun x_=>⟨322,mkS [(4,xP 104 0),(5,xS 8 zc9 y3),(6,xS 6 zb9 y5),(7,xS 9 za9 y7),(9,xL y11),(10,xL y13),(11,xV 111),(12,xV 112),(13,xV 113),(15,xI x_.1)],mkH [(104,.var [pI y1.Close,pI y1.Late]),(111,bA 8 zc9 entries2),(112,bA 6 zb9 x_.2),(113,bA 9 za9 ([]:List zh9))]⟩) hv_50 imp_au ?_
   ·rintro⟨i3,registers21⟩ o_1 H1 k_1
    unfold top_TopAccounted_l12 at H1
    try dsimp only at H1 ⊢
    refine lok_seq ?_
    refine lok_rt E0 (⟨322,mkS [(4,xP 104 0),(5,xS 8 zc9 y3),(6,xS 6 zb9 y5),(7,xS 9 za9 y7),(9,xL y11),(10,xL y13),(11,xV 111),(12,xV 112),(13,xV 113),(15,xI i3),(88,xB (decide (i3<(y11.length:Int))))],mkH [(104,.var [pI y1.Close,pI y1.Late]),(111,bA 8 zc9 entries2),(112,bA 6 zb9 registers21),(113,bA 9 za9 ([]:List zh9))]⟩) ?_
    refine lok_c (decide (i3<(y11.length:Int))) ?_ ?_
    ·intro b_55
     replace H1:=cpos H1 b_55
     refine lok_skip ?_
     try simp only [thenL,blockL,↓reduceIte,reduceCtorEq]
     refine lok_seq ?_
     refine zz9 ?_
     replace H1:=req_some H1
     obtain⟨⟨q_52,q_53,q_54⟩,H1⟩:=H1
     replace H1:=zp1 H1
     obtain⟨registers23,a_51,H1⟩:=H1
     refine lok_rlg E0 a_51 (⟨322,mkS [(4,xP 104 0),(5,xS 8 zc9 y3),(6,xS 6 zb9 y5),(7,xS 9 za9 y7),(9,xL y11),(10,xL y13),(11,xV 111),(12,xV 112),(13,xV 113),(15,xI i3)],mkH [(104,.var [pI y1.Close,pI y1.Late]),(111,bA 8 zc9 entries2),(112,bA 6 zb9 registers23),(113,bA 9 za9 ([]:List zh9))]⟩) ?_
     try simp only [thenL,blockL,↓reduceIte,reduceCtorEq]
     refine lok_rl E0 (⟨322,mkS [(4,xP 104 0),(5,xS 8 zc9 y3),(6,xS 6 zb9 y5),(7,xS 9 za9 y7),(9,xL y11),(10,xL y13),(11,xV 111),(12,xV 112),(13,xV 113),(15,xI (IntKind.i64.wrap (i3+(1:Int))))],mkH [(104,.var [pI y1.Close,pI y1.Late]),(111,bA 8 zc9 entries2),(112,bA 6 zb9 registers23),(113,bA 9 za9 ([]:List zh9))]⟩) ?_
     try simp only [thenL,blockL,↓reduceIte,reduceCtorEq]
     exact⟨((IntKind.i64.wrap (i3+(1:Int))),registers23),(Option.some.inj H1).symm,imp_au⟩
    ·intro b_55
     replace H1:=cneg H1 b_55
     refine lok_exit ?_
     try simp only [thenL,blockL,↓reduceIte,reduceCtorEq]
     have e_1:=k_1 _ (Option.some.inj H1).symm
     subst e_1
     try dsimp only at H0
     try simp only [thenL,blockL,↓reduceIte,reduceCtorEq]
     exact⟨registers21,H0,imp_au⟩
 case hxtop_TopAccounted_j13=>
  refine lok_rt E0 (⟨322,mkS [(4,xP 104 0),(5,xS 8 zc9 y3),(6,xS 6 zb9 y5),(7,xS 9 za9 y7),(8,xL y9),(9,xL y11),(10,xL y13),(11,xV 111),(12,xV 112),(13,xV 113),(14,xI (0:Int))],mkH [(104,.var [pI y1.Close,pI y1.Late]),(111,bA 8 zc9 ([]:List zg9)),(112,bA 6 zb9 ([]:List ze9)),(113,bA 9 za9 ([]:List zh9))]⟩) ?_
  refine zz9 ?_
  replace H0:=bind_some H0
  obtain⟨v_56,hv_56,H0⟩:=H0
  refine lok_iter (fun x_=>⟨322,mkS [(4,xP 104 0),(5,xS 8 zc9 y3),(6,xS 6 zb9 y5),(7,xS 9 za9 y7),(8,xL y9),(9,xL y11),(10,xL y13),(11,xV 111),(12,xV 112),(13,xV 113),(14,xI x_.1)],mkH [(104,.var [pI y1.Close,pI y1.Late]),(111,bA 8 zc9 x_.2),(112,bA 6 zb9 ([]:List ze9)),(113,bA 9 za9 ([]:List zh9))]⟩) hv_56 imp_au ?_
  ·rintro⟨i4,entries21⟩ o_1 H1 k_1
   unfold top_TopAccounted_l14 at H1
   try dsimp only at H1 ⊢
   refine lok_seq ?_
   refine lok_rt E0 (⟨322,mkS [(4,xP 104 0),(5,xS 8 zc9 y3),(6,xS 6 zb9 y5),(7,xS 9 za9 y7),(8,xL y9),(9,xL y11),(10,xL y13),(11,xV 111),(12,xV 112),(13,xV 113),(14,xI i4),(72,xB (decide (i4<(y9.length:Int))))],mkH [(104,.var [pI y1.Close,pI y1.Late]),(111,bA 8 zc9 entries21),(112,bA 6 zb9 ([]:List ze9)),(113,bA 9 za9 ([]:List zh9))]⟩) ?_
   refine lok_c (decide (i4<(y9.length:Int))) ?_ ?_
   ·intro b_61
    replace H1:=cpos H1 b_61
    refine lok_skip ?_
    try simp only [thenL,blockL,↓reduceIte,reduceCtorEq]
    refine lok_seq ?_
    refine zz9 ?_
    replace H1:=req_some H1
    obtain⟨⟨q_58,q_59,q_60⟩,H1⟩:=H1
    replace H1:=zp1 H1
    obtain⟨entries23,a_57,H1⟩:=H1
    refine lok_rlg E0 a_57 (⟨322,mkS [(4,xP 104 0),(5,xS 8 zc9 y3),(6,xS 6 zb9 y5),(7,xS 9 za9 y7),(8,xL y9),(9,xL y11),(10,xL y13),(11,xV 111),(12,xV 112),(13,xV 113),(14,xI i4)],mkH [(104,.var [pI y1.Close,pI y1.Late]),(111,bA 8 zc9 entries23),(112,bA 6 zb9 ([]:List ze9)),(113,bA 9 za9 ([]:List zh9))]⟩) ?_
    try simp only [thenL,blockL,↓reduceIte,reduceCtorEq]
    refine lok_rl E0 (⟨322,mkS [(4,xP 104 0),(5,xS 8 zc9 y3),(6,xS 6 zb9 y5),(7,xS 9 za9 y7),(8,xL y9),(9,xL y11),(10,xL y13),(11,xV 111),(12,xV 112),(13,xV 113),(14,xI (IntKind.i64.wrap (i4+(1:Int))))],mkH [(104,.var [pI y1.Close,pI y1.Late]),(111,bA 8 zc9 entries23),(112,bA 6 zb9 ([]:List ze9)),(113,bA 9 za9 ([]:List zh9))]⟩) ?_
    try simp only [thenL,blockL,↓reduceIte,reduceCtorEq]
    exact⟨((IntKind.i64.wrap (i4+(1:Int))),entries23),(Option.some.inj H1).symm,imp_au⟩
   ·intro b_61
    replace H1:=cneg H1 b_61
    refine lok_exit ?_
    try simp only [thenL,blockL,↓reduceIte,reduceCtorEq]
    have e_1:=k_1 _ (Option.some.inj H1).symm
    subst e_1
    try dsimp only at H0
    try simp only [thenL,blockL,↓reduceIte,reduceCtorEq]
    exact⟨entries21,H0,imp_au⟩
end Go.LS
