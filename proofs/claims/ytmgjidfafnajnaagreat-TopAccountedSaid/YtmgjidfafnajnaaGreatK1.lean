/-
  The walks: the functions compute what the plain ones say. Condition: the plain function has a value.
-/
import Derived.Test.YtmgjidfafnajnaaGreatK0
import Derived.Test.YtmgjidfafnajnaaGreatD1
namespace Go.LS
open Go.Proofs
set_option linter.all false
set_option linter.unusedSimpArgs false
set_option linter.unusedVariables false
set_option maxRecDepth 20000
theorem ok_entry_validDeadlines (d:zY9) (r_:Bool) (H0:entry_validDeadlines d=some r_):CallOK Tryz.prog 30 [.agg [.p (pi d.Close),.p (pi d.Late)]] [] [.one (.p (.val (.bool r_)))] []:=by
 refine callOK (n:=18) (rs:=[.tmp 2]) (nb:=0) (V:=[]) Tryz.func30 rfl (by kernel_rfl) rfl rfl rfl rfl (Nat.le_of_ble_eq_true rfl) (by decide) ?_
 unfold entry_validDeadlines at H0
 refine lok_rt E0 (⟨18,mkS [(1,xP 101 0)],mkH [(101,.var [pI d.Close,pI d.Late])]⟩) ?_
 refine lok_rt E0 (⟨18,mkS [(2,xB (((decide ((0:Int)≤d.Close))&&(decide (d.Close≤d.Late)))&&(decide (d.Late≤(1000000:Int)))))],mkH []⟩) ?_
 refine lok_ret ?_
 try obtain rfl:=Option.some.inj H0
 try simp only [thenL,blockL]
 exact fin_au _ (.inr rfl) [] (⟨18,mkS [(2,xB (((decide ((0:Int)≤d.Close))&&(decide (d.Close≤d.Late)))&&(decide (d.Late≤(1000000:Int)))))],mkH []⟩) rfl rfl imp_au
theorem ok_entry_Canonical_f1 (e:zg9) (r_:zB9) (H0:entry_Canonical_f1 e=some r_):CallOK Tryz.prog 42 [.agg [.p (pi e.Stamp.Time),.p (pi e.Stamp.Source),.p (pi e.Stamp.Seq),.p (pi e.Kind),.p (pi e.Entry.Candidate),.p (pi e.Entry.Centre),.p (pi e.Entry.Paper),.p (pi e.To)]] [] [.agg [.p (pi r_.Time),.p (pi r_.Source),.p (pi r_.Seq)]] []:=by
 refine callOK (n:=5) (rs:=[.cell 2 36]) (nb:=0) (V:=[]) Tryz.func42 rfl (by kernel_rfl) rfl rfl rfl rfl (Nat.le_of_ble_eq_true rfl) (by decide) ?_
 unfold entry_Canonical_f1 at H0
 refine lok_rt E0 (⟨5,mkS [(1,xP 101 0),(2,xP 102 0)],mkH [(101,.var [pI e.Stamp.Time,pI e.Stamp.Source,pI e.Stamp.Seq,pI e.Kind,pI e.Entry.Candidate,pI e.Entry.Centre,pI e.Entry.Paper,pI e.To]),(102,.var [pI (0:Int),pI (0:Int),pI (0:Int)])]⟩) ?_
 refine lok_rt E0 (⟨5,mkS [(2,xP 102 0)],mkH [(102,.var [pI e.Stamp.Time,pI e.Stamp.Source,pI e.Stamp.Seq])]⟩) ?_
 refine lok_ret ?_
 try obtain rfl:=Option.some.inj H0
 try simp only [thenL,blockL]
 exact fin_au _ (.inr rfl) [] (⟨5,mkS [(2,xP 102 0)],mkH [(102,.var [pI e.Stamp.Time,pI e.Stamp.Source,pI e.Stamp.Seq])]⟩) rfl rfl imp_au
theorem ok_entry_Same (a:zg9) (b:zg9) (r_:Bool) (H0:entry_Same a b=some r_):CallOK Tryz.prog 43 [.agg [.p (pi a.Stamp.Time),.p (pi a.Stamp.Source),.p (pi a.Stamp.Seq),.p (pi a.Kind),.p (pi a.Entry.Candidate),.p (pi a.Entry.Centre),.p (pi a.Entry.Paper),.p (pi a.To)],.agg [.p (pi b.Stamp.Time),.p (pi b.Stamp.Source),.p (pi b.Stamp.Seq),.p (pi b.Kind),.p (pi b.Entry.Candidate),.p (pi b.Entry.Centre),.p (pi b.Entry.Paper),.p (pi b.To)]] [] [.one (.p (.val (.bool r_)))] []:=by
 refine callOK (n:=8) (rs:=[.tmp 4]) (nb:=0) (V:=[]) Tryz.func43 rfl (by kernel_rfl) rfl rfl rfl rfl (Nat.le_of_ble_eq_true rfl) (by decide) ?_
 unfold entry_Same at H0
 refine lok_rt E0 (⟨8,mkS [(2,xP 102 0),(3,xP 103 0)],mkH [(102,.var [pI a.Stamp.Time,pI a.Stamp.Source,pI a.Stamp.Seq,pI a.Kind,pI a.Entry.Candidate,pI a.Entry.Centre,pI a.Entry.Paper,pI a.To]),(103,.var [pI b.Stamp.Time,pI b.Stamp.Source,pI b.Stamp.Seq,pI b.Kind,pI b.Entry.Candidate,pI b.Entry.Centre,pI b.Entry.Paper,pI b.To])]⟩) ?_
 refine lok_rt E0 (⟨8,mkS [(4,xB ((a.Stamp.Time==b.Stamp.Time)&&((a.Stamp.Source==b.Stamp.Source)&&((a.Stamp.Seq==b.Stamp.Seq)&&((a.Kind==b.Kind)&&((a.Entry.Candidate==b.Entry.Candidate)&&((a.Entry.Centre==b.Entry.Centre)&&((a.Entry.Paper==b.Entry.Paper)&&(a.To==b.To)))))))))],mkH []⟩) ?_
 refine lok_ret ?_
 try obtain rfl:=Option.some.inj H0
 try simp only [thenL,blockL]
 exact fin_au _ (.inr rfl) [] (⟨8,mkS [(4,xB ((a.Stamp.Time==b.Stamp.Time)&&((a.Stamp.Source==b.Stamp.Source)&&((a.Stamp.Seq==b.Stamp.Seq)&&((a.Kind==b.Kind)&&((a.Entry.Candidate==b.Entry.Candidate)&&((a.Entry.Centre==b.Entry.Centre)&&((a.Entry.Paper==b.Entry.Paper)&&(a.To==b.To)))))))))],mkH []⟩) rfl rfl imp_au
theorem ok_stamp_Valid (s:zB9) (r_:Bool) (H0:stamp_Valid s=some r_):CallOK Tryz.prog 117 [.agg [.p (pi s.Time),.p (pi s.Source),.p (pi s.Seq)]] [] [.one (.p (.val (.bool r_)))] []:=by
 refine callOK (n:=31) (rs:=[.tmp 2]) (nb:=0) (V:=[]) Tryz.func117 rfl (by kernel_rfl) rfl rfl rfl rfl (Nat.le_of_ble_eq_true rfl) (by decide) ?_
 unfold stamp_Valid at H0
 refine lok_rt E0 (⟨31,mkS [(1,xP 101 0)],mkH [(101,.var [pI s.Time,pI s.Source,pI s.Seq])]⟩) ?_
 refine lok_rt E0 (⟨31,mkS [(2,xB ((((((decide ((0:Int)≤s.Time))&&(decide (s.Time≤(1000000:Int))))&&(decide ((0:Int)≤s.Source)))&&(decide (s.Source≤(99:Int))))&&(decide ((0:Int)≤s.Seq)))&&(decide (s.Seq≤(9999:Int)))))],mkH []⟩) ?_
 refine lok_ret ?_
 try obtain rfl:=Option.some.inj H0
 try simp only [thenL,blockL]
 exact fin_au _ (.inr rfl) [] (⟨31,mkS [(2,xB ((((((decide ((0:Int)≤s.Time))&&(decide (s.Time≤(1000000:Int))))&&(decide ((0:Int)≤s.Source)))&&(decide (s.Source≤(99:Int))))&&(decide ((0:Int)≤s.Seq)))&&(decide (s.Seq≤(9999:Int)))))],mkH []⟩) rfl rfl imp_au
theorem same_E (a b:zg9):entry_Same a b=some (decide (a=b)):=by
 obtain⟨⟨a1,a2,a3⟩,a4,⟨a5,a6,a7⟩,a8⟩:=a
 obtain⟨⟨b1,b2,b3⟩,b4,⟨b5,b6,b7⟩,b8⟩:=b
 unfold entry_Same
 congr 1
 rw [Bool.eq_iff_iff]
 simp only [Bool.and_eq_true,beq_iff_eq,decide_eq_true_eq,zg9.mk.injEq,zB9.mk.injEq,zX9.mk.injEq]
 constructor
 ·rintro⟨h1,h2,h3,h4,h5,h6,h7,h8⟩; exact⟨⟨h1,h2,h3⟩,h4,⟨h5,h6,h7⟩,h8⟩
 ·rintro⟨⟨h1,h2,h3⟩,h4,⟨h5,h6,h7⟩,h8⟩; exact⟨h1,h2,h3,h4,h5,h6,h7,h8⟩
theorem zr1 (l:List zg9) (r_:List Int×Int) (H0:zA9 l=some r_):CallOK Tryz.prog 41 [.one (.p (.sl 8 (List.map zc9 l))),.one (.fn 42 []),.one (.fn 43 [])] [] [.one (.p (.sl 1 (List.map encI r_.1))),.one (.p (pi r_.2))] []:=by
 obtain⟨⟨h1,h2⟩,H0⟩:=req_some H0
 obtain rfl:=Option.some.inj H0
 exact ok_CanonE evE (fun _=>rfl) l default h1 h2 (fun x y=>decide (x=y)) vldS
  (fun x _=>ok_entry_Canonical_f1 x _ rfl) (fun x _ y _=>ok_entry_Same x y _ (same_E x y)) (fun x _=>ok_stamp_Valid x.Stamp _ rfl)
theorem ok_entry_Canonical (l:List zg9) (r_:(List zg9)×Int) (H0:entry_Canonical l=some r_):CallOK Tryz.prog 31 [.one (.p (.sl 8 (List.map zc9 l)))] [] [.one (.p (.sl 8 (List.map zc9 r_.1))),.one (.p (pi r_.2))] []:=by
 refine callOK (n:=36) (rs:=[.tmp 2,.tmp 3]) (nb:=0) (V:=[]) Tryz.func31 rfl (by kernel_rfl) rfl rfl rfl rfl (Nat.le_of_ble_eq_true rfl) (by decide) ?_
 unfold entry_Canonical at H0
 refine lok_rt E0 (⟨36,mkS [(0,xS 8 zc9 l)],mkH []⟩) ?_
 replace H0:=bind_some H0
 obtain⟨⟨y,y1⟩,h_0,H0⟩:=H0
 try dsimp only at H0
 refine lok_rt (Env.of E0 [⟨some 11,41,[oS 8 zc9 l,.one (.fn 42 []),.one (.fn 43 [])],[],[oL y,oI y1],[],True,fun _=>zr1 l (y,y1) h_0,[]⟩]) (⟨36,mkS [(0,xS 8 zc9 l),(4,xL y),(5,xI y1)],mkH []⟩) ?_
 refine lok_seq ?_
 refine lok_rt E0 (⟨36,mkS [(0,xS 8 zc9 l),(4,xL y),(5,xI y1),(15,xB (y1 != (0:Int)))],mkH []⟩) ?_
 refine lok_c (y1 != (0:Int)) ?_ ?_
 ·intro b_9
  replace H0:=cpos H0 b_9
  refine lok_rt E0 (⟨36,mkS [(2,xV 102),(3,xI y1)],mkH [(102,bA 8 zc9 ([]:List zg9))]⟩) ?_
  refine lok_ret ?_
  try obtain rfl:=Option.some.inj H0
  try simp only [thenL,blockL]
  exact fin_au _ (.inr rfl) [] (⟨36,mkS [(2,xS 8 zc9 ([]:List zg9)),(3,xI y1)],mkH []⟩) rfl rfl (Imp.trans (imp_frz 102 8 (List.map zc9 ([]:List zg9))) imp_au)
 ·intro b_9
  replace H0:=cneg H0 b_9
  refine lok_skip ?_
  try simp only [thenL,blockL,↓reduceIte,reduceCtorEq]
  replace H0:=req_some H0
  obtain⟨q_8,H0⟩:=H0
  replace H0:=zp1 H0
  obtain⟨w,a_1,H0⟩:=H0
  refine lok_rtg E0 a_1 (⟨36,mkS [(0,xS 8 zc9 l),(4,xL y),(6,xV 119)],mkH [(119,bA 8 zc9 w)]⟩) ?_
  refine lok_join (fun x_:(List zg9)=>entry_Canonical_j1 x_=some r_) (fun x_=>⟨36,mkS [(6,xV 119)],mkH [(119,bA 8 zc9 x_)]⟩) ?hyentry_Canonical_j1 ?hxentry_Canonical_j1
  case hyentry_Canonical_j1=>
   rintro w1 H0
   try dsimp only at H0 ⊢
   unfold entry_Canonical_j1 at H0
   refine lok_rt E0 (⟨36,mkS [(2,xV 119),(3,xI (0:Int))],mkH [(119,bA 8 zc9 w1)]⟩) ?_
   refine lok_ret ?_
   try obtain rfl:=Option.some.inj H0
   try simp only [thenL,blockL]
   exact fin_au _ (.inr rfl) [] (⟨36,mkS [(2,xS 8 zc9 w1),(3,xI (0:Int))],mkH []⟩) rfl rfl (Imp.trans (imp_frz 119 8 (List.map zc9 w1)) imp_au)
  case hxentry_Canonical_j1=>
   refine lok_rt E0 (⟨36,mkS [(0,xS 8 zc9 l),(6,xV 119),(20,xL y),(21,xI (y.length:Int)),(22,xI (0:Int))],mkH [(119,bA 8 zc9 w)]⟩) ?_
   refine zz9 ?_
   replace H0:=bind_some H0
   obtain⟨v_2,hv_2,H0⟩:=H0
   refine lok_iter (fun x_=>⟨36,mkS [(0,xS 8 zc9 l),(6,xV 119),(20,xL y),(21,xI (y.length:Int)),(22,xI x_.1)],mkH [(119,bA 8 zc9 x_.2)]⟩) hv_2 imp_au ?_
   ·rintro⟨v,w2⟩ o_1 H1 k_1
    unfold entry_Canonical_l2 at H1
    try dsimp only at H1 ⊢
    refine lok_rt E0 (⟨36,mkS [(0,xS 8 zc9 l),(6,xV 119),(20,xL y),(21,xI (y.length:Int)),(22,xI v),(23,xB (decide (v<(y.length:Int))))],mkH [(119,bA 8 zc9 w2)]⟩) ?_
    refine lok_seq ?_
    refine lok_c (decide (v<(y.length:Int))) ?_ ?_
    ·intro b_7
     replace H1:=cpos H1 b_7
     refine lok_skip ?_
     try simp only [thenL,blockL,↓reduceIte,reduceCtorEq]
     refine lok_seq ?_
     refine zz9 ?_
     replace H1:=req_some H1
     obtain⟨q_6,H1⟩:=H1
     refine lok_rt E0 (⟨36,mkS [(0,xS 8 zc9 l),(6,xV 119),(7,xI v),(8,xI (ix y v)),(20,xL y),(21,xI (y.length:Int)),(22,xI v)],mkH [(119,bA 8 zc9 w2)]⟩) ?_
     replace H1:=req_some H1
     obtain⟨⟨q_4,q_5⟩,H1⟩:=H1
     replace H1:=zp1 H1
     obtain⟨w4,a_3,H1⟩:=H1
     refine lok_rlg E0 a_3 (⟨36,mkS [(0,xS 8 zc9 l),(6,xV 119),(20,xL y),(21,xI (y.length:Int)),(22,xI v)],mkH [(119,bA 8 zc9 w4)]⟩) ?_
     try simp only [thenL,blockL,↓reduceIte,reduceCtorEq]
     refine lok_rl E0 (⟨36,mkS [(0,xS 8 zc9 l),(6,xV 119),(20,xL y),(21,xI (y.length:Int)),(22,xI (IntKind.i64.wrap (v+(1:Int))))],mkH [(119,bA 8 zc9 w4)]⟩) ?_
     try simp only [thenL,blockL,↓reduceIte,reduceCtorEq]
     exact⟨((IntKind.i64.wrap (v+(1:Int))),w4),(Option.some.inj H1).symm,imp_au⟩
    ·intro b_7
     replace H1:=cneg H1 b_7
     refine lok_exit ?_
     try simp only [thenL,blockL,↓reduceIte,reduceCtorEq]
     have e_1:=k_1 _ (Option.some.inj H1).symm
     subst e_1
     try dsimp only at H0
     try simp only [thenL,blockL,↓reduceIte,reduceCtorEq]
     exact⟨w2,H0,imp_au⟩
theorem ok_entry_isCentre (n:Int) (r_:Bool) (H0:zZ9 n=some r_):CallOK Tryz.prog 74 [.one (.p (pi n))] [] [.one (.p (.val (.bool r_)))] []:=by
 refine callOK (n:=9) (rs:=[.tmp 2]) (nb:=0) (V:=[]) Tryz.func74 rfl (by kernel_rfl) rfl rfl rfl rfl (Nat.le_of_ble_eq_true rfl) (by decide) ?_
 unfold zZ9 at H0
 refine lok_rt E0 (⟨9,mkS [(0,xI n)],mkH []⟩) ?_
 refine lok_rt E0 (⟨9,mkS [(2,xB ((decide ((1:Int)≤n))&&(decide (n≤(99:Int)))))],mkH []⟩) ?_
 refine lok_ret ?_
 try obtain rfl:=Option.some.inj H0
 try simp only [thenL,blockL]
 exact fin_au _ (.inr rfl) [] (⟨9,mkS [(2,xB ((decide ((1:Int)≤n))&&(decide (n≤(99:Int)))))],mkH []⟩) rfl rfl imp_au
theorem ok_entry_validEntry (e:zX9) (r_:Bool) (H0:entry_validEntry e=some r_):CallOK Tryz.prog 73 [.agg [.p (pi e.Candidate),.p (pi e.Centre),.p (pi e.Paper)]] [] [.one (.p (.val (.bool r_)))] []:=by
 refine callOK (n:=26) (rs:=[.tmp 2]) (nb:=0) (V:=[]) Tryz.func73 rfl (by kernel_rfl) rfl rfl rfl rfl (Nat.le_of_ble_eq_true rfl) (by decide) ?_
 unfold entry_validEntry at H0
 refine lok_rt E0 (⟨26,mkS [(1,xP 101 0)],mkH [(101,.var [pI e.Candidate,pI e.Centre,pI e.Paper])]⟩) ?_
 replace H0:=req_some H0
 obtain⟨q_0,H0⟩:=H0
 refine lok_rt (Env.of E0 [⟨some 14,74,[oI e.Centre],[],[oB ((zZ9 e.Centre).getD default)],[],(zZ9 e.Centre).isSome=true,fun h=>ok_entry_isCentre e.Centre _ (zL1 h),[]⟩]) (⟨26,mkS [(2,xB (((((decide ((0:Int)≤e.Candidate))&&(decide (e.Candidate≤(9999:Int))))&&((zZ9 e.Centre).getD default))&&(decide ((0:Int)≤e.Paper)))&&(decide (e.Paper≤(31:Int)))))],mkH []⟩) ?_
 refine lok_ret ?_
 try obtain rfl:=Option.some.inj H0
 try simp only [thenL,blockL]
 exact fin_au _ (.inr rfl) [] (⟨26,mkS [(2,xB (((((decide ((0:Int)≤e.Candidate))&&(decide (e.Candidate≤(9999:Int))))&&((zZ9 e.Centre).getD default))&&(decide ((0:Int)≤e.Paper)))&&(decide (e.Paper≤(31:Int)))))],mkH []⟩) rfl rfl imp_au
theorem ok_entry_validEvent (e:zg9) (r_:Bool) (H0:entry_validEvent e=some r_):CallOK Tryz.prog 44 [.agg [.p (pi e.Stamp.Time),.p (pi e.Stamp.Source),.p (pi e.Stamp.Seq),.p (pi e.Kind),.p (pi e.Entry.Candidate),.p (pi e.Entry.Centre),.p (pi e.Entry.Paper),.p (pi e.To)]] [] [.one (.p (.val (.bool r_)))] []:=by
 refine callOK (n:=29) (rs:=[.tmp 2]) (nb:=0) (V:=[]) Tryz.func44 rfl (by kernel_rfl) rfl rfl rfl rfl (Nat.le_of_ble_eq_true rfl) (by decide) ?_
 unfold entry_validEvent at H0
 refine lok_rt E0 (⟨29,mkS [(1,xP 101 0)],mkH [(101,.var [pI e.Stamp.Time,pI e.Stamp.Source,pI e.Stamp.Seq,pI e.Kind,pI e.Entry.Candidate,pI e.Entry.Centre,pI e.Entry.Paper,pI e.To])]⟩) ?_
 refine lok_seq ?_
 refine lok_rt E0 (⟨29,mkS [(1,xP 101 0),(4,xI e.Kind)],mkH [(101,.var [pI e.Stamp.Time,pI e.Stamp.Source,pI e.Stamp.Seq,pI e.Kind,pI e.Entry.Candidate,pI e.Entry.Centre,pI e.Entry.Paper,pI e.To])]⟩) ?_
 refine zz9 ?_
 refine lok_join (fun x_:Bool=>zQ1 e x_=some r_) (fun x_=>⟨29,mkS [(1,xP 101 0),(4,xI e.Kind),(5,xB x_)],mkH [(101,.var [pI e.Stamp.Time,pI e.Stamp.Source,pI e.Stamp.Seq,pI e.Kind,pI e.Entry.Candidate,pI e.Entry.Centre,pI e.Entry.Paper,pI e.To])]⟩) ?hyentry_validEvent_j1 ?hxentry_validEvent_j1
 case hyentry_validEvent_j1=>
  rintro v H0
  try dsimp only at H0 ⊢
  unfold zQ1 at H0
  refine lok_c v ?_ ?_
  ·intro b_4
   replace H0:=cpos H0 b_4
   replace H0:=bind_some H0
   obtain⟨y,h_0,H0⟩:=H0
   refine lok_rt (Env.of E0 [⟨some 10,73,[.agg [pI e.Entry.Candidate,pI e.Entry.Centre,pI e.Entry.Paper]],[],[oB y],[],True,fun _=>ok_entry_validEntry e.Entry y h_0,[]⟩]) (⟨29,mkS [(2,xB y)],mkH []⟩) ?_
   refine lok_ret ?_
   try obtain rfl:=Option.some.inj H0
   try simp only [thenL,blockL]
   exact fin_au _ (.inr rfl) [] (⟨29,mkS [(2,xB y)],mkH []⟩) rfl rfl imp_au
  ·intro b_4
   replace H0:=cneg H0 b_4
   refine lok_rt E0 (⟨29,mkS [(1,xP 101 0),(11,xB (e.Kind==(3:Int)))],mkH [(101,.var [pI e.Stamp.Time,pI e.Stamp.Source,pI e.Stamp.Seq,pI e.Kind,pI e.Entry.Candidate,pI e.Entry.Centre,pI e.Entry.Paper,pI e.To])]⟩) ?_
   refine lok_c (e.Kind==(3:Int)) ?_ ?_
   ·intro b_3
    replace H0:=cpos H0 b_3
    replace H0:=bind_some H0
    obtain⟨y1,h_1,H0⟩:=H0
    replace H0:=req_some H0
    obtain⟨q_2,H0⟩:=H0
    refine lok_rt (Env.of E0 [⟨some 15,73,[.agg [pI e.Entry.Candidate,pI e.Entry.Centre,pI e.Entry.Paper]],[],[oB y1],[],True,fun _=>ok_entry_validEntry e.Entry y1 h_1,[]⟩,
   ⟨some 19,74,[oI e.To],[],[oB ((zZ9 e.To).getD default)],[],(zZ9 e.To).isSome=true,fun h=>ok_entry_isCentre e.To _ (zL1 h),[]⟩]) (⟨29,mkS [(2,xB ((y1&&((zZ9 e.To).getD default))&&(e.To != e.Entry.Centre)))],mkH []⟩) ?_
    refine lok_ret ?_
    try obtain rfl:=Option.some.inj H0
    try simp only [thenL,blockL]
    exact fin_au _ (.inr rfl) [] (⟨29,mkS [(2,xB ((y1&&((zZ9 e.To).getD default))&&(e.To != e.Entry.Centre)))],mkH []⟩) rfl rfl imp_au
   ·intro b_3
    replace H0:=cneg H0 b_3
    refine lok_skip ?_
    try simp only [thenL,blockL,↓reduceIte,reduceCtorEq]
    refine lok_rt E0 (⟨29,mkS [(2,xB false)],mkH []⟩) ?_
    refine lok_ret ?_
    try obtain rfl:=Option.some.inj H0
    try simp only [thenL,blockL]
    exact fin_au _ (.inr rfl) [] (⟨29,mkS [(2,xB false)],mkH []⟩) rfl rfl imp_au
 case hxentry_validEvent_j1=>
  refine lok_rt E0 (⟨29,mkS [(1,xP 101 0),(4,xI e.Kind),(5,xB (e.Kind==(1:Int)))],mkH [(101,.var [pI e.Stamp.Time,pI e.Stamp.Source,pI e.Stamp.Seq,pI e.Kind,pI e.Entry.Candidate,pI e.Entry.Centre,pI e.Entry.Paper,pI e.To])]⟩) ?_
  refine lok_c (e.Kind==(1:Int)) ?_ ?_
  ·intro b_5
   replace H0:=cpos H0 b_5
   refine lok_skip ?_
   try simp only [thenL,blockL,↓reduceIte,reduceCtorEq]
   exact⟨(e.Kind==(1:Int)),H0,imp_au⟩
  ·intro b_5
   replace H0:=cneg H0 b_5
   refine lok_rl E0 (⟨29,mkS [(1,xP 101 0),(4,xI e.Kind),(5,xB (e.Kind==(2:Int)))],mkH [(101,.var [pI e.Stamp.Time,pI e.Stamp.Source,pI e.Stamp.Seq,pI e.Kind,pI e.Entry.Candidate,pI e.Entry.Centre,pI e.Entry.Paper,pI e.To])]⟩) ?_
   try simp only [thenL,blockL,↓reduceIte,reduceCtorEq]
   exact⟨(e.Kind==(2:Int)),H0,imp_au⟩
theorem ok_cmp_isNaN_int (x:Int) (r_:Bool) (H0:cmp_isNaN_int x=some r_):CallOK Tryz.prog 79 [.one (.p (pi x))] [] [.one (.p (.val (.bool r_)))] []:=by
 refine callOK (n:=6) (rs:=[.tmp 2]) (nb:=0) (V:=[]) Tryz.func79 rfl (by kernel_rfl) rfl rfl rfl rfl (Nat.le_of_ble_eq_true rfl) (by decide) ?_
 unfold cmp_isNaN_int at H0
 refine lok_rt E0 (⟨6,mkS [(0,xI x)],mkH []⟩) ?_
 refine lok_rt E0 (⟨6,mkS [(2,xB (x != x))],mkH []⟩) ?_
 refine lok_ret ?_
 try obtain rfl:=Option.some.inj H0
 try simp only [thenL,blockL]
 exact fin_au _ (.inr rfl) [] (⟨6,mkS [(2,xB (x != x))],mkH []⟩) rfl rfl imp_au
theorem ok_cmp_Compare_int (x:Int) (y:Int) (r_:Int) (H0:cmp_Compare_int x y=some r_):CallOK Tryz.prog 55 [.one (.p (pi x)),.one (.p (pi y))] [] [.one (.p (pi r_))] []:=by
 refine callOK (n:=20) (rs:=[.tmp 4]) (nb:=0) (V:=[]) Tryz.func55 rfl (by kernel_rfl) rfl rfl rfl rfl (Nat.le_of_ble_eq_true rfl) (by decide) ?_
 unfold cmp_Compare_int at H0
 refine lok_rt E0 (⟨20,mkS [(0,xI x),(1,xI y)],mkH []⟩) ?_
 replace H0:=bind_some H0
 obtain⟨y1,h_0,H0⟩:=H0
 refine lok_rt (Env.of E0 [⟨some 8,79,[oI x],[],[oB y1],[],True,fun _=>ok_cmp_isNaN_int x y1 h_0,[]⟩]) (⟨20,mkS [(0,xI x),(1,xI y),(5,xB y1)],mkH []⟩) ?_
 replace H0:=bind_some H0
 obtain⟨y2,h_1,H0⟩:=H0
 refine lok_rt (Env.of E0 [⟨some 10,79,[oI y],[],[oB y2],[],True,fun _=>ok_cmp_isNaN_int y y2 h_1,[]⟩]) (⟨20,mkS [(0,xI x),(1,xI y),(5,xB y1),(6,xB y2)],mkH []⟩) ?_
 refine lok_seq ?_
 refine lok_rt E0 (⟨20,mkS [(0,xI x),(1,xI y),(6,xB y2),(11,xB y1)],mkH []⟩) ?_
 refine lok_c y1 ?_ ?_
 ·intro b_6
  replace H0:=cpos H0 b_6
  refine lok_seq ?_
  refine lok_rt E0 (⟨20,mkS [(12,xB y2)],mkH []⟩) ?_
  refine lok_c y2 ?_ ?_
  ·intro b_2
   replace H0:=cpos H0 b_2
   refine lok_rt E0 (⟨20,mkS [(4,xI (0:Int))],mkH []⟩) ?_
   refine lok_ret ?_
   try obtain rfl:=Option.some.inj H0
   try simp only [thenL,blockL]
   exact fin_au _ (.inr rfl) [] (⟨20,mkS [(4,xI (0:Int))],mkH []⟩) rfl rfl imp_au
  ·intro b_2
   replace H0:=cneg H0 b_2
   refine lok_skip ?_
   try simp only [thenL,blockL,↓reduceIte,reduceCtorEq]
   refine lok_rt E0 (⟨20,mkS [(4,xI (-1:Int))],mkH []⟩) ?_
   refine lok_ret ?_
   try obtain rfl:=Option.some.inj H0
   try simp only [thenL,blockL]
   exact fin_au _ (.inr rfl) [] (⟨20,mkS [(4,xI (-1:Int))],mkH []⟩) rfl rfl imp_au
 ·intro b_6
  replace H0:=cneg H0 b_6
  refine lok_skip ?_
  try simp only [thenL,blockL,↓reduceIte,reduceCtorEq]
  refine lok_seq ?_
  refine lok_rt E0 (⟨20,mkS [(0,xI x),(1,xI y),(13,xB y2)],mkH []⟩) ?_
  refine lok_c y2 ?_ ?_
  ·intro b_5
   replace H0:=cpos H0 b_5
   refine lok_rt E0 (⟨20,mkS [(4,xI (1:Int))],mkH []⟩) ?_
   refine lok_ret ?_
   try obtain rfl:=Option.some.inj H0
   try simp only [thenL,blockL]
   exact fin_au _ (.inr rfl) [] (⟨20,mkS [(4,xI (1:Int))],mkH []⟩) rfl rfl imp_au
  ·intro b_5
   replace H0:=cneg H0 b_5
   refine lok_skip ?_
   try simp only [thenL,blockL,↓reduceIte,reduceCtorEq]
   refine lok_seq ?_
   refine lok_rt E0 (⟨20,mkS [(0,xI x),(1,xI y),(16,xB (decide (x<y)))],mkH []⟩) ?_
   refine lok_c (decide (x<y)) ?_ ?_
   ·intro b_4
    replace H0:=cpos H0 b_4
    refine lok_rt E0 (⟨20,mkS [(4,xI (-1:Int))],mkH []⟩) ?_
    refine lok_ret ?_
    try obtain rfl:=Option.some.inj H0
    try simp only [thenL,blockL]
    exact fin_au _ (.inr rfl) [] (⟨20,mkS [(4,xI (-1:Int))],mkH []⟩) rfl rfl imp_au
   ·intro b_4
    replace H0:=cneg H0 b_4
    refine lok_skip ?_
    try simp only [thenL,blockL,↓reduceIte,reduceCtorEq]
    refine lok_seq ?_
    refine lok_rt E0 (⟨20,mkS [(19,xB (decide (y<x)))],mkH []⟩) ?_
    refine lok_c (decide (y<x)) ?_ ?_
    ·intro b_3
     replace H0:=cpos H0 b_3
     refine lok_rt E0 (⟨20,mkS [(4,xI (1:Int))],mkH []⟩) ?_
     refine lok_ret ?_
     try obtain rfl:=Option.some.inj H0
     try simp only [thenL,blockL]
     exact fin_au _ (.inr rfl) [] (⟨20,mkS [(4,xI (1:Int))],mkH []⟩) rfl rfl imp_au
    ·intro b_3
     replace H0:=cneg H0 b_3
     refine lok_skip ?_
     try simp only [thenL,blockL,↓reduceIte,reduceCtorEq]
     refine lok_rt E0 (⟨20,mkS [(4,xI (0:Int))],mkH []⟩) ?_
     refine lok_ret ?_
     try obtain rfl:=Option.some.inj H0
     try simp only [thenL,blockL]
     exact fin_au _ (.inr rfl) [] (⟨20,mkS [(4,xI (0:Int))],mkH []⟩) rfl rfl imp_au
theorem ok_cmp_Or_int (vals:List Int) (r_:Int) (H0:cmp_Or_int vals=some r_):CallOK Tryz.prog 75 [.one (.p (.sl 1 (List.map encI vals)))] [] [.one (.p (pi r_))] []:=by
 refine callOK (n:=18) (rs:=[.tmp 2]) (nb:=0) (V:=[]) Tryz.func75 rfl (by kernel_rfl) rfl rfl rfl rfl (Nat.le_of_ble_eq_true rfl) (by decide) ?_
 unfold cmp_Or_int at H0
 refine lok_rt E0 (⟨18,mkS [(0,xL vals)],mkH []⟩) ?_
 refine lok_rt E0 (⟨18,mkS [(0,xL vals),(3,xI (0:Int))],mkH []⟩) ?_
 refine lok_join (fun x_:Unit=>cmp_Or_int_j1=some r_) (fun x_=>⟨18,mkS [(3,xI (0:Int))],mkH []⟩) ?hycmp_Or_int_j1 ?hxcmp_Or_int_j1
 case hycmp_Or_int_j1=>
  rintro _ H0
  try dsimp only at H0 ⊢
  unfold cmp_Or_int_j1 at H0
  refine lok_rt E0 (⟨18,mkS [(2,xI (0:Int))],mkH []⟩) ?_
  refine lok_ret ?_
  try obtain rfl:=Option.some.inj H0
  try simp only [thenL,blockL]
  exact fin_au _ (.inr rfl) [] (⟨18,mkS [(2,xI (0:Int))],mkH []⟩) rfl rfl imp_au
 case hxcmp_Or_int_j1=>
  refine lok_rt E0 (⟨18,mkS [(3,xI (0:Int)),(6,xL vals),(7,xI (vals.length:Int)),(8,xI (0:Int))],mkH []⟩) ?_
  refine zz9 ?_
  replace H0:=bind_some H0
  obtain⟨v_0,hv_0,H0⟩:=H0
  refine lok_iter (fun x_=>⟨18,mkS [(3,xI (0:Int)),(6,xL vals),(7,xI (vals.length:Int)),(8,xI x_)],mkH []⟩) hv_0 imp_au ?_
  ·rintro v o_1 H1 k_1
   unfold cmp_Or_int_l2 at H1
   try dsimp only at H1 ⊢
   refine lok_rt E0 (⟨18,mkS [(3,xI (0:Int)),(6,xL vals),(7,xI (vals.length:Int)),(8,xI v),(9,xB (decide (v<(vals.length:Int))))],mkH []⟩) ?_
   refine lok_seq ?_
   refine lok_c (decide (v<(vals.length:Int))) ?_ ?_
   ·intro b_3
    replace H1:=cpos H1 b_3
    refine lok_skip ?_
    try simp only [thenL,blockL,↓reduceIte,reduceCtorEq]
    refine lok_seq ?_
    refine zz9 ?_
    replace H1:=req_some H1
    obtain⟨q_2,H1⟩:=H1
    refine lok_rt E0 (⟨18,mkS [(3,xI (0:Int)),(5,xI (ix vals v)),(6,xL vals),(7,xI (vals.length:Int)),(8,xI v)],mkH []⟩) ?_
    refine lok_rt E0 (⟨18,mkS [(3,xI (0:Int)),(5,xI (ix vals v)),(6,xL vals),(7,xI (vals.length:Int)),(8,xI v),(14,xB ((ix vals v) != (0:Int)))],mkH []⟩) ?_
    refine lok_c ((ix vals v) != (0:Int)) ?_ ?_
    ·intro b_1
     replace H1:=cpos H1 b_1
     refine lok_rt E0 (⟨18,mkS [(2,xI (ix vals v))],mkH []⟩) ?_
     refine lok_ret ?_
     try simp only [thenL,blockL,↓reduceIte,reduceCtorEq]
     have e_1:=k_1 _ (Option.some.inj H1).symm
     subst e_1
     try dsimp only at H0
     try obtain rfl:=Option.some.inj H0
     try simp only [thenL,blockL]
     exact fin_au _ (.inr rfl) [] (⟨18,mkS [(2,xI (ix vals v))],mkH []⟩) rfl rfl imp_au
    ·intro b_1
     replace H1:=cneg H1 b_1
     refine lok_skip ?_
     try simp only [thenL,blockL,↓reduceIte,reduceCtorEq]
     refine lok_rl E0 (⟨18,mkS [(3,xI (0:Int)),(6,xL vals),(7,xI (vals.length:Int)),(8,xI (IntKind.i64.wrap (v+(1:Int))))],mkH []⟩) ?_
     try simp only [thenL,blockL,↓reduceIte,reduceCtorEq]
     exact⟨(IntKind.i64.wrap (v+(1:Int))),(Option.some.inj H1).symm,imp_au⟩
   ·intro b_3
    replace H1:=cneg H1 b_3
    refine lok_exit ?_
    try simp only [thenL,blockL,↓reduceIte,reduceCtorEq]
    have e_1:=k_1 _ (Option.some.inj H1).symm
    subst e_1
    try dsimp only at H0
    try simp only [thenL,blockL,↓reduceIte,reduceCtorEq]
    exact⟨(),H0,imp_au⟩
theorem ok_entry_compare (x:zf9) (e:zX9) (r_:Int) (H0:zP1 x e=some r_):CallOK Tryz.prog 46 [.agg [.p (pi x.Entry.Candidate),.p (pi x.Entry.Centre),.p (pi x.Entry.Paper),.p (.val (.bool x.Late))],.agg [.p (pi e.Candidate),.p (pi e.Centre),.p (pi e.Paper)]] [] [.one (.p (pi r_))] []:=by
 refine callOK (n:=19) (rs:=[.tmp 4]) (nb:=0) (V:=[]) Tryz.func46 rfl (by kernel_rfl) rfl rfl rfl rfl (Nat.le_of_ble_eq_true rfl) (by decide) ?_
 unfold zP1 at H0
 refine lok_rt E0 (⟨19,mkS [(2,xP 102 0),(3,xP 103 0)],mkH [(102,.var [pI x.Entry.Candidate,pI x.Entry.Centre,pI x.Entry.Paper,.p (.val (.bool x.Late))]),(103,.var [pI e.Candidate,pI e.Centre,pI e.Paper])]⟩) ?_
 replace H0:=bind_some H0
 obtain⟨y,h_0,H0⟩:=H0
 replace H0:=bind_some H0
 obtain⟨y1,h_1,H0⟩:=H0
 replace H0:=bind_some H0
 obtain⟨y2,h_2,H0⟩:=H0
 refine lok_dt (Env.of E0 [⟨some 10,55,[oI x.Entry.Candidate,oI e.Candidate],[],[oI y],[],True,fun _=>ok_cmp_Compare_int x.Entry.Candidate e.Candidate y h_0,[]⟩,
   ⟨some 16,55,[oI x.Entry.Paper,oI e.Paper],[],[oI y1],[],True,fun _=>ok_cmp_Compare_int x.Entry.Paper e.Paper y1 h_1,[]⟩,
   ⟨some 18,75,[oL ([y,y1])],[],[oI y2],[],True,fun _=>ok_cmp_Or_int ([y,y1]) y2 h_2,[]⟩]) 11 (⟨19,mkS [(4,xI y2)],mkH []⟩) (by kernel_rfl) (by kernel_rfl) ?_
 refine lok_ret ?_
 try obtain rfl:=Option.some.inj H0
 try simp only [thenL,blockL]
 exact fin_au _ (.inr rfl) [] (⟨19,mkS [(4,xI y2)],mkH []⟩) rfl rfl imp_au
set_option maxHeartbeats 4000000 in
theorem zP9 (x:List zf9) (target:zX9) (r_:Int×Bool) (H0:zm9 x target=some r_):CallOK Tryz.prog 45 [.one (.p (.sl 4 (List.map zd9 x))),.agg [.p (pi target.Candidate),.p (pi target.Centre),.p (pi target.Paper)],.one (.fn 46 [])] [] [.one (.p (pi r_.1)),.one (.p (.val (.bool r_.2)))] []:=by
 refine callOK (n:=49) (rs:=[.tmp 6,.tmp 7]) (nb:=0) (V:=[]) Tryz.func45 rfl (by kernel_rfl) rfl rfl rfl rfl (Nat.le_of_ble_eq_true rfl) (by decide) ?_
 unfold zm9 at H0
 refine lok_rt E0 (⟨49,mkS [(0,xS 4 zd9 x),(2,.x (.one (.fn 46 []))),(4,xP 104 0)],mkH [(104,.var [pI target.Candidate,pI target.Centre,pI target.Paper])]⟩) ?_
 refine lok_rt E0 (⟨49,mkS [(0,xS 4 zd9 x),(2,.x (.one (.fn 46 []))),(4,xP 104 0),(8,xI (x.length:Int))],mkH [(104,.var [pI target.Candidate,pI target.Centre,pI target.Paper])]⟩) ?_
 refine lok_rt E0 (⟨49,mkS [(0,xS 4 zd9 x),(2,.x (.one (.fn 46 []))),(4,xP 104 0),(8,xI (x.length:Int)),(9,xI (0:Int)),(10,xI (x.length:Int))],mkH [(104,.var [pI target.Candidate,pI target.Centre,pI target.Paper])]⟩) ?_
 refine lok_join (fun x_:Int=>zq9 x target x_=some r_) (fun x_=>⟨49,mkS [(0,xS 4 zd9 x),(2,.x (.one (.fn 46 []))),(4,xP 104 0),(8,xI (x.length:Int)),(9,xI x_)],mkH [(104,.var [pI target.Candidate,pI target.Centre,pI target.Paper])]⟩) ?zN9 ?zO9
 case zN9=>
  rintro i H0
  try dsimp only at H0 ⊢
  unfold zq9 at H0
  replace H0:=req_some H0
  obtain⟨⟨q_0,q_1⟩,H0⟩:=H0
  refine lok_dt (Env.of E0 [⟨some 46,46,[.agg [pI (((ix x i).Entry).Candidate),pI (((ix x i).Entry).Centre),pI (((ix x i).Entry).Paper),.p (.val (.bool ((ix x i).Late)))],.agg [pI target.Candidate,pI target.Centre,pI target.Paper]],[],[oI ((zP1 (zf9.mk ((ix x i).Entry) ((ix x i).Late)) target).getD default)],[],(zP1 (zf9.mk ((ix x i).Entry) ((ix x i).Late)) target).isSome=true,fun h=>ok_entry_compare (zf9.mk ((ix x i).Entry) ((ix x i).Late)) target _ (zL1 h),[]⟩]) 15 (⟨49,mkS [(6,xI i),(7,xB ((decide (i<(x.length:Int)))&&(((zP1 (zf9.mk ((ix x i).Entry) ((ix x i).Late)) target).getD default)==(0:Int))))],mkH []⟩) (by kernel_rfl) (by kernel_rfl) ?_
  refine lok_ret ?_
  try obtain rfl:=Option.some.inj H0
  try simp only [thenL,blockL]
  exact fin_au _ (.inr rfl) [] (⟨49,mkS [(6,xI i),(7,xB ((decide (i<(x.length:Int)))&&(((zP1 (zf9.mk ((ix x i).Entry) ((ix x i).Late)) target).getD default)==(0:Int))))],mkH []⟩) rfl rfl imp_au
 case zO9=>
  refine zz9 ?_
  replace H0:=bind_some H0
  obtain⟨v_2,hv_2,H0⟩:=H0
  refine lok_iter (fun x_=>⟨49,mkS [(0,xS 4 zd9 x),(2,.x (.one (.fn 46 []))),(4,xP 104 0),(8,xI (x.length:Int)),(9,xI x_.1),(10,xI x_.2)],mkH [(104,.var [pI target.Candidate,pI target.Centre,pI target.Paper])]⟩) hv_2 imp_au ?_
  ·rintro⟨i1,j⟩ o_1 H1 k_1
   unfold zl9 at H1
   try dsimp only at H1 ⊢
   refine lok_seq ?_
   refine lok_rt E0 (⟨49,mkS [(0,xS 4 zd9 x),(2,.x (.one (.fn 46 []))),(4,xP 104 0),(8,xI (x.length:Int)),(9,xI i1),(10,xI j),(17,xB (decide (i1<j)))],mkH [(104,.var [pI target.Candidate,pI target.Centre,pI target.Paper])]⟩) ?_
   refine lok_c (decide (i1<j)) ?_ ?_
   ·intro b_7
    replace H1:=cpos H1 b_7
    refine lok_skip ?_
    try simp only [thenL,blockL,↓reduceIte,reduceCtorEq]
    refine zz9 ?_
    replace H1:=zp1 H1
    obtain⟨h,a_3,H1⟩:=H1
    refine lok_rtg E0 a_3 (⟨49,mkS [(0,xS 4 zd9 x),(2,.x (.one (.fn 46 []))),(4,xP 104 0),(8,xI (x.length:Int)),(9,xI i1),(10,xI j),(11,xI h)],mkH [(104,.var [pI target.Candidate,pI target.Centre,pI target.Paper])]⟩) ?_
    replace H1:=req_some H1
    obtain⟨q_6,H1⟩:=H1
    replace H1:=bind_some H1
    obtain⟨y,h_4,H1⟩:=H1
    refine lok_dt (Env.of E0 [⟨some 30,46,[.agg [pI (((ix x h).Entry).Candidate),pI (((ix x h).Entry).Centre),pI (((ix x h).Entry).Paper),.p (.val (.bool ((ix x h).Late)))],.agg [pI target.Candidate,pI target.Centre,pI target.Paper]],[],[oI y],[],True,fun _=>ok_entry_compare (zf9.mk ((ix x h).Entry) ((ix x h).Late)) target y h_4,[]⟩]) 6 (⟨49,mkS [(0,xS 4 zd9 x),(2,.x (.one (.fn 46 []))),(4,xP 104 0),(8,xI (x.length:Int)),(9,xI i1),(10,xI j),(11,xI h),(31,xB (decide (y<(0:Int))))],mkH [(104,.var [pI target.Candidate,pI target.Centre,pI target.Paper])]⟩) (by kernel_rfl) (by kernel_rfl) ?_
    refine lok_c (decide (y<(0:Int))) ?_ ?_
    ·intro b_5
     replace H1:=cpos H1 b_5
     refine lok_rl E0 (⟨49,mkS [(0,xS 4 zd9 x),(2,.x (.one (.fn 46 []))),(4,xP 104 0),(8,xI (x.length:Int)),(9,xI (IntKind.i64.wrap (h+(1:Int)))),(10,xI j)],mkH [(104,.var [pI target.Candidate,pI target.Centre,pI target.Paper])]⟩) ?_
     try simp only [thenL,blockL,↓reduceIte,reduceCtorEq]
     exact⟨((IntKind.i64.wrap (h+(1:Int))),j),(Option.some.inj H1).symm,imp_au⟩
    ·intro b_5
     replace H1:=cneg H1 b_5
     refine lok_rl E0 (⟨49,mkS [(0,xS 4 zd9 x),(2,.x (.one (.fn 46 []))),(4,xP 104 0),(8,xI (x.length:Int)),(9,xI i1),(10,xI h)],mkH [(104,.var [pI target.Candidate,pI target.Centre,pI target.Paper])]⟩) ?_
     try simp only [thenL,blockL,↓reduceIte,reduceCtorEq]
     exact⟨(i1,h),(Option.some.inj H1).symm,imp_au⟩
   ·intro b_7
    replace H1:=cneg H1 b_7
    refine lok_exit ?_
    try simp only [thenL,blockL,↓reduceIte,reduceCtorEq]
    have e_1:=k_1 _ (Option.some.inj H1).symm
    subst e_1
    try dsimp only at H0
    try simp only [thenL,blockL,↓reduceIte,reduceCtorEq]
    exact⟨i1,H0,imp_au⟩
theorem enr_enc (l:List zf9):List.map zd9 l=(l.map toEnr).map encEnr:=by rw [List.map_map]; rfl
theorem enr_enc' (l:List Enr):List.map zd9 (l.map ofEnr)=l.map encEnr:=by rw [List.map_map]; rfl
theorem ok_entry_step (l:List zf9) (d:zY9) (e:zg9) (r_:List zf9×Int) (H0:entry_step l d e=some r_):CallOK Tryz.prog 32 [.one (.p (.sl 4 (List.map zd9 l))),.agg [.p (pi d.Close),.p (pi d.Late)],.agg [.p (pi e.Stamp.Time),.p (pi e.Stamp.Source),.p (pi e.Stamp.Seq),.p (pi e.Kind),.p (pi e.Entry.Candidate),.p (pi e.Entry.Centre),.p (pi e.Entry.Paper),.p (pi e.To)]] [] [.one (.p (.sl 4 (List.map zd9 r_.1))),.one (.p (pi r_.2))] []:=by
 unfold entry_step at H0
 obtain⟨vE,h1,H0⟩:=bind_some H0
 obtain⟨⟨pl,th⟩,h2,H0⟩:=bind_some H0
 obtain⟨⟨c1,c2,c3,c4⟩,H0⟩:=req_some H0
 obtain rfl:=Option.some.inj H0
 dsimp only at c2 c3 c4 ⊢
 rw [enr_enc',enr_enc]
 refine ok_stepE (l.map toEnr) d.Close d.Late (evE e) rfl vE th pl.toNat (by rw [List.length_map]; exact c1) (by rw [List.length_map]; omega) (fun h=>by rw [List.length_map]; have:=c4 h; omega) (ok_entry_validEvent e vE h1) ?_
 have:=zP9 l e.Entry (pl,th) h2
 rw [enr_enc] at this
 rw [Int.toNat_of_nonneg c2]
 exact this
set_option maxHeartbeats 4000000 in
theorem ok_entry_Fold (l:List zg9) (d:zY9) (until_:Int) (r_:(List zf9)×(List zu9)×Int) (H0:entry_Fold l d until_=some r_):CallOK Tryz.prog 10 [.one (.p (.sl 8 (List.map zc9 l))),.agg [.p (pi d.Close),.p (pi d.Late)],.one (.p (pi until_))] [] [.one (.p (.sl 4 (List.map zd9 r_.1))),.one (.p (.sl 3 (List.map zn9 r_.2.1))),.one (.p (pi r_.2.2))] []:=by
 refine callOK (n:=64) (rs:=[.tmp 6,.tmp 7,.tmp 8]) (nb:=0) (V:=[]) Tryz.func10 rfl (by kernel_rfl) rfl rfl rfl rfl (Nat.le_of_ble_eq_true rfl) (by decide) ?_
 unfold entry_Fold at H0
 refine lok_rt E0 (⟨64,mkS [(0,xS 8 zc9 l),(2,xI until_),(4,xP 104 0)],mkH [(104,.var [pI d.Close,pI d.Late])]⟩) ?_
 refine lok_seq ?_
 replace H0:=bind_some H0
 obtain⟨y,h_0,H0⟩:=H0
 refine lok_rt (Env.of E0 [⟨some 18,30,[.agg [pI d.Close,pI d.Late]],[],[oB y],[],True,fun _=>ok_entry_validDeadlines d y h_0,[]⟩]) (⟨64,mkS [(0,xS 8 zc9 l),(2,xI until_),(4,xP 104 0),(19,xB (!y))],mkH [(104,.var [pI d.Close,pI d.Late])]⟩) ?_
 refine lok_c (!y) ?_ ?_
 ·intro b_11
  replace H0:=cpos H0 b_11
  refine lok_rt E0 (⟨64,mkS [(6,xV 106),(7,xV 107),(8,xI (1:Int))],mkH [(106,bA 4 zd9 ([]:List zf9)),(107,bA 3 zn9 ([]:List zu9))]⟩) ?_
  refine lok_ret ?_
  try obtain rfl:=Option.some.inj H0
  try simp only [thenL,blockL]
  exact fin_au _ (.inr rfl) [] (⟨64,mkS [(6,xS 4 zd9 ([]:List zf9)),(7,xS 3 zn9 ([]:List zu9)),(8,xI (1:Int))],mkH []⟩) rfl rfl (Imp.trans (imp_frz 106 4 (List.map zd9 ([]:List zf9))) (Imp.trans (imp_frz 107 3 (List.map zn9 ([]:List zu9))) imp_au))
 ·intro b_11
  replace H0:=cneg H0 b_11
  refine lok_skip ?_
  try simp only [thenL,blockL,↓reduceIte,reduceCtorEq]
  replace H0:=bind_some H0
  obtain⟨⟨y1,y2⟩,h_1,H0⟩:=H0
  try dsimp only at H0
  refine lok_rt (Env.of E0 [⟨some 22,31,[oS 8 zc9 l],[],[oS 8 zc9 y1,oI y2],[],True,fun _=>ok_entry_Canonical l (y1,y2) h_1,[]⟩]) (⟨64,mkS [(2,xI until_),(4,xP 104 0),(9,xS 8 zc9 y1),(10,xI y2)],mkH [(104,.var [pI d.Close,pI d.Late])]⟩) ?_
  refine lok_seq ?_
  refine lok_rt E0 (⟨64,mkS [(2,xI until_),(4,xP 104 0),(9,xS 8 zc9 y1),(10,xI y2),(26,xB (y2 != (0:Int)))],mkH [(104,.var [pI d.Close,pI d.Late])]⟩) ?_
  refine lok_c (y2 != (0:Int)) ?_ ?_
  ·intro b_10
   replace H0:=cpos H0 b_10
   refine lok_rt E0 (⟨64,mkS [(6,xV 106),(7,xV 107),(8,xI y2)],mkH [(106,bA 4 zd9 ([]:List zf9)),(107,bA 3 zn9 ([]:List zu9))]⟩) ?_
   refine lok_ret ?_
   try obtain rfl:=Option.some.inj H0
   try simp only [thenL,blockL]
   exact fin_au _ (.inr rfl) [] (⟨64,mkS [(6,xS 4 zd9 ([]:List zf9)),(7,xS 3 zn9 ([]:List zu9)),(8,xI y2)],mkH []⟩) rfl rfl (Imp.trans (imp_frz 106 4 (List.map zd9 ([]:List zf9))) (Imp.trans (imp_frz 107 3 (List.map zn9 ([]:List zu9))) imp_au))
  ·intro b_10
   replace H0:=cneg H0 b_10
   refine lok_skip ?_
   try simp only [thenL,blockL,↓reduceIte,reduceCtorEq]
   refine lok_rt E0 (⟨64,mkS [(2,xI until_),(4,xP 104 0),(9,xS 8 zc9 y1),(11,xV 111)],mkH [(104,.var [pI d.Close,pI d.Late]),(111,bA 4 zd9 ([]:List zf9))]⟩) ?_
   refine lok_rt E0 (⟨64,mkS [(2,xI until_),(4,xP 104 0),(9,xS 8 zc9 y1),(11,xV 111),(12,xV 112)],mkH [(104,.var [pI d.Close,pI d.Late]),(111,bA 4 zd9 ([]:List zf9)),(112,bA 3 zn9 ([]:List zu9))]⟩) ?_
   refine lok_join (fun x_:(List zf9)×(List zu9)=>entry_Fold_j1 x_.1 x_.2=some r_) (fun x_=>⟨64,mkS [(11,xS 4 zd9 x_.1),(12,xV 112)],mkH [(112,bA 3 zn9 x_.2)]⟩) ?hyentry_Fold_j1 ?hxentry_Fold_j1
   case hyentry_Fold_j1=>
    rintro⟨enrolments,refused⟩ H0
    try dsimp only at H0 ⊢
    unfold entry_Fold_j1 at H0
    refine lok_rt E0 (⟨64,mkS [(6,xS 4 zd9 enrolments),(7,xV 112),(8,xI (0:Int))],mkH [(112,bA 3 zn9 refused)]⟩) ?_
    refine lok_ret ?_
    try obtain rfl:=Option.some.inj H0
    try simp only [thenL,blockL]
    exact fin_au _ (.inr rfl) [] (⟨64,mkS [(6,xS 4 zd9 enrolments),(7,xS 3 zn9 refused),(8,xI (0:Int))],mkH []⟩) rfl rfl (Imp.trans (imp_frz 112 3 (List.map zn9 refused)) imp_au)
   case hxentry_Fold_j1=>
    refine lok_rt E0 (⟨64,mkS [(2,xI until_),(4,xP 104 0),(11,xV 111),(12,xV 112),(28,xS 8 zc9 y1),(29,xI (y1.length:Int)),(30,xI (0:Int))],mkH [(104,.var [pI d.Close,pI d.Late]),(111,bA 4 zd9 ([]:List zf9)),(112,bA 3 zn9 ([]:List zu9))]⟩) ?_
    refine zz9 ?_
    replace H0:=bind_some H0
    obtain⟨v_2,hv_2,H0⟩:=H0
    refine lok_iter (fun x_=>⟨64,mkS [(2,xI until_),(4,xP 104 0),(11,xS 4 zd9 x_.1),(12,xV 112),(28,xS 8 zc9 y1),(29,xI (y1.length:Int)),(30,xI x_.2.1)],mkH [(104,.var [pI d.Close,pI d.Late]),(112,bA 3 zn9 x_.2.2)]⟩) hv_2 (Imp.trans (imp_frz 111 4 (List.map zd9 ([]:List zf9))) imp_au) ?_
    ·rintro⟨enrolments1,v,refused1⟩ o_1 H1 k_1
     unfold entry_Fold_l3 at H1
     try dsimp only at H1 ⊢
     refine lok_rt E0 (⟨64,mkS [(2,xI until_),(4,xP 104 0),(11,xS 4 zd9 enrolments1),(12,xV 112),(28,xS 8 zc9 y1),(29,xI (y1.length:Int)),(30,xI v),(31,xB (decide (v<(y1.length:Int))))],mkH [(104,.var [pI d.Close,pI d.Late]),(112,bA 3 zn9 refused1)]⟩) ?_
     refine lok_seq ?_
     refine lok_c (decide (v<(y1.length:Int))) ?_ ?_
     ·intro b_9
      replace H1:=cpos H1 b_9
      refine lok_skip ?_
      try simp only [thenL,blockL,↓reduceIte,reduceCtorEq]
      refine lok_join (fun x_:(List zf9)×(List zu9)=>entry_Fold_j2 v x_.1 x_.2=some o_1) (fun x_=>⟨64,mkS [(2,xI until_),(4,xP 104 0),(11,xS 4 zd9 x_.1),(12,xV 112),(28,xS 8 zc9 y1),(29,xI (y1.length:Int)),(30,xI v)],mkH [(104,.var [pI d.Close,pI d.Late]),(112,bA 3 zn9 x_.2)]⟩) ?hyentry_Fold_j2 ?hxentry_Fold_j2
      case hyentry_Fold_j2=>
       rintro⟨enrolments3,refused3⟩ H1
       try dsimp only at H1 ⊢
       unfold entry_Fold_j2 at H1
       refine lok_rl E0 (⟨64,mkS [(2,xI until_),(4,xP 104 0),(11,xS 4 zd9 enrolments3),(12,xV 112),(28,xS 8 zc9 y1),(29,xI (y1.length:Int)),(30,xI (IntKind.i64.wrap (v+(1:Int))))],mkH [(104,.var [pI d.Close,pI d.Late]),(112,bA 3 zn9 refused3)]⟩) ?_
       try simp only [thenL,blockL,↓reduceIte,reduceCtorEq]
       exact⟨(enrolments3,(IntKind.i64.wrap (v+(1:Int))),refused3),(Option.some.inj H1).symm,imp_au⟩
      case hxentry_Fold_j2=>
       refine zz9 ?_
       replace H1:=req_some H1
       obtain⟨q_8,H1⟩:=H1
       refine lok_rt E0 (⟨64,mkS [(2,xI until_),(4,xP 104 0),(11,xS 4 zd9 enrolments1),(12,xV 112),(14,xP 114 0),(28,xS 8 zc9 y1),(29,xI (y1.length:Int)),(30,xI v)],mkH [(104,.var [pI d.Close,pI d.Late]),(112,bA 3 zn9 refused1),(114,.var [pI (((ix y1 v).Stamp).Time),pI (((ix y1 v).Stamp).Source),pI (((ix y1 v).Stamp).Seq),pI ((ix y1 v).Kind),pI (((ix y1 v).Entry).Candidate),pI (((ix y1 v).Entry).Centre),pI (((ix y1 v).Entry).Paper),pI ((ix y1 v).To)])]⟩) ?_
       refine lok_seq ?_
       refine lok_rt E0 (⟨64,mkS [(2,xI until_),(4,xP 104 0),(11,xS 4 zd9 enrolments1),(12,xV 112),(14,xP 114 0),(28,xS 8 zc9 y1),(29,xI (y1.length:Int)),(30,xI v),(38,xB (decide (until_<((ix y1 v).Stamp).Time)))],mkH [(104,.var [pI d.Close,pI d.Late]),(112,bA 3 zn9 refused1),(114,.var [pI (((ix y1 v).Stamp).Time),pI (((ix y1 v).Stamp).Source),pI (((ix y1 v).Stamp).Seq),pI ((ix y1 v).Kind),pI (((ix y1 v).Entry).Candidate),pI (((ix y1 v).Entry).Centre),pI (((ix y1 v).Entry).Paper),pI ((ix y1 v).To)])]⟩) ?_
       refine lok_c (decide (until_<((ix y1 v).Stamp).Time)) ?_ ?_
       ·intro b_7
        replace H1:=cpos H1 b_7
        refine lok_exit ?_
        try simp only [thenL,blockL,↓reduceIte,reduceCtorEq]
        have e_1:=k_1 _ (Option.some.inj H1).symm
        subst e_1
        try dsimp only at H0
        try simp only [thenL,blockL,↓reduceIte,reduceCtorEq]
        exact⟨(enrolments1,refused1),H0,imp_au⟩
       ·intro b_7
        replace H1:=cneg H1 b_7
        refine lok_skip ?_
        try simp only [thenL,blockL,↓reduceIte,reduceCtorEq]
        replace H1:=bind_some H1
        obtain⟨⟨y3,y4⟩,h_3,H1⟩:=H1
        try dsimp only at H1
        refine lok_rt (Env.of E0 [⟨some 43,32,[oS 4 zd9 enrolments1,.agg [pI d.Close,pI d.Late],.agg [pI (((ix y1 v).Stamp).Time),pI (((ix y1 v).Stamp).Source),pI (((ix y1 v).Stamp).Seq),pI ((ix y1 v).Kind),pI (((ix y1 v).Entry).Candidate),pI (((ix y1 v).Entry).Centre),pI (((ix y1 v).Entry).Paper),pI ((ix y1 v).To)]],[],[oS 4 zd9 y3,oI y4],[],True,fun _=>ok_entry_step enrolments1 d (zg9.mk ((ix y1 v).Stamp) ((ix y1 v).Kind) ((ix y1 v).Entry) ((ix y1 v).To)) (y3,y4) h_3,[]⟩]) (⟨64,mkS [(2,xI until_),(4,xP 104 0),(11,xS 4 zd9 enrolments1),(12,xV 112),(14,xP 114 0),(15,xS 4 zd9 y3),(16,xI y4),(28,xS 8 zc9 y1),(29,xI (y1.length:Int)),(30,xI v)],mkH [(104,.var [pI d.Close,pI d.Late]),(112,bA 3 zn9 refused1),(114,.var [pI (((ix y1 v).Stamp).Time),pI (((ix y1 v).Stamp).Source),pI (((ix y1 v).Stamp).Seq),pI ((ix y1 v).Kind),pI (((ix y1 v).Entry).Candidate),pI (((ix y1 v).Entry).Centre),pI (((ix y1 v).Entry).Paper),pI ((ix y1 v).To)])]⟩) ?_
        refine lok_seq ?_
        refine lok_rt E0 (⟨64,mkS [(2,xI until_),(4,xP 104 0),(11,xS 4 zd9 enrolments1),(12,xV 112),(14,xP 114 0),(15,xS 4 zd9 y3),(16,xI y4),(28,xS 8 zc9 y1),(29,xI (y1.length:Int)),(30,xI v),(47,xB (y4 != (0:Int)))],mkH [(104,.var [pI d.Close,pI d.Late]),(112,bA 3 zn9 refused1),(114,.var [pI (((ix y1 v).Stamp).Time),pI (((ix y1 v).Stamp).Source),pI (((ix y1 v).Stamp).Seq),pI ((ix y1 v).Kind),pI (((ix y1 v).Entry).Candidate),pI (((ix y1 v).Entry).Centre),pI (((ix y1 v).Entry).Paper),pI ((ix y1 v).To)])]⟩) ?_
        refine lok_c (y4 != (0:Int)) ?_ ?_
        ·intro b_6
         replace H1:=cpos H1 b_6
         replace H1:=req_some H1
         obtain⟨q_5,H1⟩:=H1
         replace H1:=zp1 H1
         obtain⟨refused4,a_4,H1⟩:=H1
         refine lok_rtg E0 a_4 (⟨64,mkS [(2,xI until_),(4,xP 104 0),(11,xS 4 zd9 enrolments1),(12,xV 112),(28,xS 8 zc9 y1),(29,xI (y1.length:Int)),(30,xI v)],mkH [(104,.var [pI d.Close,pI d.Late]),(112,bA 3 zn9 refused4)]⟩) ?_
         refine lok_exit ?_
         try simp only [thenL,blockL,↓reduceIte,reduceCtorEq]
         exact⟨(enrolments1,refused4),H1,imp_au⟩
        ·intro b_6
         replace H1:=cneg H1 b_6
         refine lok_skip ?_
         try simp only [thenL,blockL,↓reduceIte,reduceCtorEq]
         refine lok_rl E0 (⟨64,mkS [(2,xI until_),(4,xP 104 0),(11,xS 4 zd9 y3),(12,xV 112),(28,xS 8 zc9 y1),(29,xI (y1.length:Int)),(30,xI v)],mkH [(104,.var [pI d.Close,pI d.Late]),(112,bA 3 zn9 refused1)]⟩) ?_
         try simp only [thenL,blockL,↓reduceIte,reduceCtorEq]
         exact⟨(y3,refused1),H1,imp_au⟩
     ·intro b_9
      replace H1:=cneg H1 b_9
      refine lok_exit ?_
      try simp only [thenL,blockL,↓reduceIte,reduceCtorEq]
      have e_1:=k_1 _ (Option.some.inj H1).symm
      subst e_1
      try dsimp only at H0
      try simp only [thenL,blockL,↓reduceIte,reduceCtorEq]
      exact⟨(enrolments1,refused1),H0,imp_au⟩
set_option maxHeartbeats 4000000 in
theorem ok_attendance_Check (l:List zf9) (r_:Int) (H0:attendance_Check l=some r_):CallOK Tryz.prog 33 [.one (.p (.sl 4 (List.map zd9 l)))] [] [.one (.p (pi r_))] []:=by
 refine callOK (n:=58) (rs:=[.tmp 2]) (nb:=0) (V:=[]) Tryz.func33 rfl (by kernel_rfl) rfl rfl rfl rfl (Nat.le_of_ble_eq_true rfl) (by decide) ?_
 unfold attendance_Check at H0
 refine lok_rt E0 (⟨58,mkS [(0,xS 4 zd9 l)],mkH []⟩) ?_
 refine lok_seq ?_
 refine lok_rt E0 (⟨58,mkS [(0,xS 4 zd9 l),(8,xB (decide ((60:Int)<(l.length:Int))))],mkH []⟩) ?_
 refine lok_c (decide ((60:Int)<(l.length:Int))) ?_ ?_
 ·intro b_9
  replace H0:=cpos H0 b_9
  refine lok_rt E0 (⟨58,mkS [(2,xI (3:Int))],mkH []⟩) ?_
  refine lok_ret ?_
  try obtain rfl:=Option.some.inj H0
  try simp only [thenL,blockL]
  exact fin_au _ (.inr rfl) [] (⟨58,mkS [(2,xI (3:Int))],mkH []⟩) rfl rfl imp_au
 ·intro b_9
  replace H0:=cneg H0 b_9
  refine lok_skip ?_
  try simp only [thenL,blockL,↓reduceIte,reduceCtorEq]
  refine lok_join (fun x_:Unit=>attendance_Check_j3 l=some r_) (fun x_=>⟨58,mkS [(0,xS 4 zd9 l)],mkH []⟩) ?hyattendance_Check_j3 ?hxattendance_Check_j3
  case hyattendance_Check_j3=>
   rintro _ H0
   try dsimp only at H0 ⊢
   unfold attendance_Check_j3 at H0
   refine lok_join (fun x_:Unit=>attendance_Check_j1=some r_) (fun x_=>⟨58,mkS [],mkH []⟩) ?hyattendance_Check_j1 ?hxattendance_Check_j1
   case hyattendance_Check_j1=>
    rintro _ H0
    try dsimp only at H0 ⊢
    unfold attendance_Check_j1 at H0
    refine lok_rt E0 (⟨58,mkS [(2,xI (0:Int))],mkH []⟩) ?_
    refine lok_ret ?_
    try obtain rfl:=Option.some.inj H0
    try simp only [thenL,blockL]
    exact fin_au _ (.inr rfl) [] (⟨58,mkS [(2,xI (0:Int))],mkH []⟩) rfl rfl imp_au
   case hxattendance_Check_j1=>
    refine lok_rt E0 (⟨58,mkS [(0,xS 4 zd9 l),(5,xI (1:Int))],mkH []⟩) ?_
    refine zz9 ?_
    replace H0:=bind_some H0
    obtain⟨v_0,hv_0,H0⟩:=H0
    refine lok_iter (fun x_=>⟨58,mkS [(0,xS 4 zd9 l),(5,xI x_)],mkH []⟩) hv_0 imp_au ?_
    ·rintro i o_1 H1 k_1
     unfold attendance_Check_l2 at H1
     try dsimp only at H1 ⊢
     refine lok_seq ?_
     refine lok_rt E0 (⟨58,mkS [(0,xS 4 zd9 l),(5,xI i),(41,xB (decide (i<(l.length:Int))))],mkH []⟩) ?_
     refine lok_c (decide (i<(l.length:Int))) ?_ ?_
     ·intro b_4
      replace H1:=cpos H1 b_4
      refine lok_skip ?_
      try simp only [thenL,blockL,↓reduceIte,reduceCtorEq]
      refine lok_seq ?_
      refine zz9 ?_
      replace H1:=req_some H1
      obtain⟨⟨q_2,q_3⟩,H1⟩:=H1
      refine lok_dt E0 13 (⟨58,mkS [(0,xS 4 zd9 l),(5,xI i),(57,xB (decide (((ix l i).Entry).Candidate≤((ix l (IntKind.i64.wrap (i - (1:Int)))).Entry).Candidate)))],mkH []⟩) (by kernel_rfl) (by kernel_rfl) ?_
      refine lok_c (decide (((ix l i).Entry).Candidate≤((ix l (IntKind.i64.wrap (i - (1:Int)))).Entry).Candidate)) ?_ ?_
      ·intro b_1
       replace H1:=cpos H1 b_1
       refine lok_rt E0 (⟨58,mkS [(2,xI (5:Int))],mkH []⟩) ?_
       refine lok_ret ?_
       try simp only [thenL,blockL,↓reduceIte,reduceCtorEq]
       have e_1:=k_1 _ (Option.some.inj H1).symm
       subst e_1
       try dsimp only at H0
       try obtain rfl:=Option.some.inj H0
       try simp only [thenL,blockL]
       exact fin_au _ (.inr rfl) [] (⟨58,mkS [(2,xI (5:Int))],mkH []⟩) rfl rfl imp_au
      ·intro b_1
       replace H1:=cneg H1 b_1
       refine lok_skip ?_
       try simp only [thenL,blockL,↓reduceIte,reduceCtorEq]
       refine lok_rl E0 (⟨58,mkS [(0,xS 4 zd9 l),(5,xI (IntKind.i64.wrap (i+(1:Int))))],mkH []⟩) ?_
       try simp only [thenL,blockL,↓reduceIte,reduceCtorEq]
       exact⟨(IntKind.i64.wrap (i+(1:Int))),(Option.some.inj H1).symm,imp_au⟩
     ·intro b_4
      replace H1:=cneg H1 b_4
      refine lok_exit ?_
      try simp only [thenL,blockL,↓reduceIte,reduceCtorEq]
      have e_1:=k_1 _ (Option.some.inj H1).symm
      subst e_1
      try dsimp only at H0
      try simp only [thenL,blockL,↓reduceIte,reduceCtorEq]
      exact⟨(),H0,imp_au⟩
  case hxattendance_Check_j3=>
   refine lok_rt E0 (⟨58,mkS [(0,xS 4 zd9 l),(9,xS 4 zd9 l),(10,xI (l.length:Int)),(11,xI (0:Int))],mkH []⟩) ?_
   refine zz9 ?_
   replace H0:=bind_some H0
   obtain⟨v_5,hv_5,H0⟩:=H0
   refine lok_iter (fun x_=>⟨58,mkS [(0,xS 4 zd9 l),(9,xS 4 zd9 l),(10,xI (l.length:Int)),(11,xI x_)],mkH []⟩) hv_5 imp_au ?_
   ·rintro v o_1 H1 k_1
    unfold attendance_Check_l4 at H1
    try dsimp only at H1 ⊢
    refine lok_rt E0 (⟨58,mkS [(0,xS 4 zd9 l),(9,xS 4 zd9 l),(10,xI (l.length:Int)),(11,xI v),(12,xB (decide (v<(l.length:Int))))],mkH []⟩) ?_
    refine lok_seq ?_
    refine lok_c (decide (v<(l.length:Int))) ?_ ?_
    ·intro b_8
     replace H1:=cpos H1 b_8
     refine lok_skip ?_
     try simp only [thenL,blockL,↓reduceIte,reduceCtorEq]
     refine lok_seq ?_
     refine zz9 ?_
     replace H1:=req_some H1
     obtain⟨q_7,H1⟩:=H1
     refine lok_rt E0 (⟨58,mkS [(0,xS 4 zd9 l),(4,xP 104 0),(9,xS 4 zd9 l),(10,xI (l.length:Int)),(11,xI v)],mkH [(104,.var [pI (((ix l v).Entry).Candidate),pI (((ix l v).Entry).Centre),pI (((ix l v).Entry).Paper),.p (.val (.bool ((ix l v).Late)))])]⟩) ?_
     refine lok_rt E0 (⟨58,mkS [(0,xS 4 zd9 l),(9,xS 4 zd9 l),(10,xI (l.length:Int)),(11,xI v),(36,xB ((((decide (((ix l v).Entry).Candidate<(0:Int)))||(decide ((9999:Int)<((ix l v).Entry).Candidate)))||(decide (((ix l v).Entry).Centre<(1:Int))))||(decide ((99:Int)<((ix l v).Entry).Centre))))],mkH []⟩) ?_
     refine lok_c ((((decide (((ix l v).Entry).Candidate<(0:Int)))||(decide ((9999:Int)<((ix l v).Entry).Candidate)))||(decide (((ix l v).Entry).Centre<(1:Int))))||(decide ((99:Int)<((ix l v).Entry).Centre))) ?_ ?_
     ·intro b_6
      replace H1:=cpos H1 b_6
      refine lok_rt E0 (⟨58,mkS [(2,xI (2:Int))],mkH []⟩) ?_
      refine lok_ret ?_
      try simp only [thenL,blockL,↓reduceIte,reduceCtorEq]
      have e_1:=k_1 _ (Option.some.inj H1).symm
      subst e_1
      try dsimp only at H0
      try obtain rfl:=Option.some.inj H0
      try simp only [thenL,blockL]
      exact fin_au _ (.inr rfl) [] (⟨58,mkS [(2,xI (2:Int))],mkH []⟩) rfl rfl imp_au
     ·intro b_6
      replace H1:=cneg H1 b_6
      refine lok_skip ?_
      try simp only [thenL,blockL,↓reduceIte,reduceCtorEq]
      refine lok_rl E0 (⟨58,mkS [(0,xS 4 zd9 l),(9,xS 4 zd9 l),(10,xI (l.length:Int)),(11,xI (IntKind.i64.wrap (v+(1:Int))))],mkH []⟩) ?_
      try simp only [thenL,blockL,↓reduceIte,reduceCtorEq]
      exact⟨(IntKind.i64.wrap (v+(1:Int))),(Option.some.inj H1).symm,imp_au⟩
    ·intro b_8
     replace H1:=cneg H1 b_8
     refine lok_exit ?_
     try simp only [thenL,blockL,↓reduceIte,reduceCtorEq]
     have e_1:=k_1 _ (Option.some.inj H1).symm
     subst e_1
     try dsimp only at H0
     try simp only [thenL,blockL,↓reduceIte,reduceCtorEq]
     exact⟨(),H0,imp_au⟩
theorem ok_attendance_Canonical_f1 (e:ze9) (r_:zB9) (H0:attendance_Canonical_f1 e=some r_):CallOK Tryz.prog 51 [.agg [.p (pi e.Stamp.Time),.p (pi e.Stamp.Source),.p (pi e.Stamp.Seq),.p (pi e.Kind),.p (pi e.Candidate),.p (pi e.Minutes)]] [] [.agg [.p (pi r_.Time),.p (pi r_.Source),.p (pi r_.Seq)]] []:=by
 refine callOK (n:=5) (rs:=[.cell 2 36]) (nb:=0) (V:=[]) Tryz.func51 rfl (by kernel_rfl) rfl rfl rfl rfl (Nat.le_of_ble_eq_true rfl) (by decide) ?_
 unfold attendance_Canonical_f1 at H0
 refine lok_rt E0 (⟨5,mkS [(1,xP 101 0),(2,xP 102 0)],mkH [(101,.var [pI e.Stamp.Time,pI e.Stamp.Source,pI e.Stamp.Seq,pI e.Kind,pI e.Candidate,pI e.Minutes]),(102,.var [pI (0:Int),pI (0:Int),pI (0:Int)])]⟩) ?_
 refine lok_rt E0 (⟨5,mkS [(2,xP 102 0)],mkH [(102,.var [pI e.Stamp.Time,pI e.Stamp.Source,pI e.Stamp.Seq])]⟩) ?_
 refine lok_ret ?_
 try obtain rfl:=Option.some.inj H0
 try simp only [thenL,blockL]
 exact fin_au _ (.inr rfl) [] (⟨5,mkS [(2,xP 102 0)],mkH [(102,.var [pI e.Stamp.Time,pI e.Stamp.Source,pI e.Stamp.Seq])]⟩) rfl rfl imp_au
theorem ok_attendance_Same (a:ze9) (b:ze9) (r_:Bool) (H0:attendance_Same a b=some r_):CallOK Tryz.prog 52 [.agg [.p (pi a.Stamp.Time),.p (pi a.Stamp.Source),.p (pi a.Stamp.Seq),.p (pi a.Kind),.p (pi a.Candidate),.p (pi a.Minutes)],.agg [.p (pi b.Stamp.Time),.p (pi b.Stamp.Source),.p (pi b.Stamp.Seq),.p (pi b.Kind),.p (pi b.Candidate),.p (pi b.Minutes)]] [] [.one (.p (.val (.bool r_)))] []:=by
 refine callOK (n:=8) (rs:=[.tmp 4]) (nb:=0) (V:=[]) Tryz.func52 rfl (by kernel_rfl) rfl rfl rfl rfl (Nat.le_of_ble_eq_true rfl) (by decide) ?_
 unfold attendance_Same at H0
 refine lok_rt E0 (⟨8,mkS [(2,xP 102 0),(3,xP 103 0)],mkH [(102,.var [pI a.Stamp.Time,pI a.Stamp.Source,pI a.Stamp.Seq,pI a.Kind,pI a.Candidate,pI a.Minutes]),(103,.var [pI b.Stamp.Time,pI b.Stamp.Source,pI b.Stamp.Seq,pI b.Kind,pI b.Candidate,pI b.Minutes])]⟩) ?_
 refine lok_rt E0 (⟨8,mkS [(4,xB ((a.Stamp.Time==b.Stamp.Time)&&((a.Stamp.Source==b.Stamp.Source)&&((a.Stamp.Seq==b.Stamp.Seq)&&((a.Kind==b.Kind)&&((a.Candidate==b.Candidate)&&(a.Minutes==b.Minutes)))))))],mkH []⟩) ?_
 refine lok_ret ?_
 try obtain rfl:=Option.some.inj H0
 try simp only [thenL,blockL]
 exact fin_au _ (.inr rfl) [] (⟨8,mkS [(4,xB ((a.Stamp.Time==b.Stamp.Time)&&((a.Stamp.Source==b.Stamp.Source)&&((a.Stamp.Seq==b.Stamp.Seq)&&((a.Kind==b.Kind)&&((a.Candidate==b.Candidate)&&(a.Minutes==b.Minutes)))))))],mkH []⟩) rfl rfl imp_au
theorem same_R (a b:ze9):attendance_Same a b=some (decide (a=b)):=by
 obtain⟨⟨a1,a2,a3⟩,a4,a5,a6⟩:=a
 obtain⟨⟨b1,b2,b3⟩,b4,b5,b6⟩:=b
 unfold attendance_Same
 congr 1
 rw [Bool.eq_iff_iff]
 simp only [Bool.and_eq_true,beq_iff_eq,decide_eq_true_eq,ze9.mk.injEq,zB9.mk.injEq]
 constructor
 ·rintro⟨h1,h2,h3,h4,h5,h6⟩; exact⟨⟨h1,h2,h3⟩,h4,h5,h6⟩
 ·rintro⟨⟨h1,h2,h3⟩,h4,h5,h6⟩; exact⟨h1,h2,h3,h4,h5,h6⟩
theorem za1 (l:List ze9) (r_:List Int×Int) (H0:zv9 l=some r_):CallOK Tryz.prog 50 [.one (.p (.sl 6 (List.map zb9 l))),.one (.fn 51 []),.one (.fn 52 [])] [] [.one (.p (.sl 1 (List.map encI r_.1))),.one (.p (pi r_.2))] []:=by
 obtain⟨⟨h1,h2⟩,H0⟩:=req_some H0
 obtain rfl:=Option.some.inj H0
 exact ok_CanonR evR (fun _=>rfl) l default h1 h2 (fun x y=>decide (x=y)) vldS
  (fun x _=>ok_attendance_Canonical_f1 x _ rfl) (fun x _ y _=>ok_attendance_Same x y _ (same_R x y)) (fun x _=>ok_stamp_Valid x.Stamp _ rfl)
theorem ok_attendance_Canonical (l:List ze9) (r_:(List ze9)×Int) (H0:attendance_Canonical l=some r_):CallOK Tryz.prog 34 [.one (.p (.sl 6 (List.map zb9 l)))] [] [.one (.p (.sl 6 (List.map zb9 r_.1))),.one (.p (pi r_.2))] []:=by
 refine callOK (n:=36) (rs:=[.tmp 2,.tmp 3]) (nb:=0) (V:=[]) Tryz.func34 rfl (by kernel_rfl) rfl rfl rfl rfl (Nat.le_of_ble_eq_true rfl) (by decide) ?_
 unfold attendance_Canonical at H0
 refine lok_rt E0 (⟨36,mkS [(0,xS 6 zb9 l)],mkH []⟩) ?_
 replace H0:=bind_some H0
 obtain⟨⟨y,y1⟩,h_0,H0⟩:=H0
 try dsimp only at H0
 refine lok_rt (Env.of E0 [⟨some 11,50,[oS 6 zb9 l,.one (.fn 51 []),.one (.fn 52 [])],[],[oL y,oI y1],[],True,fun _=>za1 l (y,y1) h_0,[]⟩]) (⟨36,mkS [(0,xS 6 zb9 l),(4,xL y),(5,xI y1)],mkH []⟩) ?_
 refine lok_seq ?_
 refine lok_rt E0 (⟨36,mkS [(0,xS 6 zb9 l),(4,xL y),(5,xI y1),(15,xB (y1 != (0:Int)))],mkH []⟩) ?_
 refine lok_c (y1 != (0:Int)) ?_ ?_
 ·intro b_8
  replace H0:=cpos H0 b_8
  refine lok_rt E0 (⟨36,mkS [(2,xV 102),(3,xI y1)],mkH [(102,bA 6 zb9 ([]:List ze9))]⟩) ?_
  refine lok_ret ?_
  try obtain rfl:=Option.some.inj H0
  try simp only [thenL,blockL]
  exact fin_au _ (.inr rfl) [] (⟨36,mkS [(2,xS 6 zb9 ([]:List ze9)),(3,xI y1)],mkH []⟩) rfl rfl (Imp.trans (imp_frz 102 6 (List.map zb9 ([]:List ze9))) imp_au)
 ·intro b_8
  replace H0:=cneg H0 b_8
  refine lok_skip ?_
  try simp only [thenL,blockL,↓reduceIte,reduceCtorEq]
  replace H0:=req_some H0
  obtain⟨q_7,H0⟩:=H0
  refine lok_rt E0 (⟨36,mkS [(0,xS 6 zb9 l),(4,xL y),(6,xV 119)],mkH [(119,bA 6 zb9 (rep (y.length:Int) (ze9.mk (zB9.mk (0:Int) (0:Int) (0:Int)) (0:Int) (0:Int) (0:Int))))]⟩) ?_
  refine lok_join (fun x_:(List ze9)=>attendance_Canonical_j1 x_=some r_) (fun x_=>⟨36,mkS [(6,xV 119)],mkH [(119,bA 6 zb9 x_)]⟩) ?hyattendance_Canonical_j1 ?hxattendance_Canonical_j1
  case hyattendance_Canonical_j1=>
   rintro w H0
   try dsimp only at H0 ⊢
   unfold attendance_Canonical_j1 at H0
   refine lok_rt E0 (⟨36,mkS [(2,xV 119),(3,xI (0:Int))],mkH [(119,bA 6 zb9 w)]⟩) ?_
   refine lok_ret ?_
   try obtain rfl:=Option.some.inj H0
   try simp only [thenL,blockL]
   exact fin_au _ (.inr rfl) [] (⟨36,mkS [(2,xS 6 zb9 w),(3,xI (0:Int))],mkH []⟩) rfl rfl (Imp.trans (imp_frz 119 6 (List.map zb9 w)) imp_au)
  case hxattendance_Canonical_j1=>
   refine lok_rt E0 (⟨36,mkS [(0,xS 6 zb9 l),(6,xV 119),(20,xL y),(21,xI (y.length:Int)),(22,xI (0:Int))],mkH [(119,bA 6 zb9 (rep (y.length:Int) (ze9.mk (zB9.mk (0:Int) (0:Int) (0:Int)) (0:Int) (0:Int) (0:Int))))]⟩) ?_
   refine zz9 ?_
   replace H0:=bind_some H0
   obtain⟨v_1,hv_1,H0⟩:=H0
   refine lok_iter (fun x_=>⟨36,mkS [(0,xS 6 zb9 l),(6,xV 119),(20,xL y),(21,xI (y.length:Int)),(22,xI x_.1)],mkH [(119,bA 6 zb9 x_.2)]⟩) hv_1 imp_au ?_
   ·rintro⟨v,w1⟩ o_1 H1 k_1
    unfold attendance_Canonical_l2 at H1
    try dsimp only at H1 ⊢
    refine lok_rt E0 (⟨36,mkS [(0,xS 6 zb9 l),(6,xV 119),(20,xL y),(21,xI (y.length:Int)),(22,xI v),(23,xB (decide (v<(y.length:Int))))],mkH [(119,bA 6 zb9 w1)]⟩) ?_
    refine lok_seq ?_
    refine lok_c (decide (v<(y.length:Int))) ?_ ?_
    ·intro b_6
     replace H1:=cpos H1 b_6
     refine lok_skip ?_
     try simp only [thenL,blockL,↓reduceIte,reduceCtorEq]
     refine lok_seq ?_
     refine zz9 ?_
     replace H1:=req_some H1
     obtain⟨q_5,H1⟩:=H1
     refine lok_rt E0 (⟨36,mkS [(0,xS 6 zb9 l),(6,xV 119),(7,xI v),(8,xI (ix y v)),(20,xL y),(21,xI (y.length:Int)),(22,xI v)],mkH [(119,bA 6 zb9 w1)]⟩) ?_
     replace H1:=req_some H1
     obtain⟨⟨q_3,q_4⟩,H1⟩:=H1
     replace H1:=zp1 H1
     obtain⟨w3,a_2,H1⟩:=H1
     refine lok_rlg E0 a_2 (⟨36,mkS [(0,xS 6 zb9 l),(6,xV 119),(20,xL y),(21,xI (y.length:Int)),(22,xI v)],mkH [(119,bA 6 zb9 w3)]⟩) ?_
     try simp only [thenL,blockL,↓reduceIte,reduceCtorEq]
     refine lok_rl E0 (⟨36,mkS [(0,xS 6 zb9 l),(6,xV 119),(20,xL y),(21,xI (y.length:Int)),(22,xI (IntKind.i64.wrap (v+(1:Int))))],mkH [(119,bA 6 zb9 w3)]⟩) ?_
     try simp only [thenL,blockL,↓reduceIte,reduceCtorEq]
     exact⟨((IntKind.i64.wrap (v+(1:Int))),w3),(Option.some.inj H1).symm,imp_au⟩
    ·intro b_6
     replace H1:=cneg H1 b_6
     refine lok_exit ?_
     try simp only [thenL,blockL,↓reduceIte,reduceCtorEq]
     have e_1:=k_1 _ (Option.some.inj H1).symm
     subst e_1
     try dsimp only at H0
     try simp only [thenL,blockL,↓reduceIte,reduceCtorEq]
     exact⟨w1,H0,imp_au⟩
theorem ok_attendance_step_f1 (x:zf9) (candidate:Int) (r_:Int) (H0:zb1 x candidate=some r_):CallOK Tryz.prog 54 [.agg [.p (pi x.Entry.Candidate),.p (pi x.Entry.Centre),.p (pi x.Entry.Paper),.p (.val (.bool x.Late))],.one (.p (pi candidate))] [] [.one (.p (pi r_))] []:=by
 refine callOK (n:=10) (rs:=[.tmp 4]) (nb:=0) (V:=[]) Tryz.func54 rfl (by kernel_rfl) rfl rfl rfl rfl (Nat.le_of_ble_eq_true rfl) (by decide) ?_
 unfold zb1 at H0
 refine lok_rt E0 (⟨10,mkS [(1,xI candidate),(2,xP 102 0)],mkH [(102,.var [pI x.Entry.Candidate,pI x.Entry.Centre,pI x.Entry.Paper,.p (.val (.bool x.Late))])]⟩) ?_
 replace H0:=bind_some H0
 obtain⟨y,h_0,H0⟩:=H0
 refine lok_rt (Env.of E0 [⟨some 9,55,[oI x.Entry.Candidate,oI candidate],[],[oI y],[],True,fun _=>ok_cmp_Compare_int x.Entry.Candidate candidate y h_0,[]⟩]) (⟨10,mkS [(4,xI y)],mkH []⟩) ?_
 refine lok_ret ?_
 try obtain rfl:=Option.some.inj H0
 try simp only [thenL,blockL]
 exact fin_au _ (.inr rfl) [] (⟨10,mkS [(4,xI y)],mkH []⟩) rfl rfl imp_au
theorem zV9 (x:List zf9) (target:Int) (r_:Int×Bool) (H0:zi9 x target=some r_):CallOK Tryz.prog 53 [.one (.p (.sl 4 (List.map zd9 x))),.one (.p (pi target)),.one (.fn 54 [])] [] [.one (.p (pi r_.1)),.one (.p (.val (.bool r_.2)))] []:=by
 refine callOK (n:=49) (rs:=[.tmp 6,.tmp 7]) (nb:=0) (V:=[]) Tryz.func53 rfl (by kernel_rfl) rfl rfl rfl rfl (Nat.le_of_ble_eq_true rfl) (by decide) ?_
 unfold zi9 at H0
 refine lok_rt E0 (⟨49,mkS [(0,xS 4 zd9 x),(1,xI target),(2,.x (.one (.fn 54 [])))],mkH []⟩) ?_
 refine lok_rt E0 (⟨49,mkS [(0,xS 4 zd9 x),(1,xI target),(2,.x (.one (.fn 54 []))),(8,xI (x.length:Int))],mkH []⟩) ?_
 refine lok_rt E0 (⟨49,mkS [(0,xS 4 zd9 x),(1,xI target),(2,.x (.one (.fn 54 []))),(8,xI (x.length:Int)),(9,xI (0:Int)),(10,xI (x.length:Int))],mkH []⟩) ?_
 refine lok_join (fun x_:Int=>zs9 x target x_=some r_) (fun x_=>⟨49,mkS [(0,xS 4 zd9 x),(1,xI target),(2,.x (.one (.fn 54 []))),(8,xI (x.length:Int)),(9,xI x_)],mkH []⟩) ?zT9 ?zU9
 case zT9=>
  rintro i H0
  try dsimp only at H0 ⊢
  unfold zs9 at H0
  replace H0:=req_some H0
  obtain⟨⟨q_0,q_1⟩,H0⟩:=H0
  refine lok_rt (Env.of E0 [⟨some 46,54,[.agg [pI (((ix x i).Entry).Candidate),pI (((ix x i).Entry).Centre),pI (((ix x i).Entry).Paper),.p (.val (.bool ((ix x i).Late)))],oI target],[],[oI ((zb1 (zf9.mk ((ix x i).Entry) ((ix x i).Late)) target).getD default)],[],(zb1 (zf9.mk ((ix x i).Entry) ((ix x i).Late)) target).isSome=true,fun h=>ok_attendance_step_f1 (zf9.mk ((ix x i).Entry) ((ix x i).Late)) target _ (zL1 h),[]⟩]) (⟨49,mkS [(6,xI i),(7,xB ((decide (i<(x.length:Int)))&&(((zb1 (zf9.mk ((ix x i).Entry) ((ix x i).Late)) target).getD default)==(0:Int))))],mkH []⟩) ?_
  refine lok_ret ?_
  try obtain rfl:=Option.some.inj H0
  try simp only [thenL,blockL]
  exact fin_au _ (.inr rfl) [] (⟨49,mkS [(6,xI i),(7,xB ((decide (i<(x.length:Int)))&&(((zb1 (zf9.mk ((ix x i).Entry) ((ix x i).Late)) target).getD default)==(0:Int))))],mkH []⟩) rfl rfl imp_au
 case zU9=>
  refine zz9 ?_
  replace H0:=bind_some H0
  obtain⟨v_2,hv_2,H0⟩:=H0
  refine lok_iter (fun x_=>⟨49,mkS [(0,xS 4 zd9 x),(1,xI target),(2,.x (.one (.fn 54 []))),(8,xI (x.length:Int)),(9,xI x_.1),(10,xI x_.2)],mkH []⟩) hv_2 imp_au ?_
  ·rintro⟨i1,j⟩ o_1 H1 k_1
   unfold zp9 at H1
   try dsimp only at H1 ⊢
   refine lok_seq ?_
   refine lok_rt E0 (⟨49,mkS [(0,xS 4 zd9 x),(1,xI target),(2,.x (.one (.fn 54 []))),(8,xI (x.length:Int)),(9,xI i1),(10,xI j),(17,xB (decide (i1<j)))],mkH []⟩) ?_
   refine lok_c (decide (i1<j)) ?_ ?_
   ·intro b_7
    replace H1:=cpos H1 b_7
    refine lok_skip ?_
    try simp only [thenL,blockL,↓reduceIte,reduceCtorEq]
    refine zz9 ?_
    replace H1:=zp1 H1
    obtain⟨h,a_3,H1⟩:=H1
    refine lok_rtg E0 a_3 (⟨49,mkS [(0,xS 4 zd9 x),(1,xI target),(2,.x (.one (.fn 54 []))),(8,xI (x.length:Int)),(9,xI i1),(10,xI j),(11,xI h)],mkH []⟩) ?_
    replace H1:=req_some H1
    obtain⟨q_6,H1⟩:=H1
    replace H1:=bind_some H1
    obtain⟨y,h_4,H1⟩:=H1
    refine lok_rt (Env.of E0 [⟨some 30,54,[.agg [pI (((ix x h).Entry).Candidate),pI (((ix x h).Entry).Centre),pI (((ix x h).Entry).Paper),.p (.val (.bool ((ix x h).Late)))],oI target],[],[oI y],[],True,fun _=>ok_attendance_step_f1 (zf9.mk ((ix x h).Entry) ((ix x h).Late)) target y h_4,[]⟩]) (⟨49,mkS [(0,xS 4 zd9 x),(1,xI target),(2,.x (.one (.fn 54 []))),(8,xI (x.length:Int)),(9,xI i1),(10,xI j),(11,xI h),(31,xB (decide (y<(0:Int))))],mkH []⟩) ?_
    refine lok_c (decide (y<(0:Int))) ?_ ?_
    ·intro b_5
     replace H1:=cpos H1 b_5
     refine lok_rl E0 (⟨49,mkS [(0,xS 4 zd9 x),(1,xI target),(2,.x (.one (.fn 54 []))),(8,xI (x.length:Int)),(9,xI (IntKind.i64.wrap (h+(1:Int)))),(10,xI j)],mkH []⟩) ?_
     try simp only [thenL,blockL,↓reduceIte,reduceCtorEq]
     exact⟨((IntKind.i64.wrap (h+(1:Int))),j),(Option.some.inj H1).symm,imp_au⟩
    ·intro b_5
     replace H1:=cneg H1 b_5
     refine lok_rl E0 (⟨49,mkS [(0,xS 4 zd9 x),(1,xI target),(2,.x (.one (.fn 54 []))),(8,xI (x.length:Int)),(9,xI i1),(10,xI h)],mkH []⟩) ?_
     try simp only [thenL,blockL,↓reduceIte,reduceCtorEq]
     exact⟨(i1,h),(Option.some.inj H1).symm,imp_au⟩
   ·intro b_7
    replace H1:=cneg H1 b_7
    refine lok_exit ?_
    try simp only [thenL,blockL,↓reduceIte,reduceCtorEq]
    have e_1:=k_1 _ (Option.some.inj H1).symm
    subst e_1
    try dsimp only at H0
    try simp only [thenL,blockL,↓reduceIte,reduceCtorEq]
    exact⟨i1,H0,imp_au⟩
theorem at_enc' (l:List At):List.map zj9 (l.map ofAt)=l.map encAt:=by rw [List.map_map]; rfl
theorem at_enc (l:List zD9):List.map zj9 l=(l.map toAt).map encAt:=by rw [List.map_map]; rfl
theorem ref_enc' (l:List (Int×Int×Int)):List.map zn9 (l.map ofRef)=l.map encRef:=by rw [List.map_map]; rfl
theorem ok_attendance_Fold (enrolled:List zf9) (l:List ze9) (until_:Int) (r_:List zD9×List zu9×Int) (H0:zq1 enrolled l until_=some r_):CallOK Tryz.prog 11 [.one (.p (.sl 4 (List.map zd9 enrolled))),.one (.p (.sl 6 (List.map zb9 l))),.one (.p (pi until_))] [] [.one (.p (.sl 5 (List.map zj9 r_.1))),.one (.p (.sl 3 (List.map zn9 r_.2.1))),.one (.p (pi r_.2.2))] []:=by
 unfold zq1 at H0
 obtain⟨ck,h1,H0⟩:=bind_some H0
 obtain⟨⟨evs,cd⟩,h2,H0⟩:=bind_some H0
 obtain⟨⟨c1,c2,c3,c4,c5⟩,H1⟩:=req_some H0
 obtain rfl:=Option.some.inj H1
 dsimp only at c2 c4 ⊢
 subst c1
 subst c2
 rw [at_enc',ref_enc',enr_enc]
 have hq:∀c,zi9 enrolled c=some (((plcA enrolled c).1:Int),(plcA enrolled c).2)∧((plcA enrolled c).2=true→(plcA enrolled c).1<enrolled.length):=fun c=>by
  obtain⟨⟨q1,q2⟩,a1,a2,a3⟩:=c5 c
  dsimp only at a2 a3
  unfold plcA
  rw [a1]
  refine⟨?_,fun h=>?_⟩
  ·simp only [Option.getD_some]
   rw [Int.toNat_of_nonneg a2]
  ·simp only [Option.getD_some] at h ⊢
   have:=a3 h
   omega
 refine ok_FoldR evR (fun _=>rfl) (enrolled.map toEnr) l evs until_ (plcA enrolled) (by rw [List.length_map]; exact c3) c4 (fun c h=>by rw [List.length_map]; exact (hq c).2 h) ?_ ?_ fun c=>?_
 ·have:=ok_attendance_Check enrolled 0 h1
  rw [enr_enc] at this
  exact this
 ·exact ok_attendance_Canonical l (evs,0) h2
 ·have:=zV9 enrolled c _ (hq c).1
  rw [enr_enc] at this
  exact this
theorem ok_entry_Paper (l:List zf9) (paper:Int) (r_:(List zf9)) (H0:entry_Paper l paper=some r_):CallOK Tryz.prog 12 [.one (.p (.sl 4 (List.map zd9 l))),.one (.p (pi paper))] [] [.one (.p (.sl 4 (List.map zd9 r_)))] []:=by
 refine callOK (n:=25) (rs:=[.tmp 4]) (nb:=0) (V:=[]) Tryz.func12 rfl (by kernel_rfl) rfl rfl rfl rfl (Nat.le_of_ble_eq_true rfl) (by decide) ?_
 unfold entry_Paper at H0
 refine lok_rt E0 (⟨25,mkS [(0,xS 4 zd9 l),(1,xI paper)],mkH []⟩) ?_
 refine lok_rt E0 (⟨25,mkS [(0,xS 4 zd9 l),(1,xI paper),(5,xV 105)],mkH [(105,bA 4 zd9 ([]:List zf9))]⟩) ?_
 refine lok_join (fun x_:(List zf9)=>entry_Paper_j1 x_=some r_) (fun x_=>⟨25,mkS [(5,xV 105)],mkH [(105,bA 4 zd9 x_)]⟩) ?hyentry_Paper_j1 ?hxentry_Paper_j1
 case hyentry_Paper_j1=>
  rintro found H0
  try dsimp only at H0 ⊢
  unfold entry_Paper_j1 at H0
  refine lok_rt E0 (⟨25,mkS [(4,xV 105)],mkH [(105,bA 4 zd9 found)]⟩) ?_
  refine lok_ret ?_
  try obtain rfl:=Option.some.inj H0
  try simp only [thenL,blockL]
  exact fin_au _ (.inr rfl) [] (⟨25,mkS [(4,xS 4 zd9 found)],mkH []⟩) rfl rfl (Imp.trans (imp_frz 105 4 (List.map zd9 found)) imp_au)
 case hxentry_Paper_j1=>
  refine lok_rt E0 (⟨25,mkS [(1,xI paper),(5,xV 105),(8,xS 4 zd9 l),(9,xI (l.length:Int)),(10,xI (0:Int))],mkH [(105,bA 4 zd9 ([]:List zf9))]⟩) ?_
  refine zz9 ?_
  replace H0:=bind_some H0
  obtain⟨v_0,hv_0,H0⟩:=H0
  refine lok_iter (fun x_=>⟨25,mkS [(1,xI paper),(5,xV 105),(8,xS 4 zd9 l),(9,xI (l.length:Int)),(10,xI x_.1)],mkH [(105,bA 4 zd9 x_.2)]⟩) hv_0 imp_au ?_
  ·rintro⟨v,found1⟩ o_1 H1 k_1
   unfold entry_Paper_l3 at H1
   try dsimp only at H1 ⊢
   refine lok_rt E0 (⟨25,mkS [(1,xI paper),(5,xV 105),(8,xS 4 zd9 l),(9,xI (l.length:Int)),(10,xI v),(11,xB (decide (v<(l.length:Int))))],mkH [(105,bA 4 zd9 found1)]⟩) ?_
   refine lok_seq ?_
   refine lok_c (decide (v<(l.length:Int))) ?_ ?_
   ·intro b_4
    replace H1:=cpos H1 b_4
    refine lok_skip ?_
    try simp only [thenL,blockL,↓reduceIte,reduceCtorEq]
    refine lok_join (fun x_:(List zf9)=>entry_Paper_j2 v x_=some o_1) (fun x_=>⟨25,mkS [(1,xI paper),(5,xV 105),(8,xS 4 zd9 l),(9,xI (l.length:Int)),(10,xI v)],mkH [(105,bA 4 zd9 x_)]⟩) ?hyentry_Paper_j2 ?hxentry_Paper_j2
    case hyentry_Paper_j2=>
     rintro found3 H1
     try dsimp only at H1 ⊢
     unfold entry_Paper_j2 at H1
     refine lok_rl E0 (⟨25,mkS [(1,xI paper),(5,xV 105),(8,xS 4 zd9 l),(9,xI (l.length:Int)),(10,xI (IntKind.i64.wrap (v+(1:Int))))],mkH [(105,bA 4 zd9 found3)]⟩) ?_
     try simp only [thenL,blockL,↓reduceIte,reduceCtorEq]
     exact⟨((IntKind.i64.wrap (v+(1:Int))),found3),(Option.some.inj H1).symm,imp_au⟩
    case hxentry_Paper_j2=>
     refine zz9 ?_
     replace H1:=req_some H1
     obtain⟨q_3,H1⟩:=H1
     refine lok_rt E0 (⟨25,mkS [(1,xI paper),(5,xV 105),(7,xP 107 0),(8,xS 4 zd9 l),(9,xI (l.length:Int)),(10,xI v)],mkH [(105,bA 4 zd9 found1),(107,.var [pI (((ix l v).Entry).Candidate),pI (((ix l v).Entry).Centre),pI (((ix l v).Entry).Paper),.p (.val (.bool ((ix l v).Late)))])]⟩) ?_
     refine lok_rt E0 (⟨25,mkS [(1,xI paper),(5,xV 105),(7,xP 107 0),(8,xS 4 zd9 l),(9,xI (l.length:Int)),(10,xI v),(18,xB (((ix l v).Entry).Paper==paper))],mkH [(105,bA 4 zd9 found1),(107,.var [pI (((ix l v).Entry).Candidate),pI (((ix l v).Entry).Centre),pI (((ix l v).Entry).Paper),.p (.val (.bool ((ix l v).Late)))])]⟩) ?_
     refine lok_c (((ix l v).Entry).Paper==paper) ?_ ?_
     ·intro b_2
      replace H1:=cpos H1 b_2
      replace H1:=req_some H1
      obtain⟨q_1,H1⟩:=H1
      refine lok_rl E0 (⟨25,mkS [(1,xI paper),(5,xV 105),(8,xS 4 zd9 l),(9,xI (l.length:Int)),(10,xI v)],mkH [(105,bA 4 zd9 (found1++[(zf9.mk ((ix l v).Entry) ((ix l v).Late))]))]⟩) ?_
      try simp only [thenL,blockL,↓reduceIte,reduceCtorEq]
      exact⟨(found1++[(zf9.mk ((ix l v).Entry) ((ix l v).Late))]),H1,imp_au⟩
     ·intro b_2
      replace H1:=cneg H1 b_2
      refine lok_skip ?_
      try simp only [thenL,blockL,↓reduceIte,reduceCtorEq]
      exact⟨found1,H1,imp_au⟩
   ·intro b_4
    replace H1:=cneg H1 b_4
    refine lok_exit ?_
    try simp only [thenL,blockL,↓reduceIte,reduceCtorEq]
    have e_1:=k_1 _ (Option.some.inj H1).symm
    subst e_1
    try dsimp only at H0
    try simp only [thenL,blockL,↓reduceIte,reduceCtorEq]
    exact⟨found1,H0,imp_au⟩
theorem ok_custody_Canonical_f1 (e:zh9) (r_:zB9) (H0:custody_Canonical_f1 e=some r_):CallOK Tryz.prog 58 [.agg [.p (pi e.Stamp.Time),.p (pi e.Stamp.Source),.p (pi e.Stamp.Seq),.p (pi e.Kind),.p (pi e.Bag),.p (pi e.Seal),.p (pi e.From),.p (pi e.To),.p (.sl 1 (List.map encI e.Candidates))]] [] [.agg [.p (pi r_.Time),.p (pi r_.Source),.p (pi r_.Seq)]] []:=by
 refine callOK (n:=5) (rs:=[.cell 2 36]) (nb:=0) (V:=[]) Tryz.func58 rfl (by kernel_rfl) rfl rfl rfl rfl (Nat.le_of_ble_eq_true rfl) (by decide) ?_
 unfold custody_Canonical_f1 at H0
 refine lok_rt E0 (⟨5,mkS [(1,xP 101 0),(2,xP 102 0)],mkH [(101,.var [pI e.Stamp.Time,pI e.Stamp.Source,pI e.Stamp.Seq,pI e.Kind,pI e.Bag,pI e.Seal,pI e.From,pI e.To,pL e.Candidates]),(102,.var [pI (0:Int),pI (0:Int),pI (0:Int)])]⟩) ?_
 refine lok_rt E0 (⟨5,mkS [(2,xP 102 0)],mkH [(102,.var [pI e.Stamp.Time,pI e.Stamp.Source,pI e.Stamp.Seq])]⟩) ?_
 refine lok_ret ?_
 try obtain rfl:=Option.some.inj H0
 try simp only [thenL,blockL]
 exact fin_au _ (.inr rfl) [] (⟨5,mkS [(2,xP 102 0)],mkH [(102,.var [pI e.Stamp.Time,pI e.Stamp.Source,pI e.Stamp.Seq])]⟩) rfl rfl imp_au
theorem ok_slices_Equal_intint (s1:List Int) (s2:List Int) (r_:Bool) (H0:zc1 s1 s2=some r_):CallOK Tryz.prog 86 [.one (.p (.sl 1 (List.map encI s1))),.one (.p (.sl 1 (List.map encI s2)))] [] [.one (.p (.val (.bool r_)))] []:=by
 refine callOK (n:=26) (rs:=[.tmp 4]) (nb:=0) (V:=[]) Tryz.func86 rfl (by kernel_rfl) rfl rfl rfl rfl (Nat.le_of_ble_eq_true rfl) (by decide) ?_
 unfold zc1 at H0
 refine lok_rt E0 (⟨26,mkS [(0,xL s1),(1,xL s2)],mkH []⟩) ?_
 refine lok_seq ?_
 refine lok_rt E0 (⟨26,mkS [(0,xL s1),(1,xL s2),(10,xB ((s1.length:Int) != (s2.length:Int)))],mkH []⟩) ?_
 refine lok_c ((s1.length:Int) != (s2.length:Int)) ?_ ?_
 ·intro b_5
  replace H0:=cpos H0 b_5
  refine lok_rt E0 (⟨26,mkS [(4,xB false)],mkH []⟩) ?_
  refine lok_ret ?_
  try obtain rfl:=Option.some.inj H0
  try simp only [thenL,blockL]
  exact fin_au _ (.inr rfl) [] (⟨26,mkS [(4,xB false)],mkH []⟩) rfl rfl imp_au
 ·intro b_5
  replace H0:=cneg H0 b_5
  refine lok_skip ?_
  try simp only [thenL,blockL,↓reduceIte,reduceCtorEq]
  refine lok_join (fun x_:Unit=>slices_Equal_intint_j1=some r_) (fun x_=>⟨26,mkS [],mkH []⟩) ?hyslices_Equal_intint_j1 ?hxslices_Equal_intint_j1
  case hyslices_Equal_intint_j1=>
   rintro _ H0
   try dsimp only at H0 ⊢
   unfold slices_Equal_intint_j1 at H0
   refine lok_rt E0 (⟨26,mkS [(4,xB true)],mkH []⟩) ?_
   refine lok_ret ?_
   try obtain rfl:=Option.some.inj H0
   try simp only [thenL,blockL]
   exact fin_au _ (.inr rfl) [] (⟨26,mkS [(4,xB true)],mkH []⟩) rfl rfl imp_au
  case hxslices_Equal_intint_j1=>
   refine lok_rt E0 (⟨26,mkS [(0,xL s1),(1,xL s2),(12,xI (s1.length:Int)),(13,xI (0:Int))],mkH []⟩) ?_
   refine zz9 ?_
   replace H0:=bind_some H0
   obtain⟨v_0,hv_0,H0⟩:=H0
   refine lok_iter (fun x_=>⟨26,mkS [(0,xL s1),(1,xL s2),(12,xI (s1.length:Int)),(13,xI x_)],mkH []⟩) hv_0 imp_au ?_
   ·rintro v o_1 H1 k_1
    unfold slices_Equal_intint_l2 at H1
    try dsimp only at H1 ⊢
    refine lok_rt E0 (⟨26,mkS [(0,xL s1),(1,xL s2),(12,xI (s1.length:Int)),(13,xI v),(14,xB (decide (v<(s1.length:Int))))],mkH []⟩) ?_
    refine lok_seq ?_
    refine lok_c (decide (v<(s1.length:Int))) ?_ ?_
    ·intro b_4
     replace H1:=cpos H1 b_4
     refine lok_skip ?_
     try simp only [thenL,blockL,↓reduceIte,reduceCtorEq]
     refine lok_seq ?_
     refine zz9 ?_
     refine lok_rt E0 (⟨26,mkS [(0,xL s1),(1,xL s2),(5,xI v),(12,xI (s1.length:Int)),(13,xI v)],mkH []⟩) ?_
     replace H1:=req_some H1
     obtain⟨⟨q_2,q_3⟩,H1⟩:=H1
     refine lok_dt E0 8 (⟨26,mkS [(0,xL s1),(1,xL s2),(12,xI (s1.length:Int)),(13,xI v),(24,xB ((ix s1 v) != (ix s2 v)))],mkH []⟩) (by kernel_rfl) (by kernel_rfl) ?_
     refine lok_c ((ix s1 v) != (ix s2 v)) ?_ ?_
     ·intro b_1
      replace H1:=cpos H1 b_1
      refine lok_rt E0 (⟨26,mkS [(4,xB false)],mkH []⟩) ?_
      refine lok_ret ?_
      try simp only [thenL,blockL,↓reduceIte,reduceCtorEq]
      have e_1:=k_1 _ (Option.some.inj H1).symm
      subst e_1
      try dsimp only at H0
      try obtain rfl:=Option.some.inj H0
      try simp only [thenL,blockL]
      exact fin_au _ (.inr rfl) [] (⟨26,mkS [(4,xB false)],mkH []⟩) rfl rfl imp_au
     ·intro b_1
      replace H1:=cneg H1 b_1
      refine lok_skip ?_
      try simp only [thenL,blockL,↓reduceIte,reduceCtorEq]
      refine lok_rl E0 (⟨26,mkS [(0,xL s1),(1,xL s2),(12,xI (s1.length:Int)),(13,xI (IntKind.i64.wrap (v+(1:Int))))],mkH []⟩) ?_
      try simp only [thenL,blockL,↓reduceIte,reduceCtorEq]
      exact⟨(IntKind.i64.wrap (v+(1:Int))),(Option.some.inj H1).symm,imp_au⟩
    ·intro b_4
     replace H1:=cneg H1 b_4
     refine lok_exit ?_
     try simp only [thenL,blockL,↓reduceIte,reduceCtorEq]
     have e_1:=k_1 _ (Option.some.inj H1).symm
     subst e_1
     try dsimp only at H0
     try simp only [thenL,blockL,↓reduceIte,reduceCtorEq]
     exact⟨(),H0,imp_au⟩
theorem ok_custody_Same (a:zh9) (b:zh9) (r_:Bool) (H0:custody_Same a b=some r_):CallOK Tryz.prog 59 [.agg [.p (pi a.Stamp.Time),.p (pi a.Stamp.Source),.p (pi a.Stamp.Seq),.p (pi a.Kind),.p (pi a.Bag),.p (pi a.Seal),.p (pi a.From),.p (pi a.To),.p (.sl 1 (List.map encI a.Candidates))],.agg [.p (pi b.Stamp.Time),.p (pi b.Stamp.Source),.p (pi b.Stamp.Seq),.p (pi b.Kind),.p (pi b.Bag),.p (pi b.Seal),.p (pi b.From),.p (pi b.To),.p (.sl 1 (List.map encI b.Candidates))]] [] [.one (.p (.val (.bool r_)))] []:=by
 refine callOK (n:=52) (rs:=[.tmp 4]) (nb:=0) (V:=[]) Tryz.func59 rfl (by kernel_rfl) rfl rfl rfl rfl (Nat.le_of_ble_eq_true rfl) (by decide) ?_
 unfold custody_Same at H0
 refine lok_rt E0 (⟨52,mkS [(2,xP 102 0),(3,xP 103 0)],mkH [(102,.var [pI a.Stamp.Time,pI a.Stamp.Source,pI a.Stamp.Seq,pI a.Kind,pI a.Bag,pI a.Seal,pI a.From,pI a.To,pL a.Candidates]),(103,.var [pI b.Stamp.Time,pI b.Stamp.Source,pI b.Stamp.Seq,pI b.Kind,pI b.Bag,pI b.Seal,pI b.From,pI b.To,pL b.Candidates])]⟩) ?_
 replace H0:=req_some H0
 obtain⟨q_0,H0⟩:=H0
 refine lok_rt (Env.of E0 [⟨some 50,86,[oL a.Candidates,oL b.Candidates],[],[oB ((zc1 a.Candidates b.Candidates).getD default)],[],(zc1 a.Candidates b.Candidates).isSome=true,fun h=>ok_slices_Equal_intint a.Candidates b.Candidates _ (zL1 h),[]⟩]) (⟨52,mkS [(4,xB ((((((((a.Stamp.Time==b.Stamp.Time)&&((a.Stamp.Source==b.Stamp.Source)&&(a.Stamp.Seq==b.Stamp.Seq)))&&(a.Kind==b.Kind))&&(a.Bag==b.Bag))&&(a.Seal==b.Seal))&&(a.From==b.From))&&(a.To==b.To))&&((zc1 a.Candidates b.Candidates).getD default)))],mkH []⟩) ?_
 refine lok_ret ?_
 try obtain rfl:=Option.some.inj H0
 try simp only [thenL,blockL]
 exact fin_au _ (.inr rfl) [] (⟨52,mkS [(4,xB ((((((((a.Stamp.Time==b.Stamp.Time)&&((a.Stamp.Source==b.Stamp.Source)&&(a.Stamp.Seq==b.Stamp.Seq)))&&(a.Kind==b.Kind))&&(a.Bag==b.Bag))&&(a.Seal==b.Seal))&&(a.From==b.From))&&(a.To==b.To))&&((zc1 a.Candidates b.Candidates).getD default)))],mkH []⟩) rfl rfl imp_au
theorem zl1 (l:List zh9) (r_:List Int×Int) (H0:zy9 l=some r_):CallOK Tryz.prog 57 [.one (.p (.sl 9 (List.map za9 l))),.one (.fn 58 []),.one (.fn 59 [])] [] [.one (.p (.sl 1 (List.map encI r_.1))),.one (.p (pi r_.2))] []:=by
 obtain⟨⟨h1,h2,h3⟩,H0⟩:=req_some H0
 obtain rfl:=Option.some.inj H0
 exact ok_CanonB evB (fun x=>x.Candidates) (fun _=>rfl) l default h1 h2 (fun x y=>decide (x=y)) vldS
  (fun x _=>ok_custody_Canonical_f1 x _ rfl) (fun x hx y hy=>ok_custody_Same x y _ (h3 x hx y hy)) (fun x _=>ok_stamp_Valid x.Stamp _ rfl)
end Go.LS
