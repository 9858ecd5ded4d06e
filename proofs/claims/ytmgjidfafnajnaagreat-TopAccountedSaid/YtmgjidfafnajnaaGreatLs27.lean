/-
  The framework LS, part 27: the walk's rules with their routine proofs filled in.
  No condition: lemmas.
-/
import Derived.Test.YtmgjidfafnajnaaGreatLs26
namespace Go.LS
set_option linter.all false
set_option linter.unusedSimpArgs false
set_option linter.unusedVariables false
section
variable {P:Program} {V:List Nat} {st:LState} {Q:Exit→LState→Prop}
theorem imp_au {st:LState}{n:Nat}{l:List (Nat×SV)}{m:List (Nat×Blk)}(hn:st.n=n:=by rfl)
  (hl:allLS (mkH m) st l:=by
   first | (simp only [go_sem,↓reduceIte,reduceCtorEq,Nat.reduceAdd,Nat.reduceMul,Nat.reduceSub,Nat.reduceLT,Nat.reduceLeDiff,Nat.reduceEqDiff,Nat.reduceBEq,Int.reduceToNat]; done) | (simp only [go_sem,↓reduceIte,reduceCtorEq,Nat.reduceAdd,Nat.reduceMul,Nat.reduceSub,Nat.reduceLT,Nat.reduceLeDiff,Nat.reduceEqDiff,Nat.reduceBEq,Int.reduceToNat,List.map_append,List.map_cons,List.map_nil,List.map_take,List.map_drop,map_rep,map_setI,List.take_append,List.length_append,List.length_drop,List.length_take,len_rep]; done) | (simp only [go_sem,↓reduceIte,reduceCtorEq,Nat.reduceAdd,Nat.reduceMul,Nat.reduceSub,Nat.reduceLT,Nat.reduceLeDiff,Nat.reduceEqDiff,Nat.reduceBEq,Int.reduceToNat,List.map_append,List.map_cons,List.map_nil,List.map_take,List.map_drop,map_rep,map_setI,List.take_append,List.length_append,List.length_drop,List.length_take,len_rep]; (repeat' apply And.intro) <;> first | trivial | rfl | omega | (simp; done) | (simp_all; done)))
  (hm:autoParam (allLH (mkH m) st m) imp_au._auto_2)
  (hr:(l.all fun p=>(refsS p.2).all fun i=>(m.map (·.1)).contains i)=true:=by rfl) (hrb:(m.all fun p=>(refsB p.2).all fun i=>(m.map (·.1)).contains i)=true:=by rfl)
  (hvv:(V.all fun id=>(mkH m id).isSome)=true:=by rfl):Imp V st ⟨n,mkS l,mkH m⟩:=imp_le hn hl hm hr hrb hvv
theorem imp_frz {st:LState}(id e:Nat) (xs:List (List PV)) (hb:autoParam (st.h id=some (.arr e xs)) imp_au._auto_2) (hid:100≤id:=by decide):Imp V st (st.freeze id e xs):=imp_freeze st id e xs hb hid
theorem lok_rt (E:Env P){id:Nat}{ops:List Oper}{c:Code}(st':LState) (k:LOK P V c st' Q) (h:∀s q,evOps P E ops.toArray ops st True=(s,q)→q∧Imp V s st':=by
  intro s q he
  simp only [go_sem,↓reduceIte,reduceCtorEq,Nat.reduceAdd,Nat.reduceMul,Nat.reduceSub,Nat.reduceLT,Nat.reduceLeDiff,Nat.reduceEqDiff,Nat.reduceBEq,Int.reduceToNat] at he
  obtain⟨rfl,rfl⟩:=Prod.mk.inj he
  clear he
  refine⟨?_,?_⟩
  ·first | trivial | (repeat' first | apply And.intro | intro _) <;> first | trivial | assumption | rfl | omega | solve_by_elim | ((repeat' first | assumption | apply band_t | apply bnot_t | apply bor_l); done) | (simp only [go_sem,↓reduceIte,reduceCtorEq,Nat.reduceAdd,Nat.reduceMul,Nat.reduceSub,Nat.reduceLT,Nat.reduceLeDiff,Nat.reduceEqDiff,Nat.reduceBEq,Int.reduceToNat,List.map_append,List.map_cons,List.map_nil,List.map_take,List.map_drop,map_rep,map_setI,List.take_append,List.length_append,List.length_drop,List.length_take,len_rep]; done) | (simp_all; done) | (simp_all; omega)
  ·refine imp_le rfl ?_ ?_ rfl rfl rfl
   ·first | (simp only [go_sem,↓reduceIte,reduceCtorEq,Nat.reduceAdd,Nat.reduceMul,Nat.reduceSub,Nat.reduceLT,Nat.reduceLeDiff,Nat.reduceEqDiff,Nat.reduceBEq,Int.reduceToNat]; done) | (simp only [go_sem,↓reduceIte,reduceCtorEq,Nat.reduceAdd,Nat.reduceMul,Nat.reduceSub,Nat.reduceLT,Nat.reduceLeDiff,Nat.reduceEqDiff,Nat.reduceBEq,Int.reduceToNat,List.map_append,List.map_cons,List.map_nil,List.map_take,List.map_drop,map_rep,map_setI,List.take_append,List.length_append,List.length_drop,List.length_take,len_rep]; done) | (simp only [go_sem,↓reduceIte,reduceCtorEq,Nat.reduceAdd,Nat.reduceMul,Nat.reduceSub,Nat.reduceLT,Nat.reduceLeDiff,Nat.reduceEqDiff,Nat.reduceBEq,Int.reduceToNat,List.map_append,List.map_cons,List.map_nil,List.map_take,List.map_drop,map_rep,map_setI,List.take_append,List.length_append,List.length_drop,List.length_take,len_rep]; (repeat' apply And.intro) <;> first | trivial | rfl | omega | (simp; done) | (simp_all; done))
   ·first | (simp only [go_sem,↓reduceIte,reduceCtorEq,Nat.reduceAdd,Nat.reduceMul,Nat.reduceSub,Nat.reduceLT,Nat.reduceLeDiff,Nat.reduceEqDiff,Nat.reduceBEq,Int.reduceToNat]; done) | (simp only [go_sem,↓reduceIte,reduceCtorEq,Nat.reduceAdd,Nat.reduceMul,Nat.reduceSub,Nat.reduceLT,Nat.reduceLeDiff,Nat.reduceEqDiff,Nat.reduceBEq,Int.reduceToNat,List.map_append,List.map_cons,List.map_nil,List.map_take,List.map_drop,map_rep,map_setI,List.take_append,List.length_append,List.length_drop,List.length_take,len_rep]; done) | (simp only [go_sem,↓reduceIte,reduceCtorEq,Nat.reduceAdd,Nat.reduceMul,Nat.reduceSub,Nat.reduceLT,Nat.reduceLeDiff,Nat.reduceEqDiff,Nat.reduceBEq,Int.reduceToNat,List.map_append,List.map_cons,List.map_nil,List.map_take,List.map_drop,map_rep,map_setI,List.take_append,List.length_append,List.length_drop,List.length_take,len_rep]; (repeat' apply And.intro) <;> first | trivial | rfl | omega | (simp; done) | (simp_all; done))):LOK P V (.seq (.region id ops.toArray false) c) st Q:=
 have h1:=h _ _ rfl
 lok_then_to E rfl h1.1 h1.2 k
theorem lok_rtg {G:Prop}(E:Env P){id:Nat}{ops:List Oper}{c:Code}(g:G) (st':LState) (k:LOK P V c st' Q) (h:G→∀s q,evOps P E ops.toArray ops st True=(s,q)→q∧Imp V s st':=by
  intro g s q he
  simp only [go_sem,↓reduceIte,reduceCtorEq,Nat.reduceAdd,Nat.reduceMul,Nat.reduceSub,Nat.reduceLT,Nat.reduceLeDiff,Nat.reduceEqDiff,Nat.reduceBEq,Int.reduceToNat,g] at he
  obtain⟨rfl,rfl⟩:=Prod.mk.inj he
  clear he
  refine⟨?_,?_⟩
  ·first | trivial | (repeat' first | apply And.intro | intro _) <;> first | trivial | assumption | rfl | omega | solve_by_elim | ((repeat' first | assumption | apply band_t | apply bnot_t | apply bor_l); done) | (simp only [go_sem,↓reduceIte,reduceCtorEq,Nat.reduceAdd,Nat.reduceMul,Nat.reduceSub,Nat.reduceLT,Nat.reduceLeDiff,Nat.reduceEqDiff,Nat.reduceBEq,Int.reduceToNat,List.map_append,List.map_cons,List.map_nil,List.map_take,List.map_drop,map_rep,map_setI,List.take_append,List.length_append,List.length_drop,List.length_take,len_rep]; done) | (simp_all; done) | (simp_all; omega)
  ·refine imp_le rfl ?_ ?_ rfl rfl rfl
   ·first | (simp only [go_sem,↓reduceIte,reduceCtorEq,Nat.reduceAdd,Nat.reduceMul,Nat.reduceSub,Nat.reduceLT,Nat.reduceLeDiff,Nat.reduceEqDiff,Nat.reduceBEq,Int.reduceToNat]; done) | (simp only [go_sem,↓reduceIte,reduceCtorEq,Nat.reduceAdd,Nat.reduceMul,Nat.reduceSub,Nat.reduceLT,Nat.reduceLeDiff,Nat.reduceEqDiff,Nat.reduceBEq,Int.reduceToNat,List.map_append,List.map_cons,List.map_nil,List.map_take,List.map_drop,map_rep,map_setI,List.take_append,List.length_append,List.length_drop,List.length_take,len_rep,g]; done) | (simp only [go_sem,↓reduceIte,reduceCtorEq,Nat.reduceAdd,Nat.reduceMul,Nat.reduceSub,Nat.reduceLT,Nat.reduceLeDiff,Nat.reduceEqDiff,Nat.reduceBEq,Int.reduceToNat,List.map_append,List.map_cons,List.map_nil,List.map_take,List.map_drop,map_rep,map_setI,List.take_append,List.length_append,List.length_drop,List.length_take,len_rep,g]; (repeat' apply And.intro) <;> first | trivial | rfl | omega | (simp; done) | (simp_all; done)) | (simp only [go_sem,↓reduceIte,reduceCtorEq,Nat.reduceAdd,Nat.reduceMul,Nat.reduceSub,Nat.reduceLT,Nat.reduceLeDiff,Nat.reduceEqDiff,Nat.reduceBEq,Int.reduceToNat,List.map_append,List.map_cons,List.map_nil,List.map_take,List.map_drop,map_rep,map_setI,List.take_append,List.length_append,List.length_drop,List.length_take,len_rep,← g]; done) | (simp only [go_sem,↓reduceIte,reduceCtorEq,Nat.reduceAdd,Nat.reduceMul,Nat.reduceSub,Nat.reduceLT,Nat.reduceLeDiff,Nat.reduceEqDiff,Nat.reduceBEq,Int.reduceToNat,List.map_append,List.map_cons,List.map_nil,List.map_take,List.map_drop,map_rep,map_setI,List.take_append,List.length_append,List.length_drop,List.length_take,len_rep,← g]; (repeat' apply And.intro) <;> first | trivial | rfl | omega | (simp; done))
   ·first | (simp only [go_sem,↓reduceIte,reduceCtorEq,Nat.reduceAdd,Nat.reduceMul,Nat.reduceSub,Nat.reduceLT,Nat.reduceLeDiff,Nat.reduceEqDiff,Nat.reduceBEq,Int.reduceToNat]; done) | (simp only [go_sem,↓reduceIte,reduceCtorEq,Nat.reduceAdd,Nat.reduceMul,Nat.reduceSub,Nat.reduceLT,Nat.reduceLeDiff,Nat.reduceEqDiff,Nat.reduceBEq,Int.reduceToNat,List.map_append,List.map_cons,List.map_nil,List.map_take,List.map_drop,map_rep,map_setI,List.take_append,List.length_append,List.length_drop,List.length_take,len_rep,g]; done) | (simp only [go_sem,↓reduceIte,reduceCtorEq,Nat.reduceAdd,Nat.reduceMul,Nat.reduceSub,Nat.reduceLT,Nat.reduceLeDiff,Nat.reduceEqDiff,Nat.reduceBEq,Int.reduceToNat,List.map_append,List.map_cons,List.map_nil,List.map_take,List.map_drop,map_rep,map_setI,List.take_append,List.length_append,List.length_drop,List.length_take,len_rep,g]; (repeat' apply And.intro) <;> first | trivial | rfl | omega | (simp; done) | (simp_all; done)) | (simp only [go_sem,↓reduceIte,reduceCtorEq,Nat.reduceAdd,Nat.reduceMul,Nat.reduceSub,Nat.reduceLT,Nat.reduceLeDiff,Nat.reduceEqDiff,Nat.reduceBEq,Int.reduceToNat,List.map_append,List.map_cons,List.map_nil,List.map_take,List.map_drop,map_rep,map_setI,List.take_append,List.length_append,List.length_drop,List.length_take,len_rep,← g]; done) | (simp only [go_sem,↓reduceIte,reduceCtorEq,Nat.reduceAdd,Nat.reduceMul,Nat.reduceSub,Nat.reduceLT,Nat.reduceLeDiff,Nat.reduceEqDiff,Nat.reduceBEq,Int.reduceToNat,List.map_append,List.map_cons,List.map_nil,List.map_take,List.map_drop,map_rep,map_setI,List.take_append,List.length_append,List.length_drop,List.length_take,len_rep,← g]; (repeat' apply And.intro) <;> first | trivial | rfl | omega | (simp; done))):LOK P V (.seq (.region id ops.toArray false) c) st Q:=
 have h1:=h g _ _ rfl
 lok_then_to E rfl h1.1 h1.2 k
theorem lok_rl (E:Env P){id:Nat}{ops:List Oper}(st':LState) (k:Q .normal st') (h:autoParam (∀s q,evOps P E ops.toArray ops st True=(s,q)→q∧Imp V s st') lok_rt._auto_1):LOK P V (.region id ops.toArray false) st Q:=
 have h1:=h _ _ rfl
 lok_imp_post (lok_region E rfl h1.1 ⟨st',h1.2,k⟩)
theorem lok_rlg {G:Prop}(E:Env P){id:Nat}{ops:List Oper}(g:G) (st':LState) (k:Q .normal st') (h:autoParam (G→∀s q,evOps P E ops.toArray ops st True=(s,q)→q∧Imp V s st') lok_rtg._auto_1):LOK P V (.region id ops.toArray false) st Q:=
 have h1:=h g _ _ rfl
 lok_imp_post (lok_region E rfl h1.1 ⟨st',h1.2,k⟩)
theorem lok_dt (E:Env P) (m:Nat){id:Nat}{ops:List Oper}{c:Code}(st':LState) (hmx:P.follows .mixedOrders=true) (hlex:lexOK ops.toArray m=true) (k:LOK P V c st' Q) (h:autoParam (∀s q,evDraw P E ops.toArray m ops st True=(s,q)→q∧Imp V s st') lok_rt._auto_1):LOK P V (.seq (.region id ops.toArray true) c) st Q:=
 have h1:=h _ _ rfl
 lok_draw_then_to E m hmx hlex rfl h1.1 h1.2 k
theorem lok_dtg {G:Prop}(E:Env P) (m:Nat){id:Nat}{ops:List Oper}{c:Code}(g:G) (st':LState) (hmx:P.follows .mixedOrders=true) (hlex:lexOK ops.toArray m=true) (k:LOK P V c st' Q) (h:autoParam (G→∀s q,evDraw P E ops.toArray m ops st True=(s,q)→q∧Imp V s st') lok_rtg._auto_1):LOK P V (.seq (.region id ops.toArray true) c) st Q:=
 have h1:=h g _ _ rfl
 lok_draw_then_to E m hmx hlex rfl h1.1 h1.2 k
theorem lok_dl (E:Env P) (m:Nat){id:Nat}{ops:List Oper}(st':LState) (hmx:P.follows .mixedOrders=true) (hlex:lexOK ops.toArray m=true) (k:Q .normal st') (h:autoParam (∀s q,evDraw P E ops.toArray m ops st True=(s,q)→q∧Imp V s st') lok_rt._auto_1):LOK P V (.region id ops.toArray true) st Q:=
 have h1:=h _ _ rfl
 lok_imp_post (lok_region_draw E m hmx hlex rfl h1.1 ⟨st',h1.2,k⟩)
theorem lok_dlg {G:Prop}(E:Env P) (m:Nat){id:Nat}{ops:List Oper}(g:G) (st':LState) (hmx:P.follows .mixedOrders=true) (hlex:lexOK ops.toArray m=true) (k:Q .normal st') (h:autoParam (G→∀s q,evDraw P E ops.toArray m ops st True=(s,q)→q∧Imp V s st') lok_rtg._auto_1):LOK P V (.region id ops.toArray true) st Q:=
 have h1:=h g _ _ rfl
 lok_imp_post (lok_region_draw E m hmx hlex rfl h1.1 ⟨st',h1.2,k⟩)
theorem lok_c {c:Operand}{x y:Code}(b:Bool) (hx:b=true→LOK P V x st Q) (hy:b=false→LOK P V y st Q) (he:ev st c=(.one (.p (.val (.bool b))),True):=by
  simp only [go_sem,↓reduceIte,reduceCtorEq,Nat.reduceAdd,Nat.reduceMul,Nat.reduceSub,Nat.reduceLT,Nat.reduceLeDiff,Nat.reduceEqDiff,Nat.reduceBEq,Int.reduceToNat]):LOK P V (.cond c x y) st Q:=lok_cond he trivial hx hy
theorem fin_au {rs:List ResultVar}{nb:Nat}{rets:List LV}{blks':List (Option Blk)}{V:List Nat}(e:Exit) (hx:e = .normal∨e = .ret) (L:List Nat) (S:LState) (hV:List.range nb=V) (hL:List.range nb=L) (hi:Imp V st S)
  (h:∀r q,evRess P S rs=(r,q)→q∧rets=r.map (LV.map (renC fun i=>L.idxOf i))∧blks'=L.map (fun i=>(S.h i).map (Blk.map (renC fun i=>L.idxOf i)))∧(r.all fun l=>(refsL l).all fun i=>L.contains i)=true∧(L.all fun i=>match S.h i with | some b=>(refsB b).all fun i=>L.contains i | none=>true)=true:=by
   intro r q he
   simp only [go_sem,↓reduceIte,reduceCtorEq,Nat.reduceAdd,Nat.reduceMul,Nat.reduceSub,Nat.reduceLT,Nat.reduceLeDiff,Nat.reduceEqDiff,Nat.reduceBEq,Int.reduceToNat] at he
   obtain⟨rfl,rfl⟩:=Prod.mk.inj he
   refine⟨?_,?_,?_,?_,?_⟩
   ·first | trivial | (simp; done)
   ·first | rfl | (simp only [go_sem,↓reduceIte,reduceCtorEq,Nat.reduceAdd,Nat.reduceMul,Nat.reduceSub,Nat.reduceLT,Nat.reduceLeDiff,Nat.reduceEqDiff,Nat.reduceBEq,Int.reduceToNat,List.map_append,List.map_cons,List.map_nil,List.map_take,List.map_drop,map_rep,map_setI,List.take_append,List.length_append,List.length_drop,List.length_take,len_rep]; done)
   ·first | rfl | (simp only [go_sem,↓reduceIte,reduceCtorEq,Nat.reduceAdd,Nat.reduceMul,Nat.reduceSub,Nat.reduceLT,Nat.reduceLeDiff,Nat.reduceEqDiff,Nat.reduceBEq,Int.reduceToNat,List.map_append,List.map_cons,List.map_nil,List.map_take,List.map_drop,map_rep,map_setI,List.take_append,List.length_append,List.length_drop,List.length_take,len_rep]; done)
   ·first | rfl | (simp only [go_sem,↓reduceIte,reduceCtorEq,Nat.reduceAdd,Nat.reduceMul,Nat.reduceSub,Nat.reduceLT,Nat.reduceLeDiff,Nat.reduceEqDiff,Nat.reduceBEq,Int.reduceToNat]; done)
   ·first | rfl | (simp only [go_sem,↓reduceIte,reduceCtorEq,Nat.reduceAdd,Nat.reduceMul,Nat.reduceSub,Nat.reduceLT,Nat.reduceLeDiff,Nat.reduceEqDiff,Nat.reduceBEq,Int.reduceToNat]; done)):Fin P rs nb rets blks' e st:=
 have h1:=h _ _ rfl
 fin_imp hV hi (fin_here (L:=L) e hx rfl h1.1 hL h1.2.1 h1.2.2.1 h1.2.2.2.1 h1.2.2.2.2)
theorem fin_nu {rs:List ResultVar}{nb:Nat}{rets:List LV}{blks':List (Option Blk)}{V:List Nat}(news:List Nat) (e:Exit) (hx:e = .normal∨e = .ret) (L:List Nat) (S:LState) (hV:List.range nb=V) (hL:List.range nb++news=L) (hi:Imp V st S)
  (h:autoParam (∀r q,evRess P S rs=(r,q)→q∧rets=r.map (LV.map (renC fun i=>L.idxOf i))∧blks'=L.map (fun i=>(S.h i).map (Blk.map (renC fun i=>L.idxOf i)))∧(r.all fun l=>(refsL l).all fun i=>L.contains i)=true∧(L.all fun i=>match S.h i with | some b=>(refsB b).all fun i=>L.contains i | none=>true)=true) fin_au._auto_1) (h100:(news.all fun i=>decide (100≤i))=true:=by rfl) (hnd:news.Nodup:=by simp):Fin P rs nb rets blks' e st:=
 have h1:=h _ _ rfl
 fin_imp hV hi (fin_news (L:=L) news e hx rfl h1.1 hL h100 hnd h1.2.1 h1.2.2.1 h1.2.2.2.1 h1.2.2.2.2)
end
end Go.LS
