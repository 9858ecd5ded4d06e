/-
  The framework LS, part 20: the walk's own shapes.
  No condition: lemmas.
-/
import Derived.Test.YtmgjidfafnajnaaGreatLs19
namespace Go.LS
set_option linter.all false
set_option linter.unusedSimpArgs false
set_option linter.unusedVariables false
section
variable {P:Program} {V:List Nat} {st st':LState} {Q Q':Exit→LState→Prop}
def Fin (P:Program) (rs:List ResultVar) (nb:Nat) (rets:List LV) (blks':List (Option Blk)):Exit→LState→Prop:=fun e s=>(e = .normal∨e = .ret)∧Ret P rs nb (List.range nb) rets blks' s
theorem callOK {f:FuncId}{fn:Func}{c:Code}{n:Nat}{rs:List ResultVar}{args:List LV}{blks:List Blk}{nb:Nat}{V:List Nat}{rets:List LV}{blks':List (Option Blk)}(hf:P.funcs[f]?=some fn) (hb:fn.body=some c)
  (hname : (fn.name == "runtime.NumGoroutine") = false) (hnt : fn.ntmps = n) (hrs : fn.results.toList = rs) (hbl : blks.length = nb) (hV : List.range nb = V) (hn : args.length ≤ n) (hnb : nb ≤ 100)
  (h:LOK P V c (entry n args blks) (Fin P rs nb rets blks')):CallOK P f args blks rets blks':=by
 subst hnt hrs hbl hV
 exact callOK_of hf hb hname hn hnb h
theorem fin_here {rs:List ResultVar}{nb:Nat}{rets:List LV}{blks':List (Option Blk)}{r:List LV}{q:Prop}{L:List Nat}(e:Exit) (hx:e = .normal∨e = .ret) (he:evRess P st rs=(r,q)) (hv:q) (hL:List.range nb=L)
  (hr:rets=r.map (LV.map (renC fun i=>L.idxOf i))) (hb:blks'=L.map (fun i=>(st.h i).map (Blk.map (renC fun i=>L.idxOf i))))
  (h1:(r.all fun l=>(refsL l).all fun i=>L.contains i)=true) (h2:(L.all fun i=>match st.h i with | some b=>(refsB b).all fun i=>L.contains i | none=>true)=true):Fin P rs nb rets blks' e st:=by
 subst hL
 have hv:(evRess P st rs).2:=by rw [he]; exact hv
 have hr1:(evRess P st rs).1=r:=by rw [he]
 subst hr1
 exact⟨hx,st,[],Imp.refl _,hv,rfl,List.nodup_nil,by rw [List.append_nil]; exact hr,by rw [List.append_nil]; exact hb,by rw [List.append_nil]; exact h1,by rw [List.append_nil]; exact h2⟩
theorem fin_imp {rs:List ResultVar}{nb:Nat}{V:List Nat}{rets:List LV}{blks':List (Option Blk)}{e:Exit}(hV:List.range nb=V) (hi:Imp V st st') (h:Fin P rs nb rets blks' e st'):Fin P rs nb rets blks' e st:=by
 subst hV
 obtain⟨hx,s,news,h1,rest⟩:=h
 exact⟨hx,s,news,hi.trans h1,rest⟩
theorem fin_news {rs:List ResultVar}{nb:Nat}{rets:List LV}{blks':List (Option Blk)}{r:List LV}{q:Prop}{L:List Nat}(news:List Nat) (e:Exit) (hx:e = .normal∨e = .ret) (he:evRess P st rs=(r,q)) (hv:q) (hL:List.range nb++news=L) (h100:(news.all fun i=>decide (100≤i))=true) (hnd:news.Nodup)
  (hr:rets=r.map (LV.map (renC fun i=>L.idxOf i))) (hb:blks'=L.map (fun i=>(st.h i).map (Blk.map (renC fun i=>L.idxOf i))))
  (h1:(r.all fun l=>(refsL l).all fun i=>L.contains i)=true) (h2:(L.all fun i=>match st.h i with | some b=>(refsB b).all fun i=>L.contains i | none=>true)=true):Fin P rs nb rets blks' e st:=by
 subst hL
 have hv:(evRess P st rs).2:=by rw [he]; exact hv
 have hr1:(evRess P st rs).1=r:=by rw [he]
 subst hr1
 exact⟨hx,st,news,Imp.refl _,hv,h100,hnd,hr,hb,h1,h2⟩
theorem lok_then (E:Env P){id:Nat}{ops:List Oper}{c:Code}{s:LState}{q:Prop}(he:evOps P E ops.toArray ops st True=(s,q)) (hv:q) (h:LOK P V c s Q):LOK P V (.seq (.region id ops.toArray false) c) st Q:=
 lok_seq (lok_region E he hv h)
theorem lok_draw_then (E:Env P) (m:Nat){id:Nat}{ops:List Oper}{c:Code}{s:LState}{q:Prop}(hmx:P.follows .mixedOrders=true) (hlex:lexOK ops.toArray m=true) (he:evDraw P E ops.toArray m ops st True=(s,q)) (hv:q) (h:LOK P V c s Q):LOK P V (.seq (.region id ops.toArray true) c) st Q:=
 lok_seq (lok_region_draw E m hmx hlex he hv h)
end
end Go.LS
