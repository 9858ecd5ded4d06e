/-
  The framework LS, part 22: what the evaluation of a region unfolds.
  No condition.
-/
import Derived.Test.YtmgjidfafnajnaaGreatLs21
namespace Go.LS
set_option linter.all false
set_option linter.unusedSimpArgs false
set_option linter.unusedVariables false
theorem killSL_nil (s:Nat→SV):killSL [] s=s:=by
 have hL:∀c:CV,killL [] c=c:=fun c=>by cases c <;> simp [killL]
 have hl:∀l:LV,l.map (killL [])=l:=fun l=>by
  cases l with
  | one c=>simp [LV.map,hL]
  | agg cs=>simp only [LV.map]; rw [show cs.map (killL [])=cs by simp [List.map_congr_left (fun c _=>hL c)]]
 funext t
 unfold killSL
 cases s t with
 | dead=>rfl
 | x l=>simp [SV.map,hl]
 | tup ls=>simp only [SV.map]; rw [show ls.map (LV.map (killL []))=ls by simp [List.map_congr_left (fun l _=>hl l)]]
 | wh g l=>simp [SV.map,hl]
theorem killHL_nil (h:Heap):killHL [] h=h:=by
 have hL:∀c:CV,killL [] c=c:=fun c=>by cases c <;> simp [killL]
 funext i
 simp only [killHL,List.not_mem_nil,if_false]
 cases h i with
 | none=>rfl
 | some b=>
  cases b with
  | var cs=>simp only [Option.map_some,Blk.map]; rw [show cs.map (killL [])=cs by simp [List.map_congr_left (fun c _=>hL c)]]
  | arr e xs=>rfl
theorem killSL_cons (a:Nat) (l:List Nat) (s:Nat→SV):killSL (a :: l) s=fun t=>(s t).map (killL (a :: l)):=rfl
theorem killHL_cons (a:Nat) (l:List Nat) (h:Heap):killHL (a :: l) h=fun i=>if i∈a :: l then none else (h i).map (Blk.map (killL (a :: l))):=rfl
attribute [go_sem] killSL_nil killHL_nil killSL_cons killHL_cons evOps evDraw step1 stepQ stepL noV isLoud evQ evLoud evVal evS ev constV constOk toP guardOf putV whV isX dstOk evBin evInt evShift isShift evStr vals evUn slOf evLoad cellsOfL splice purify evBuild evBuildS fixP fixN evParts boundOf evSlice capIds evMax killC LV.map SV.map Blk.map killH killS bindB refsC refsL refsS refsB argC argL argsOf argM hdM tlM vwOk keepB keepAll dstOkB argsVc addRefs idsOf renC noSl isVw retS setRets quietArgs newId backId evCallQ putBlks killL callL callR newsOf killsOf closedL evCallB isNilConst srcOf srcE upd_at mkS mkH zeroOk plain isVar entry enumS enumB evRes evRess allS allH cellEq kindsOK List.map List.flatMap_cons List.flatMap_nil List.foldl List.getD_cons_zero List.getD_cons_succ List.getD_nil List.drop_zero List.drop_succ_cons List.drop_nil List.take_zero List.take_succ_cons List.take_nil List.set_cons_zero List.set_cons_succ List.all_cons List.all_nil List.any_cons List.any_nil List.length_cons List.length_nil List.nil_append List.cons_append List.append_nil List.zipIdx_cons List.zipIdx_nil List.mem_cons List.not_mem_nil List.isEmpty_nil List.isEmpty_cons List.idxOf_cons List.idxOf_nil List.filter_cons List.filter_nil List.range_zero List.range_succ List.contains_cons List.contains_nil List.replicate_zero List.replicate_succ List.forall_mem_cons List.getElem?_cons_zero List.getElem?_cons_succ List.getElem?_toArray List.getElem?_nil Nat.add_zero Nat.zero_add Nat.mul_one Nat.one_mul Nat.mul_zero Nat.zero_mul Nat.zero_ne_one Nat.one_ne_zero Nat.succ_ne_self Nat.le_refl Nat.lt_irrefl Nat.zero_le Nat.lt_one_iff Nat.not_lt_zero Option.bind_some Option.bind_none Option.getD_some Option.getD_none Option.map_some Option.map_none Option.isSome_some Option.isSome_none Option.isNone_some Option.isNone_none Option.some.injEq forall_eq_or_imp and_true true_and and_self and_false false_and or_true true_or or_false false_or or_self not_true_eq_false not_false_eq_true ne_eq eq_self forall_const true_implies false_implies implies_true imp_self forall_eq Bool.true_and Bool.and_true Bool.false_and Bool.and_false Bool.or_false Bool.false_or Bool.or_true Bool.true_or Bool.not_true Bool.not_false Bool.false_eq_true Bool.true_eq_false Bool.or_self Bool.and_self decide_true decide_false decide_not BEq.rfl beq_self_eq_true Bool.cond_true Bool.cond_false LState.freeze frzC roomy
end Go.LS
