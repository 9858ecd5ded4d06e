import Derived.Test.YtdhhopobephbnaaW4
namespace Go.LS
set_option linter.all false
set_option linter.unusedSimpArgs false
set_option linter.unusedVariables false
open Go.Proofs
set_option maxRecDepth 20000
def g14 : List LV → List Blk → CRes
  | [.one (.p (.sl 4 xs))], [] => ⟨(xs.map decR).map encR = xs, [.int .i64 (checkOf (xs.map decR))], []⟩
  | _, _ => ⟨False, [], []⟩
def g45 : List LV → List Blk → CRes
  | [.agg [.p (.val (.int .i64 a)), .p (.val (.int .i64 b)), .p (.val (.int .i64 c)), .p (.val (.int .i64 d))], .one (.p (.sl 5 xs)), .one (.p (.val (.int .i64 u))), .one (.p (.val (.int .i64 v)))], [] => ⟨(xs.map decE).map encE = xs, [.bool (appliesOf ⟨a, b, c, d⟩ (xs.map decE) u v)], []⟩
  | _, _ => ⟨False, [], []⟩
def gAcc (f : Int × Int → Int × Int) : List LV → List Blk → CRes
  | [.agg [.p (.val (.int .i64 a)), .p (.val (.int .i64 b))]], [] => ⟨True, [accL (f (a, b))], []⟩
  | _, _ => ⟨False, [], []⟩
def gAcc2 (f : Int × Int → Int × Int → Int × Int) : List LV → List Blk → CRes
  | [.agg [.p (.val (.int .i64 a)), .p (.val (.int .i64 b))], .agg [.p (.val (.int .i64 c)), .p (.val (.int .i64 d))]], [] => ⟨True, [accL (f (a, b) (c, d))], []⟩
  | _, _ => ⟨False, [], []⟩
def gMin : List LV → List Blk → CRes
  | [.one (.p (.val (.int .i64 n))), .agg [.p (.val (.int .i64 a)), .p (.val (.int .i64 b))]], [] => ⟨True, [.int .i64 (minutesOf n a b).1, .int .i64 (minutesOf n a b).2], []⟩
  | _, _ => ⟨False, [], []⟩
def g17 : List LV → List Blk → CRes
  | [.one (.p (.val (.int .i64 a))), .one (.p (.val (.int .i64 b)))], [] => ⟨True, [.int .i64 (cutOf a b)], []⟩
  | _, _ => ⟨False, [], []⟩
theorem c14 {f : FuncId} (ok : ∀ ls, CallOK Try.prog f [.one (.p (.sl 4 (ls.map encR)))] [] [.int .i64 (checkOf ls)] []) (a : List LV) (b : List Blk) (h : (g14 a b).pre) : CallOK Try.prog f a b (g14 a b).rets (g14 a b).blks := by
  unfold g14 at h ⊢; split at h
  · have := ok ((‹List (List PV)›).map decR); rw [h] at this; exact this
  · exact h.elim
theorem c45 {f : FuncId} (ok : ∀ r ls c t, CallOK Try.prog f [ruleL r, .one (.p (.sl 5 (ls.map encE))), .int .i64 c, .int .i64 t] [] [.bool (appliesOf r ls c t)] []) (a : List LV) (b : List Blk) (h : (g45 a b).pre) : CallOK Try.prog f a b (g45 a b).rets (g45 a b).blks := by
  unfold g45 at h ⊢; split at h
  · rename_i a b c d xs u v
    have := ok ⟨a, b, c, d⟩ (xs.map decE) u v; rw [h] at this; exact this
  · exact h.elim
theorem cAcc {f : FuncId} {g : Int × Int → Int × Int} (ok : ∀ a, CallOK Try.prog f [accL a] [] [accL (g a)] []) (a : List LV) (b : List Blk) (h : (gAcc g a b).pre) : CallOK Try.prog f a b (gAcc g a b).rets (gAcc g a b).blks := by
  unfold gAcc at h ⊢; split at h
  · rename_i a b; exact ok (a, b)
  · exact h.elim
theorem cAcc2 {f : FuncId} {g : Int × Int → Int × Int → Int × Int} (ok : ∀ a b, CallOK Try.prog f [accL a, accL b] [] [accL (g a b)] []) (a : List LV) (b : List Blk) (h : (gAcc2 g a b).pre) : CallOK Try.prog f a b (gAcc2 g a b).rets (gAcc2 g a b).blks := by
  unfold gAcc2 at h ⊢; split at h
  · rename_i a b c d; exact ok (a, b) (c, d)
  · exact h.elim
theorem cMin {f : FuncId} (ok : ∀ n a, CallOK Try.prog f [.int .i64 n, accL a] [] [.int .i64 (minutesOf n a.1 a.2).1, .int .i64 (minutesOf n a.1 a.2).2] []) (a : List LV) (b : List Blk) (h : (gMin a b).pre) : CallOK Try.prog f a b (gMin a b).rets (gMin a b).blks := by
  unfold gMin at h ⊢; split at h
  · rename_i n a b; exact ok n (a, b)
  · exact h.elim
theorem c17 (a : List LV) (b : List Blk) (h : (g17 a b).pre) : CallOK Try.prog 17 a b (g17 a b).rets (g17 a b).blks := by
  unfold g17 at h ⊢; split at h
  · exact ok17 _ _
  · exact h.elim
def E3 : Env Try.prog := ((((((((((E2.add 14 g14 (c14 ok14)).add 15 g14 (c14 ok15)).add 45 g45 (c45 ok45)).add 44 g45 (c45 ok44)).add 32 (gAcc implyOf) (cAcc ok32)).add 33 (gAcc implyRef) (cAcc ok33)).add
  30 (gAcc2 joinOf) (cAcc2 ok30)).add 31 (gAcc2 joinRef) (cAcc2 ok31)).add 25 gMin (cMin ok25)).add 26 gMin (cMin ok26)).add 17 g17 c17
attribute [go_sem] E3 g14 g45 gAcc gAcc2 gMin g17 decR_map decE_map decA_map decR encR decE encE

def encN (i : Nat) : List PV := [pi i]
def reasN (ls : List Rule) (es : List Ev) (c t : Int) (n : Nat) : List Nat := (List.range n).filter fun i => match ls[i]? with | some r => appliesOf r es c t | none => false
def reasonsOf (ls : List Rule) (es : List Ev) (c t : Int) : List Nat := if checkOf ls ≠ 0 then [] else reasN ls es c t ls.length
theorem reasN_len (ls : List Rule) (es : List Ev) (c t : Int) (n : Nat) : (reasN ls es c t n).length ≤ n := by
  have := List.length_filter_le (fun i => match ls[i]? with | some r => appliesOf r es c t | none => false) (List.range n)
  rw [List.length_range] at this
  exact this
theorem reasN_succ (ls : List Rule) (es : List Ev) (c t : Int) {k : Nat} (h : k < ls.length) : reasN ls es c t (k + 1) = reasN ls es c t k ++ (if appliesOf ls[k] es c t = true then [k] else []) := by
  unfold reasN
  rw [List.range_succ, List.filter_append]
  congr 1
  simp [List.filter, h]
  split <;> simp_all
theorem checkOf_len {l : List Rule} (h : checkOf l = 0) : l.length ≤ 12 := by
  unfold checkOf at h
  split at h
  · cases h
  · omega

theorem ok22 (ls : List Rule) (es : List Ev) (c t : Int) : CallOK Try.prog 22 [.one (.p (.sl 4 (ls.map encR))), .one (.p (.sl 5 (es.map encE))), .int .i64 c, .int .i64 t] [] [.one (.p (.sl 1 ((reasonsOf ls es c t).map encN)))] [] := by
  refine callOK (n := 33) (rs := [.tmp 8]) (nb := 0) (V := []) Try.func22 rfl (by kernel_rfl) rfl rfl rfl rfl (Nat.le_of_ble_eq_true rfl) rfl (by decide) ?_
  refine lok_len (t := 0) (e := 4) (xs := ls.map encR) rfl fun hlen => ?_
  rw [List.length_map] at hlen
  have hroom : huge = 9223372036854775807 := rfl
  apply lok_then E3
  case he =>
    simp only [go_sem, ↓reduceIte, reduceCtorEq, Nat.reduceAdd, Nat.reduceMul, Nat.reduceSub, Nat.reduceLT, Nat.reduceLeDiff, Nat.reduceEqDiff, Nat.reduceBEq]
    exact rfl
  case hv => first | trivial | omega | (simp; done) | (simp; omega)
  refine lok_seq ?_
  apply lok_then E3
  case he =>
    simp only [go_sem, ↓reduceIte, reduceCtorEq, Nat.reduceAdd, Nat.reduceMul, Nat.reduceSub, Nat.reduceLT, Nat.reduceLeDiff, Nat.reduceEqDiff, Nat.reduceBEq]
    exact rfl
  case hv => first | trivial | omega | (simp; done) | (simp; omega)
  apply lok_cond
  case he =>
    simp only [go_sem, ↓reduceIte, reduceCtorEq, Nat.reduceAdd, Nat.reduceMul, Nat.reduceSub, Nat.reduceLT, Nat.reduceLeDiff, Nat.reduceEqDiff, Nat.reduceBEq]
    exact rfl
  case hq => trivial
  case hx =>
    intro hb1
    apply lok_then E3
    case he =>
      simp only [go_sem, ↓reduceIte, reduceCtorEq, Nat.reduceAdd, Nat.reduceMul, Nat.reduceSub, Nat.reduceLT, Nat.reduceLeDiff, Nat.reduceEqDiff, Nat.reduceBEq]
      exact rfl
    case hv => first | trivial | omega | (simp; done) | (simp; omega)
    refine lok_ret ?_
    try simp only [thenL, blockL]
    apply fin_imp rfl (imp_freeze _ 108 1 ([]) (by simp only [go_sem, ↓reduceIte, reduceCtorEq, Nat.reduceAdd, Nat.reduceMul, Nat.reduceSub, Nat.reduceLT, Nat.reduceLeDiff, Nat.reduceEqDiff, Nat.reduceBEq]) (by decide))
    apply fin_here (L := []) _ (.inr rfl) (hL := rfl)
    case he =>
      simp only [go_sem, ↓reduceIte, reduceCtorEq, Nat.reduceAdd, Nat.reduceMul, Nat.reduceSub, Nat.reduceLT, Nat.reduceLeDiff, Nat.reduceEqDiff, Nat.reduceBEq]
      exact rfl
    case h1 => rfl
    case hb => rfl
    case h2 => rfl

    case hv => first | trivial | (simp; done)
    case hr =>
      have h : checkOf ls ≠ 0 := by simpa using hb1
      simp [reasonsOf, h, LV.map, renC]
  case hy =>
    intro hb1
    have h12 := checkOf_len (l := ls) (by simpa using hb1)
    refine lok_skip ?_
    try simp only [thenL, blockL, ↓reduceIte]
    apply lok_then E3
    case he =>
      simp only [go_sem, ↓reduceIte, reduceCtorEq, Nat.reduceAdd, Nat.reduceMul, Nat.reduceSub, Nat.reduceLT, Nat.reduceLeDiff, Nat.reduceEqDiff, Nat.reduceBEq]
      exact rfl
    case hv => first | trivial | omega | (simp; done) | (simp; omega)
    refine lok_seq ?_
    apply lok_then E3
    case he =>
      simp only [go_sem, ↓reduceIte, reduceCtorEq, Nat.reduceAdd, Nat.reduceMul, Nat.reduceSub, Nat.reduceLT, Nat.reduceLeDiff, Nat.reduceEqDiff, Nat.reduceBEq]
      exact rfl
    case hv => first | trivial | omega | (simp; done) | (simp; omega)
    refine lok_block ?_
    refine lok_loop_from (fun k : Nat => ⟨33, mkS [(0, .x (.one (.p (.sl 4 (ls.map encR))))), (1, .x (.one (.p (.sl 5 (es.map encE))))), (2, .x (.int .i64 c)), (3, .x (.int .i64 t)), (9, .x (.one (.vw 109))), (15, .x (.one (.p (.sl 4 (ls.map encR))))), (16, .x (.int .i64 ls.length)), (17, .x (.int .i64 k))], mkH [(109, .arr 1 ((reasN ls es c t k).map encN))]⟩)
      (fun k : Nat => k ≤ ls.length) (fun k : Nat => ls.length - k) 0 ?himp (by omega) ?round
    case himp =>
      refine imp_same rfl ?_ ?_ rfl rfl rfl <;> simp only [go_sem, ↓reduceIte, reduceCtorEq, Nat.reduceAdd, Nat.reduceMul, Nat.reduceSub, Nat.reduceLT, Nat.reduceLeDiff, Nat.reduceEqDiff, Nat.reduceBEq]
      all_goals rfl
    case round =>
      intro k hk
      have hN := reasN_len ls es c t k
      apply lok_then E3
      case he =>
        simp only [go_sem, ↓reduceIte, reduceCtorEq, Nat.reduceAdd, Nat.reduceMul, Nat.reduceSub, Nat.reduceLT, Nat.reduceLeDiff, Nat.reduceEqDiff, Nat.reduceBEq]
        exact rfl
      case hv => first | trivial | omega | (simp; done) | (simp; omega)
      refine lok_seq ?_
      apply lok_cond
      case he =>
        simp only [go_sem, ↓reduceIte, reduceCtorEq, Nat.reduceAdd, Nat.reduceMul, Nat.reduceSub, Nat.reduceLT, Nat.reduceLeDiff, Nat.reduceEqDiff, Nat.reduceBEq]
        exact rfl
      case hq => trivial
      case hx =>
        intro hb2
        have hkl : k < ls.length := by simp at hb2; omega
        refine lok_skip ?_
        try simp only [thenL, blockL, ↓reduceIte]
        refine lok_seq ?_
        refine lok_block ?_
        apply lok_then E3
        case he =>
          simp only [go_sem, ↓reduceIte, reduceCtorEq, Nat.reduceAdd, Nat.reduceMul, Nat.reduceSub, Nat.reduceLT, Nat.reduceLeDiff, Nat.reduceEqDiff, Nat.reduceBEq, getD_map _ _ _ hkl]
          exact rfl
        case hv => first | trivial | omega | (simp; done) | (simp; omega)
        apply lok_then E3
        case he =>
          simp only [go_sem, ↓reduceIte, reduceCtorEq, Nat.reduceAdd, Nat.reduceMul, Nat.reduceSub, Nat.reduceLT, Nat.reduceLeDiff, Nat.reduceEqDiff, Nat.reduceBEq]
          exact rfl
        case hv => first | trivial | omega | (simp; done) | (simp; omega)
        apply lok_cond
        case he =>
          simp only [go_sem, ↓reduceIte, reduceCtorEq, Nat.reduceAdd, Nat.reduceMul, Nat.reduceSub, Nat.reduceLT, Nat.reduceLeDiff, Nat.reduceEqDiff, Nat.reduceBEq]
          exact rfl
        case hq => trivial
        case hx =>
          intro hb3
          apply lok_last E3
          case he =>
            simp only [go_sem, ↓reduceIte, reduceCtorEq, Nat.reduceAdd, Nat.reduceMul, Nat.reduceSub, Nat.reduceLT, Nat.reduceLeDiff, Nat.reduceEqDiff, Nat.reduceBEq]
            exact rfl
          case hv => first | trivial | omega | (simp; done) | (simp; omega)
          try simp only [thenL, blockL, ↓reduceIte]
          apply lok_last E3
          case he =>
            simp only [go_sem, ↓reduceIte, reduceCtorEq, Nat.reduceAdd, Nat.reduceMul, Nat.reduceSub, Nat.reduceLT, Nat.reduceLeDiff, Nat.reduceEqDiff, Nat.reduceBEq]
            exact rfl
          case hv => first | trivial | omega | (simp; done) | (simp; omega)
          try simp only [thenL, blockL, ↓reduceIte]
          refine ⟨k + 1, by omega, by omega, ?_⟩
          refine imp_same rfl ?_ ?_ rfl rfl rfl <;> simp only [go_sem, ↓reduceIte, reduceCtorEq, Nat.reduceAdd, Nat.reduceMul, Nat.reduceSub, Nat.reduceLT, Nat.reduceLeDiff, Nat.reduceEqDiff, Nat.reduceBEq]
          · rw [wrap64 (by omega) (by omega)]; simp
          · rw [reasN_succ ls es c t hkl, if_pos (by simpa using hb3)]; simp [encN]
        case hy =>
          intro hb3
          refine lok_skip ?_
          try simp only [thenL, blockL, ↓reduceIte]
          apply lok_last E3
          case he =>
            simp only [go_sem, ↓reduceIte, reduceCtorEq, Nat.reduceAdd, Nat.reduceMul, Nat.reduceSub, Nat.reduceLT, Nat.reduceLeDiff, Nat.reduceEqDiff, Nat.reduceBEq]
            exact rfl
          case hv => first | trivial | omega | (simp; done) | (simp; omega)
          try simp only [thenL, blockL, ↓reduceIte]
          refine ⟨k + 1, by omega, by omega, ?_⟩
          refine imp_same rfl ?_ ?_ rfl rfl rfl <;> simp only [go_sem, ↓reduceIte, reduceCtorEq, Nat.reduceAdd, Nat.reduceMul, Nat.reduceSub, Nat.reduceLT, Nat.reduceLeDiff, Nat.reduceEqDiff, Nat.reduceBEq]
          · rw [wrap64 (by omega) (by omega)]; simp
          · rw [reasN_succ ls es c t hkl, if_neg (by simpa using hb3)]; simp
      case hy =>
        intro hb2
        have hkl : k = ls.length := by simp at hb2; omega
        refine lok_exit ?_
        try simp only [thenL, blockL, ↓reduceIte]
        apply lok_then E3
        case he =>
          simp only [go_sem, ↓reduceIte, reduceCtorEq, Nat.reduceAdd, Nat.reduceMul, Nat.reduceSub, Nat.reduceLT, Nat.reduceLeDiff, Nat.reduceEqDiff, Nat.reduceBEq]
          exact rfl
        case hv => first | trivial | omega | (simp; done) | (simp; omega)
        refine lok_ret ?_
        try simp only [thenL, blockL]
        apply fin_imp rfl (imp_freeze _ 109 1 ((reasN ls es c t k).map encN) (by simp only [go_sem, ↓reduceIte, reduceCtorEq, Nat.reduceAdd, Nat.reduceMul, Nat.reduceSub, Nat.reduceLT, Nat.reduceLeDiff, Nat.reduceEqDiff, Nat.reduceBEq]) (by decide))
        apply fin_here (L := []) _ (.inr rfl) (hL := rfl)
        case he =>
          simp only [go_sem, ↓reduceIte, reduceCtorEq, Nat.reduceAdd, Nat.reduceMul, Nat.reduceSub, Nat.reduceLT, Nat.reduceLeDiff, Nat.reduceEqDiff, Nat.reduceBEq]
          exact rfl
        case h1 => rfl
        case hb => rfl
        case h2 => rfl

        case hv => first | trivial | (simp; done)
        case hr =>
          have h : checkOf ls = 0 := by simpa using hb1
          subst hkl
          simp [reasonsOf, h, LV.map, renC]
theorem ok23 (ls : List Rule) (es : List Ev) (c t : Int) : CallOK Try.prog 23 [.one (.p (.sl 4 (ls.map encR))), .one (.p (.sl 5 (es.map encE))), .int .i64 c, .int .i64 t] [] [.one (.p (.sl 1 ((reasonsOf ls es c t).map encN)))] [] := by
  refine callOK (n := 33) (rs := [.tmp 8]) (nb := 0) (V := []) Try.func23 rfl (by kernel_rfl) rfl rfl rfl rfl (Nat.le_of_ble_eq_true rfl) rfl (by decide) ?_
  refine lok_len (t := 0) (e := 4) (xs := ls.map encR) rfl fun hlen => ?_
  rw [List.length_map] at hlen
  have hroom : huge = 9223372036854775807 := rfl
  apply lok_then E3
  case he =>
    simp only [go_sem, ↓reduceIte, reduceCtorEq, Nat.reduceAdd, Nat.reduceMul, Nat.reduceSub, Nat.reduceLT, Nat.reduceLeDiff, Nat.reduceEqDiff, Nat.reduceBEq]
    exact rfl
  case hv => first | trivial | omega | (simp; done) | (simp; omega)
  refine lok_seq ?_
  apply lok_then E3
  case he =>
    simp only [go_sem, ↓reduceIte, reduceCtorEq, Nat.reduceAdd, Nat.reduceMul, Nat.reduceSub, Nat.reduceLT, Nat.reduceLeDiff, Nat.reduceEqDiff, Nat.reduceBEq]
    exact rfl
  case hv => first | trivial | omega | (simp; done) | (simp; omega)
  apply lok_cond
  case he =>
    simp only [go_sem, ↓reduceIte, reduceCtorEq, Nat.reduceAdd, Nat.reduceMul, Nat.reduceSub, Nat.reduceLT, Nat.reduceLeDiff, Nat.reduceEqDiff, Nat.reduceBEq]
    exact rfl
  case hq => trivial
  case hx =>
    intro hb1
    apply lok_then E3
    case he =>
      simp only [go_sem, ↓reduceIte, reduceCtorEq, Nat.reduceAdd, Nat.reduceMul, Nat.reduceSub, Nat.reduceLT, Nat.reduceLeDiff, Nat.reduceEqDiff, Nat.reduceBEq]
      exact rfl
    case hv => first | trivial | omega | (simp; done) | (simp; omega)
    refine lok_ret ?_
    try simp only [thenL, blockL]
    apply fin_imp rfl (imp_freeze _ 108 1 ([]) (by simp only [go_sem, ↓reduceIte, reduceCtorEq, Nat.reduceAdd, Nat.reduceMul, Nat.reduceSub, Nat.reduceLT, Nat.reduceLeDiff, Nat.reduceEqDiff, Nat.reduceBEq]) (by decide))
    apply fin_here (L := []) _ (.inr rfl) (hL := rfl)
    case he =>
      simp only [go_sem, ↓reduceIte, reduceCtorEq, Nat.reduceAdd, Nat.reduceMul, Nat.reduceSub, Nat.reduceLT, Nat.reduceLeDiff, Nat.reduceEqDiff, Nat.reduceBEq]
      exact rfl
    case h1 => rfl
    case hb => rfl
    case h2 => rfl

    case hv => first | trivial | (simp; done)
    case hr =>
      have h : checkOf ls ≠ 0 := by simpa using hb1
      simp [reasonsOf, h, LV.map, renC]
  case hy =>
    intro hb1
    have h12 := checkOf_len (l := ls) (by simpa using hb1)
    refine lok_skip ?_
    try simp only [thenL, blockL, ↓reduceIte]
    apply lok_then E3
    case he =>
      simp only [go_sem, ↓reduceIte, reduceCtorEq, Nat.reduceAdd, Nat.reduceMul, Nat.reduceSub, Nat.reduceLT, Nat.reduceLeDiff, Nat.reduceEqDiff, Nat.reduceBEq]
      exact rfl
    case hv => first | trivial | omega | (simp; done) | (simp; omega)
    refine lok_seq ?_
    apply lok_then E3
    case he =>
      simp only [go_sem, ↓reduceIte, reduceCtorEq, Nat.reduceAdd, Nat.reduceMul, Nat.reduceSub, Nat.reduceLT, Nat.reduceLeDiff, Nat.reduceEqDiff, Nat.reduceBEq]
      exact rfl
    case hv => first | trivial | omega | (simp; done) | (simp; omega)
    refine lok_block ?_
    refine lok_loop_from (fun k : Nat => ⟨33, mkS [(0, .x (.one (.p (.sl 4 (ls.map encR))))), (1, .x (.one (.p (.sl 5 (es.map encE))))), (2, .x (.int .i64 c)), (3, .x (.int .i64 t)), (9, .x (.one (.vw 109))), (10, .x (.int .i64 k))], mkH [(109, .arr 1 ((reasN ls es c t k).map encN))]⟩)
      (fun k : Nat => k ≤ ls.length) (fun k : Nat => ls.length - k) 0 ?himp (by omega) ?round
    case himp =>
      refine imp_same rfl ?_ ?_ rfl rfl rfl <;> simp only [go_sem, ↓reduceIte, reduceCtorEq, Nat.reduceAdd, Nat.reduceMul, Nat.reduceSub, Nat.reduceLT, Nat.reduceLeDiff, Nat.reduceEqDiff, Nat.reduceBEq]
      all_goals rfl
    case round =>
      intro k hk
      have hN := reasN_len ls es c t k
      refine lok_seq ?_
      apply lok_then E3
      case he =>
        simp only [go_sem, ↓reduceIte, reduceCtorEq, Nat.reduceAdd, Nat.reduceMul, Nat.reduceSub, Nat.reduceLT, Nat.reduceLeDiff, Nat.reduceEqDiff, Nat.reduceBEq]
        exact rfl
      case hv => first | trivial | omega | (simp; done) | (simp; omega)
      apply lok_cond
      case he =>
        simp only [go_sem, ↓reduceIte, reduceCtorEq, Nat.reduceAdd, Nat.reduceMul, Nat.reduceSub, Nat.reduceLT, Nat.reduceLeDiff, Nat.reduceEqDiff, Nat.reduceBEq]
        exact rfl
      case hq => trivial
      case hx =>
        intro hb2
        have hkl : k < ls.length := by simp at hb2; omega
        refine lok_skip ?_
        try simp only [thenL, blockL, ↓reduceIte]
        refine lok_seq ?_
        refine lok_block ?_
        apply lok_then E3
        case he =>
          simp only [go_sem, ↓reduceIte, reduceCtorEq, Nat.reduceAdd, Nat.reduceMul, Nat.reduceSub, Nat.reduceLT, Nat.reduceLeDiff, Nat.reduceEqDiff, Nat.reduceBEq, getD_map _ _ _ hkl]
          exact rfl
        case hv => first | trivial | omega | (simp; done) | (simp; omega)
        apply lok_cond
        case he =>
          simp only [go_sem, ↓reduceIte, reduceCtorEq, Nat.reduceAdd, Nat.reduceMul, Nat.reduceSub, Nat.reduceLT, Nat.reduceLeDiff, Nat.reduceEqDiff, Nat.reduceBEq]
          exact rfl
        case hq => trivial
        case hx =>
          intro hb3
          apply lok_last E3
          case he =>
            simp only [go_sem, ↓reduceIte, reduceCtorEq, Nat.reduceAdd, Nat.reduceMul, Nat.reduceSub, Nat.reduceLT, Nat.reduceLeDiff, Nat.reduceEqDiff, Nat.reduceBEq]
            exact rfl
          case hv => first | trivial | omega | (simp; done) | (simp; omega)
          try simp only [thenL, blockL, ↓reduceIte]
          apply lok_last E3
          case he =>
            simp only [go_sem, ↓reduceIte, reduceCtorEq, Nat.reduceAdd, Nat.reduceMul, Nat.reduceSub, Nat.reduceLT, Nat.reduceLeDiff, Nat.reduceEqDiff, Nat.reduceBEq]
            exact rfl
          case hv => first | trivial | omega | (simp; done) | (simp; omega)
          try simp only [thenL, blockL, ↓reduceIte]
          refine ⟨k + 1, by omega, by omega, ?_⟩
          refine imp_same rfl ?_ ?_ rfl rfl rfl <;> simp only [go_sem, ↓reduceIte, reduceCtorEq, Nat.reduceAdd, Nat.reduceMul, Nat.reduceSub, Nat.reduceLT, Nat.reduceLeDiff, Nat.reduceEqDiff, Nat.reduceBEq]
          · rw [wrap64 (by omega) (by omega)]; simp
          · rw [reasN_succ ls es c t hkl, if_pos (by simpa using hb3)]; simp [encN]
        case hy =>
          intro hb3
          refine lok_skip ?_
          try simp only [thenL, blockL, ↓reduceIte]
          apply lok_last E3
          case he =>
            simp only [go_sem, ↓reduceIte, reduceCtorEq, Nat.reduceAdd, Nat.reduceMul, Nat.reduceSub, Nat.reduceLT, Nat.reduceLeDiff, Nat.reduceEqDiff, Nat.reduceBEq]
            exact rfl
          case hv => first | trivial | omega | (simp; done) | (simp; omega)
          try simp only [thenL, blockL, ↓reduceIte]
          refine ⟨k + 1, by omega, by omega, ?_⟩
          refine imp_same rfl ?_ ?_ rfl rfl rfl <;> simp only [go_sem, ↓reduceIte, reduceCtorEq, Nat.reduceAdd, Nat.reduceMul, Nat.reduceSub, Nat.reduceLT, Nat.reduceLeDiff, Nat.reduceEqDiff, Nat.reduceBEq]
          · rw [wrap64 (by omega) (by omega)]; simp
          · rw [reasN_succ ls es c t hkl, if_neg (by simpa using hb3)]; simp
      case hy =>
        intro hb2
        have hkl : k = ls.length := by simp at hb2; omega
        refine lok_exit ?_
        try simp only [thenL, blockL, ↓reduceIte]
        apply lok_then E3
        case he =>
          simp only [go_sem, ↓reduceIte, reduceCtorEq, Nat.reduceAdd, Nat.reduceMul, Nat.reduceSub, Nat.reduceLT, Nat.reduceLeDiff, Nat.reduceEqDiff, Nat.reduceBEq]
          exact rfl
        case hv => first | trivial | omega | (simp; done) | (simp; omega)
        refine lok_ret ?_
        try simp only [thenL, blockL]
        apply fin_imp rfl (imp_freeze _ 109 1 ((reasN ls es c t k).map encN) (by simp only [go_sem, ↓reduceIte, reduceCtorEq, Nat.reduceAdd, Nat.reduceMul, Nat.reduceSub, Nat.reduceLT, Nat.reduceLeDiff, Nat.reduceEqDiff, Nat.reduceBEq]) (by decide))
        apply fin_here (L := []) _ (.inr rfl) (hL := rfl)
        case he =>
          simp only [go_sem, ↓reduceIte, reduceCtorEq, Nat.reduceAdd, Nat.reduceMul, Nat.reduceSub, Nat.reduceLT, Nat.reduceLeDiff, Nat.reduceEqDiff, Nat.reduceBEq]
          exact rfl
        case h1 => rfl
        case hb => rfl
        case h2 => rfl

        case hv => first | trivial | (simp; done)
        case hr =>
          have h : checkOf ls = 0 := by simpa using hb1
          subst hkl
          simp [reasonsOf, h, LV.map, renC]
end Go.LS
