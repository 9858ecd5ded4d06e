import Derived.Test.YtdhhopobephbnaaW5
namespace Go.LS
set_option linter.all false
set_option linter.unusedSimpArgs false
set_option linter.unusedVariables false
open Go.Proofs
set_option maxRecDepth 20000
def g22 : List LV → List Blk → CRes
  | [.one (.p (.sl 4 xs)), .one (.p (.sl 5 ys)), .one (.p (.val (.int .i64 u))), .one (.p (.val (.int .i64 v)))], [] => ⟨(xs.map decR).map encR = xs ∧ (ys.map decE).map encE = ys, [.one (.p (.sl 1 ((reasonsOf (xs.map decR) (ys.map decE) u v).map encN)))], []⟩
  | _, _ => ⟨False, [], []⟩
theorem c22 {f : FuncId} (ok : ∀ ls es c t, CallOK Try.prog f [.one (.p (.sl 4 (ls.map encR))), .one (.p (.sl 5 (es.map encE))), .int .i64 c, .int .i64 t] [] [.one (.p (.sl 1 ((reasonsOf ls es c t).map encN)))] []) (a : List LV) (b : List Blk) (h : (g22 a b).pre) : CallOK Try.prog f a b (g22 a b).rets (g22 a b).blks := by
  unfold g22 at h ⊢; split at h
  · rename_i xs ys u v
    have := ok (xs.map decR) (ys.map decE) u v; rw [h.1, h.2] at this; exact this
  · exact h.elim
def E4 : Env Try.prog := (E3.add 22 g22 (c22 ok22)).add 23 g22 (c22 ok23)
attribute [go_sem] E4 g22
def ruleAcc (ls : List Rule) (i : Nat) : Int × Int := match ls[i]? with | some r => (r.extra, r.needs) | none => (0, 0)
theorem ruleAcc_at (ls : List Rule) {i : Nat} (h : i < ls.length) : ruleAcc ls i = (ls[i].extra, ls[i].needs) := by simp [ruleAcc, h]
theorem reasons_lt {ls : List Rule} {es : List Ev} {c t : Int} {i : Nat} (h : i ∈ reasonsOf ls es c t) : i < ls.length := by
  unfold reasonsOf reasN at h
  split at h
  · cases h
  · exact List.mem_range.1 (List.mem_filter.1 h).1
theorem reasons_len (ls : List Rule) (es : List Ev) (c t : Int) : (reasonsOf ls es c t).length ≤ ls.length := by
  unfold reasonsOf
  split
  · simp
  · exact reasN_len ..
def accs (ls : List Rule) (es : List Ev) (c t : Int) (k : Nat) : List (Int × Int) := ((reasonsOf ls es c t).take k).map (ruleAcc ls)
theorem accs_succ (ls : List Rule) (es : List Ev) (c t : Int) {k : Nat} (h : k < (reasonsOf ls es c t).length) : accs ls es c t (k + 1) = accs ls es c t k ++ [ruleAcc ls (reasonsOf ls es c t)[k]] := by
  unfold accs
  rw [List.take_succ_eq_append_getElem h, List.map_append]; rfl
theorem accs_len (ls : List Rule) (es : List Ev) (c t : Int) (k : Nat) : (accs ls es c t k).length ≤ k := by simp [accs]; omega
def grantOf (ls : List Rule) (es : List Ev) (c t : Int) : (Int × Int) × Int := if checkOf ls ≠ 0 then ((0, 0), checkOf ls) else (implyOf (joinedOf ((reasonsOf ls es c t).map (ruleAcc ls))), 0)
theorem ok19 (ls : List Rule) (es : List Ev) (c t : Int) : CallOK Try.prog 19 [.one (.p (.sl 4 (ls.map encR))), .one (.p (.sl 5 (es.map encE))), .int .i64 c, .int .i64 t] [] [accL (grantOf ls es c t).1, .int .i64 (grantOf ls es c t).2] [] := by
  refine callOK (n := 48) (rs := [.cell 8 38, .tmp 9]) (nb := 0) (V := []) Try.func19 rfl (by kernel_rfl) rfl rfl rfl rfl (Nat.le_of_ble_eq_true rfl) rfl (by decide) ?_
  refine lok_len (t := 0) (e := 4) (xs := ls.map encR) rfl fun hlen => ?_
  rw [List.length_map] at hlen
  have hroom : huge = 9223372036854775807 := rfl
  have hRl := reasons_len ls es c t
  apply lok_then E4
  case he =>
    simp only [go_sem, ↓reduceIte, reduceCtorEq, Nat.reduceAdd, Nat.reduceMul, Nat.reduceSub, Nat.reduceLT, Nat.reduceLeDiff, Nat.reduceEqDiff, Nat.reduceBEq]
    exact rfl
  case hv => first | trivial | omega | (simp; done) | (simp; omega)
  refine lok_seq ?_
  apply lok_then E4
  case he =>
    simp only [go_sem, ↓reduceIte, reduceCtorEq, Nat.reduceAdd, Nat.reduceMul, Nat.reduceSub, Nat.reduceLT, Nat.reduceLeDiff, Nat.reduceEqDiff, Nat.reduceBEq]
    exact rfl
  case hv => first | trivial | omega | (simp; done) | (simp; omega)
  apply lok_then E4
  case he =>
    simp only [go_sem, ↓reduceIte, reduceCtorEq, Nat.reduceAdd, Nat.reduceMul, Nat.reduceSub, Nat.reduceLT, Nat.reduceLeDiff, Nat.reduceEqDiff, Nat.reduceBEq]
    exact rfl
  case hv => first | trivial | omega | (simp; done) | (simp; omega)
  apply lok_cond
  case he =>
    simp only [go_sem, ↓reduceIte, reduceCtorEq, Nat.reduceAdd, Nat.reduceMul, Nat.reduceSub, Nat.reduceLT, Nat.reduceLeDiff, Nat.reduceEqDiff, Nat.reduceBEq]
    exact rfl
  case hq => trivial
  case hx =>
    intro hb1
    apply lok_then E4
    case he =>
      simp only [go_sem, ↓reduceIte, reduceCtorEq, Nat.reduceAdd, Nat.reduceMul, Nat.reduceSub, Nat.reduceLT, Nat.reduceLeDiff, Nat.reduceEqDiff, Nat.reduceBEq]
      exact rfl
    case hv => first | trivial | omega | (simp; done) | (simp; omega)
    refine lok_ret ?_
    try simp only [thenL, blockL]
    apply fin_here (L := []) _ (.inr rfl) (hL := rfl)
    case he =>
      simp only [go_sem, ↓reduceIte, reduceCtorEq, Nat.reduceAdd, Nat.reduceMul, Nat.reduceSub, Nat.reduceLT, Nat.reduceLeDiff, Nat.reduceEqDiff, Nat.reduceBEq]
      exact rfl
    case h1 => rfl
    case hb => rfl
    case h2 => rfl

    case hv => first | trivial | (simp; done)
    case hr =>
      have h : checkOf ls ≠ 0 := by simpa using hb1
      simp only [grantOf, h, if_true, ne_eq, not_false_eq_true]
      rfl
  case hy =>
    intro hb1
    have h12 := checkOf_len (l := ls) (by simpa using hb1)
    refine lok_skip ?_
    try simp only [thenL, blockL, ↓reduceIte]
    apply lok_then E4
    case he =>
      simp only [go_sem, ↓reduceIte, reduceCtorEq, Nat.reduceAdd, Nat.reduceMul, Nat.reduceSub, Nat.reduceLT, Nat.reduceLeDiff, Nat.reduceEqDiff, Nat.reduceBEq]
      exact rfl
    case hv => first | trivial | omega | (simp; done) | (simp; omega)
    refine lok_seq ?_
    apply lok_then E4
    case he =>
      simp only [go_sem, ↓reduceIte, reduceCtorEq, Nat.reduceAdd, Nat.reduceMul, Nat.reduceSub, Nat.reduceLT, Nat.reduceLeDiff, Nat.reduceEqDiff, Nat.reduceBEq]
      exact rfl
    case hv => first | trivial | omega | (simp; done) | (simp; omega)
    refine lok_block ?_
    refine lok_loop_from (fun k : Nat => ⟨48, mkS [(0, .x (.one (.p (.sl 4 (ls.map encR))))), (8, .x (.one (.ptr 108 0))), (9, .x (.int .i64 0)), (11, .x (.one (.vw 111))), (24, .x (.one (.p (.sl 1 ((reasonsOf ls es c t).map encN))))), (25, .x (.int .i64 (reasonsOf ls es c t).length)), (26, .x (.int .i64 k))], mkH [(108, .var [.p (pi 0), .p (pi 0)]), (111, .arr 2 ((accs ls es c t k).map encA))]⟩)
      (fun k : Nat => k ≤ (reasonsOf ls es c t).length) (fun k : Nat => (reasonsOf ls es c t).length - k) 0 ?himp (by omega) ?round
    case himp =>
      refine imp_same rfl ?_ ?_ rfl rfl rfl <;> simp only [go_sem, ↓reduceIte, reduceCtorEq, Nat.reduceAdd, Nat.reduceMul, Nat.reduceSub, Nat.reduceLT, Nat.reduceLeDiff, Nat.reduceEqDiff, Nat.reduceBEq]
      all_goals rfl
    case round =>
      intro k hk
      have hN := accs_len ls es c t k
      apply lok_then E4
      case he =>
        simp only [go_sem, ↓reduceIte, reduceCtorEq, Nat.reduceAdd, Nat.reduceMul, Nat.reduceSub, Nat.reduceLT, Nat.reduceLeDiff, Nat.reduceEqDiff, Nat.reduceBEq]
        exact rfl
      case hv => first | trivial | omega | (simp; done) | (simp; omega)
      refine lok_seq ?_
      apply lok_cond
      case he =>
        simp only [go_sem, ↓reduceIte, reduceCtorEq, Nat.reduceAdd, Nat.reduceMul, Nat.reduceSub, Nat.reduceLT, Nat.reduceLeDiff, Nat.reduceEqDiff, Nat.reduceBEq]
        exact rfl
      case hq => trivial
      case hx =>
        intro hb2
        have hkl : k < (reasonsOf ls es c t).length := by simp at hb2; omega
        have hidx : (reasonsOf ls es c t)[k] < ls.length := reasons_lt (List.getElem_mem hkl)
        refine lok_skip ?_
        try simp only [thenL, blockL, ↓reduceIte]
        refine lok_seq ?_
        refine lok_block ?_
        apply lok_then E4
        case he =>
          simp only [go_sem, ↓reduceIte, reduceCtorEq, Nat.reduceAdd, Nat.reduceMul, Nat.reduceSub, Nat.reduceLT, Nat.reduceLeDiff, Nat.reduceEqDiff, Nat.reduceBEq, getD_map _ _ _ hkl, encN]
          exact rfl
        case hv => first | trivial | omega | (simp; done) | (simp; omega)
        apply lok_draw_last E4 13 (by kernel_rfl) (by kernel_rfl)
        case he =>
          simp only [go_sem, ↓reduceIte, reduceCtorEq, Nat.reduceAdd, Nat.reduceMul, Nat.reduceSub, Nat.reduceLT, Nat.reduceLeDiff, Nat.reduceEqDiff, Nat.reduceBEq, getD_map _ _ _ hidx]
          exact rfl
        case hv => first | trivial | omega | (simp; done) | (simp; omega)
        try simp only [thenL, blockL, ↓reduceIte]
        apply lok_last E4
        case he =>
          simp only [go_sem, ↓reduceIte, reduceCtorEq, Nat.reduceAdd, Nat.reduceMul, Nat.reduceSub, Nat.reduceLT, Nat.reduceLeDiff, Nat.reduceEqDiff, Nat.reduceBEq]
          exact rfl
        case hv => first | trivial | omega | (simp; done) | (simp; omega)
        try simp only [thenL, blockL, ↓reduceIte]
        refine ⟨k + 1, by omega, by omega, ?_⟩
        refine imp_same rfl ?_ ?_ rfl rfl rfl <;> simp only [go_sem, ↓reduceIte, reduceCtorEq, Nat.reduceAdd, Nat.reduceMul, Nat.reduceSub, Nat.reduceLT, Nat.reduceLeDiff, Nat.reduceEqDiff, Nat.reduceBEq]
        · rw [wrap64 (by omega) (by omega)]; simp
        · rw [accs_succ ls es c t hkl, ruleAcc_at ls hidx]; simp [encA]
      case hy =>
        intro hb2
        have hkl : k = (reasonsOf ls es c t).length := by simp at hb2; omega
        refine lok_exit ?_
        try simp only [thenL, blockL, ↓reduceIte]
        apply lok_then E4
        case he =>
          simp only [go_sem, ↓reduceIte, reduceCtorEq, Nat.reduceAdd, Nat.reduceMul, Nat.reduceSub, Nat.reduceLT, Nat.reduceLeDiff, Nat.reduceEqDiff, Nat.reduceBEq]
          exact rfl
        case hv => first | trivial | omega | (simp; done) | (simp; omega)
        refine lok_ret ?_
        try simp only [thenL, blockL]
        apply fin_here (L := []) _ (.inr rfl) (hL := rfl)
        case he =>
          simp only [go_sem, ↓reduceIte, reduceCtorEq, Nat.reduceAdd, Nat.reduceMul, Nat.reduceSub, Nat.reduceLT, Nat.reduceLeDiff, Nat.reduceEqDiff, Nat.reduceBEq]
          exact rfl
        case h1 => rfl
        case hb => rfl
        case h2 => rfl

        case hv => first | trivial | (simp; done)
        case hr =>
          have h : checkOf ls = 0 := by simpa using hb1
          subst hkl
          simp only [grantOf, h, if_false, ne_eq, not_true_eq_false, accs, List.take_length]
          rfl
def refN (ls : List Rule) (es : List Ev) (c t : Int) (k : Nat) : Int × Int := (ls.take k).foldl (fun a r => if appliesOf r es c t = true then joinRef a (r.extra, r.needs) else a) (0, 0)
theorem refN_succ (ls : List Rule) (es : List Ev) (c t : Int) {k : Nat} (h : k < ls.length) : refN ls es c t (k + 1) = if appliesOf ls[k] es c t = true then joinRef (refN ls es c t k) (ls[k].extra, ls[k].needs) else refN ls es c t k := by
  unfold refN
  rw [List.take_succ_eq_append_getElem h, List.foldl_append]; rfl
def grantRef (ls : List Rule) (es : List Ev) (c t : Int) : (Int × Int) × Int := if checkOf ls ≠ 0 then ((0, 0), checkOf ls) else (implyRef (refN ls es c t ls.length), 0)
theorem ok20 (ls : List Rule) (es : List Ev) (c t : Int) : CallOK Try.prog 20 [.one (.p (.sl 4 (ls.map encR))), .one (.p (.sl 5 (es.map encE))), .int .i64 c, .int .i64 t] [] [accL (grantRef ls es c t).1, .int .i64 (grantRef ls es c t).2] [] := by
  refine callOK (n := 48) (rs := [.cell 8 38, .tmp 9]) (nb := 0) (V := []) Try.func20 rfl (by kernel_rfl) rfl rfl rfl rfl (Nat.le_of_ble_eq_true rfl) rfl (by decide) ?_
  refine lok_len (t := 0) (e := 4) (xs := ls.map encR) rfl fun hlen => ?_
  rw [List.length_map] at hlen
  have hroom : huge = 9223372036854775807 := rfl
  apply lok_then E4
  case he =>
    simp only [go_sem, ↓reduceIte, reduceCtorEq, Nat.reduceAdd, Nat.reduceMul, Nat.reduceSub, Nat.reduceLT, Nat.reduceLeDiff, Nat.reduceEqDiff, Nat.reduceBEq]
    exact rfl
  case hv => first | trivial | omega | (simp; done) | (simp; omega)
  refine lok_seq ?_
  apply lok_then E4
  case he =>
    simp only [go_sem, ↓reduceIte, reduceCtorEq, Nat.reduceAdd, Nat.reduceMul, Nat.reduceSub, Nat.reduceLT, Nat.reduceLeDiff, Nat.reduceEqDiff, Nat.reduceBEq]
    exact rfl
  case hv => first | trivial | omega | (simp; done) | (simp; omega)
  apply lok_then E4
  case he =>
    simp only [go_sem, ↓reduceIte, reduceCtorEq, Nat.reduceAdd, Nat.reduceMul, Nat.reduceSub, Nat.reduceLT, Nat.reduceLeDiff, Nat.reduceEqDiff, Nat.reduceBEq]
    exact rfl
  case hv => first | trivial | omega | (simp; done) | (simp; omega)
  apply lok_cond
  case he =>
    simp only [go_sem, ↓reduceIte, reduceCtorEq, Nat.reduceAdd, Nat.reduceMul, Nat.reduceSub, Nat.reduceLT, Nat.reduceLeDiff, Nat.reduceEqDiff, Nat.reduceBEq]
    exact rfl
  case hq => trivial
  case hx =>
    intro hb1
    apply lok_then E4
    case he =>
      simp only [go_sem, ↓reduceIte, reduceCtorEq, Nat.reduceAdd, Nat.reduceMul, Nat.reduceSub, Nat.reduceLT, Nat.reduceLeDiff, Nat.reduceEqDiff, Nat.reduceBEq]
      exact rfl
    case hv => first | trivial | omega | (simp; done) | (simp; omega)
    refine lok_ret ?_
    try simp only [thenL, blockL]
    apply fin_here (L := []) _ (.inr rfl) (hL := rfl)
    case he =>
      simp only [go_sem, ↓reduceIte, reduceCtorEq, Nat.reduceAdd, Nat.reduceMul, Nat.reduceSub, Nat.reduceLT, Nat.reduceLeDiff, Nat.reduceEqDiff, Nat.reduceBEq]
      exact rfl
    case h1 => rfl
    case hb => rfl
    case h2 => rfl

    case hv => first | trivial | (simp; done)
    case hr =>
      have h : checkOf ls ≠ 0 := by simpa using hb1
      simp only [grantRef, h, if_true, ne_eq, not_false_eq_true]
      rfl
  case hy =>
    intro hb1
    have h12 := checkOf_len (l := ls) (by simpa using hb1)
    refine lok_skip ?_
    try simp only [thenL, blockL, ↓reduceIte]
    apply lok_then E4
    case he =>
      simp only [go_sem, ↓reduceIte, reduceCtorEq, Nat.reduceAdd, Nat.reduceMul, Nat.reduceSub, Nat.reduceLT, Nat.reduceLeDiff, Nat.reduceEqDiff, Nat.reduceBEq]
      exact rfl
    case hv => first | trivial | omega | (simp; done) | (simp; omega)
    refine lok_seq ?_
    apply lok_then E4
    case he =>
      simp only [go_sem, ↓reduceIte, reduceCtorEq, Nat.reduceAdd, Nat.reduceMul, Nat.reduceSub, Nat.reduceLT, Nat.reduceLeDiff, Nat.reduceEqDiff, Nat.reduceBEq]
      exact rfl
    case hv => first | trivial | omega | (simp; done) | (simp; omega)
    refine lok_block ?_
    refine lok_loop_from (fun k : Nat => ⟨48, mkS [(0, .x (.one (.p (.sl 4 (ls.map encR))))), (1, .x (.one (.p (.sl 5 (es.map encE))))), (2, .x (.int .i64 c)), (3, .x (.int .i64 t)), (8, .x (.one (.ptr 108 0))), (11, .x (.one (.ptr 111 0))), (12, .x (.int .i64 k))], mkH [(108, .var [.p (pi 0), .p (pi 0)]), (111, .var [.p (pi (refN ls es c t k).1), .p (pi (refN ls es c t k).2)])]⟩)
      (fun k : Nat => k ≤ ls.length) (fun k : Nat => ls.length - k) 0 ?himp (by omega) ?round
    case himp =>
      refine imp_same rfl ?_ ?_ rfl rfl rfl <;> simp only [go_sem, ↓reduceIte, reduceCtorEq, Nat.reduceAdd, Nat.reduceMul, Nat.reduceSub, Nat.reduceLT, Nat.reduceLeDiff, Nat.reduceEqDiff, Nat.reduceBEq]
      all_goals rfl
    case round =>
      intro k hk
      refine lok_seq ?_
      apply lok_then E4
      case he =>
        simp only [go_sem, ↓reduceIte, reduceCtorEq, Nat.reduceAdd, Nat.reduceMul, Nat.reduceSub, Nat.reduceLT, Nat.reduceLeDiff, Nat.reduceEqDiff, Nat.reduceBEq]
        exact rfl
      case hv => first | trivial | omega | (simp; done) | (simp; omega)
      apply lok_cond
      case he =>
        simp only [go_sem, ↓reduceIte, reduceCtorEq, Nat.reduceAdd, Nat.reduceMul, Nat.reduceSub, Nat.reduceLT, Nat.reduceLeDiff, Nat.reduceEqDiff, Nat.reduceBEq]
        exact rfl
      case hq => trivial
      case hx =>
        intro hb2
        have hkl : k < ls.length := by simp at hb2; omega
        refine lok_skip ?_
        try simp only [thenL, blockL, ↓reduceIte]
        refine lok_seq ?_
        refine lok_block ?_
        apply lok_then E4
        case he =>
          simp only [go_sem, ↓reduceIte, reduceCtorEq, Nat.reduceAdd, Nat.reduceMul, Nat.reduceSub, Nat.reduceLT, Nat.reduceLeDiff, Nat.reduceEqDiff, Nat.reduceBEq, getD_map _ _ _ hkl]
          exact rfl
        case hv => first | trivial | omega | (simp; done) | (simp; omega)
        apply lok_cond
        case he =>
          simp only [go_sem, ↓reduceIte, reduceCtorEq, Nat.reduceAdd, Nat.reduceMul, Nat.reduceSub, Nat.reduceLT, Nat.reduceLeDiff, Nat.reduceEqDiff, Nat.reduceBEq]
          exact rfl
        case hq => trivial
        case hx =>
          intro hb3
          apply lok_draw_last E4 13 (by kernel_rfl) (by kernel_rfl)
          case he =>
            simp only [go_sem, ↓reduceIte, reduceCtorEq, Nat.reduceAdd, Nat.reduceMul, Nat.reduceSub, Nat.reduceLT, Nat.reduceLeDiff, Nat.reduceEqDiff, Nat.reduceBEq, getD_map _ _ _ hkl]
            exact rfl
          case hv => first | trivial | omega | (simp; done) | (simp; omega)
          try simp only [thenL, blockL, ↓reduceIte]
          apply lok_last E4
          case he =>
            simp only [go_sem, ↓reduceIte, reduceCtorEq, Nat.reduceAdd, Nat.reduceMul, Nat.reduceSub, Nat.reduceLT, Nat.reduceLeDiff, Nat.reduceEqDiff, Nat.reduceBEq]
            exact rfl
          case hv => first | trivial | omega | (simp; done) | (simp; omega)
          try simp only [thenL, blockL, ↓reduceIte]
          refine ⟨k + 1, by omega, by omega, ?_⟩
          refine imp_same rfl ?_ ?_ rfl rfl rfl <;> simp only [go_sem, ↓reduceIte, reduceCtorEq, Nat.reduceAdd, Nat.reduceMul, Nat.reduceSub, Nat.reduceLT, Nat.reduceLeDiff, Nat.reduceEqDiff, Nat.reduceBEq]
          · rw [wrap64 (by omega) (by omega)]; simp
          · rw [refN_succ ls es c t hkl, if_pos (by simpa using hb3)]
        case hy =>
          intro hb3
          refine lok_skip ?_
          try simp only [thenL, blockL, ↓reduceIte]
          apply lok_last E4
          case he =>
            simp only [go_sem, ↓reduceIte, reduceCtorEq, Nat.reduceAdd, Nat.reduceMul, Nat.reduceSub, Nat.reduceLT, Nat.reduceLeDiff, Nat.reduceEqDiff, Nat.reduceBEq]
            exact rfl
          case hv => first | trivial | omega | (simp; done) | (simp; omega)
          try simp only [thenL, blockL, ↓reduceIte]
          refine ⟨k + 1, by omega, by omega, ?_⟩
          refine imp_same rfl ?_ ?_ rfl rfl rfl <;> simp only [go_sem, ↓reduceIte, reduceCtorEq, Nat.reduceAdd, Nat.reduceMul, Nat.reduceSub, Nat.reduceLT, Nat.reduceLeDiff, Nat.reduceEqDiff, Nat.reduceBEq]
          · rw [wrap64 (by omega) (by omega)]; simp
          · rw [refN_succ ls es c t hkl, if_neg (by simpa using hb3)]
      case hy =>
        intro hb2
        have hkl : k = ls.length := by simp at hb2; omega
        refine lok_exit ?_
        try simp only [thenL, blockL, ↓reduceIte]
        apply lok_then E4
        case he =>
          simp only [go_sem, ↓reduceIte, reduceCtorEq, Nat.reduceAdd, Nat.reduceMul, Nat.reduceSub, Nat.reduceLT, Nat.reduceLeDiff, Nat.reduceEqDiff, Nat.reduceBEq]
          exact rfl
        case hv => first | trivial | omega | (simp; done) | (simp; omega)
        refine lok_ret ?_
        try simp only [thenL, blockL]
        apply fin_here (L := []) _ (.inr rfl) (hL := rfl)
        case he =>
          simp only [go_sem, ↓reduceIte, reduceCtorEq, Nat.reduceAdd, Nat.reduceMul, Nat.reduceSub, Nat.reduceLT, Nat.reduceLeDiff, Nat.reduceEqDiff, Nat.reduceBEq]
          exact rfl
        case h1 => rfl
        case hb => rfl
        case h2 => rfl

        case hv => first | trivial | (simp; done)
        case hr =>
          have h : checkOf ls = 0 := by simpa using hb1
          subst hkl
          simp only [grantRef, h, if_false, ne_eq, not_true_eq_false]
          rfl
end Go.LS
