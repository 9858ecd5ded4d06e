import Derived.Test.YtdhhopobephbnaaW3
namespace Go.LS
set_option linter.all false
set_option linter.unusedSimpArgs false
set_option linter.unusedVariables false
open Go.Proofs
set_option maxRecDepth 20000
def encA (a : Int × Int) : List PV := [pi a.1, pi a.2]
def decA : List PV → Int × Int
  | [.val (.int _ a), .val (.int _ b)] => (a, b)
  | _ => (0, 0)
theorem decA_map (ls : List (Int × Int)) : (ls.map encA).map decA = ls := by
  induction ls with
  | nil => rfl
  | cons a l ih => simp only [List.map_cons, ih]; rfl
structure Ev where
  cand : Int
  kind : Int
  level : Int
  frm : Int
  til : Int
deriving DecidableEq
def encE (e : Ev) : List PV := [pi e.cand, pi e.kind, pi e.level, pi e.frm, pi e.til]
def decE : List PV → Ev
  | [.val (.int _ a), .val (.int _ b), .val (.int _ c), .val (.int _ d), .val (.int _ e)] => ⟨a, b, c, d, e⟩
  | _ => ⟨0, 0, 0, 0, 0⟩
theorem decE_map (ls : List Ev) : (ls.map encE).map decE = ls := by
  induction ls with
  | nil => rfl
  | cons a l ih => simp only [List.map_cons, ih]; rfl

theorem ok15 (ls : List Rule) : CallOK Try.prog 15 [.one (.p (.sl 4 (ls.map encR)))] [] [.int .i64 (checkOf ls)] [] := by
  refine callOK (n := 37) (rs := [.tmp 2]) (nb := 0) (V := []) Try.func15 rfl (by kernel_rfl) rfl rfl rfl rfl (Nat.le_of_ble_eq_true rfl) rfl (by decide) ?_
  refine lok_len (t := 0) (e := 4) (xs := ls.map encR) rfl fun hlen => ?_
  rw [List.length_map] at hlen
  have hroom : huge = 9223372036854775807 := rfl
  apply lok_then E1
  case he =>
    simp only [go_sem, ↓reduceIte, reduceCtorEq, Nat.reduceAdd, Nat.reduceMul, Nat.reduceSub, Nat.reduceLT, Nat.reduceLeDiff, Nat.reduceEqDiff, Nat.reduceBEq]
    exact rfl
  case hv => first | trivial | omega | (simp; done) | (simp; omega)
  refine lok_seq ?_
  apply lok_then E1
  case he =>
    simp only [go_sem, ↓reduceIte, reduceCtorEq, Nat.reduceAdd, Nat.reduceMul, Nat.reduceSub, Nat.reduceLT, Nat.reduceLeDiff, Nat.reduceEqDiff, Nat.reduceBEq]
    exact rfl
  case hv => first | trivial | omega | (simp; done) | (simp; omega)
  apply lok_cond
  case he =>
    simp only [go_sem, ↓reduceIte, reduceCtorEq, Nat.reduceAdd, Nat.reduceMul, Nat.reduceSub, Nat.reduceLT, Nat.reduceLeDiff, Nat.reduceEqDiff, Nat.reduceBEq]
    exact rfl
  case hq => trivial
  case hx =>
    intro hb1
    apply lok_then E1
    case he =>
      simp only [go_sem, ↓reduceIte, reduceCtorEq, Nat.reduceAdd, Nat.reduceMul, Nat.reduceSub, Nat.reduceLT, Nat.reduceLeDiff, Nat.reduceEqDiff, Nat.reduceBEq]
      exact rfl
    case hv => first | trivial | omega | (simp; done) | (simp; omega)
    refine lok_ret ?_
    try simp only [thenL, blockL]
    apply fin_here (L := []) _ (.inr rfl) (hL := rfl)
    case he =>
      simp only [go_sem, ↓reduceIte, reduceCtorEq, Nat.reduceAdd, Nat.reduceMul, Nat.reduceSub, Nat.reduceLT, Nat.reduceLeDiff, Nat.reduceEqDiff, Nat.reduceBEq]
      exact rfl
    case h1 => rfl
    case hb => rfl
    case h2 => rfl

    case hv => first | trivial | (simp; done)
    case hr =>
      have : 12 < ls.length := by simp at hb1; omega
      simp [checkOf, this, LV.map, renC]
  case hy =>
    intro hb1
    have h12 : ls.length ≤ 12 := by simp at hb1; omega
    refine lok_skip ?_
    try simp only [thenL, blockL, ↓reduceIte]
    refine lok_seq ?_
    apply lok_then E1
    case he =>
      simp only [go_sem, ↓reduceIte, reduceCtorEq, Nat.reduceAdd, Nat.reduceMul, Nat.reduceSub, Nat.reduceLT, Nat.reduceLeDiff, Nat.reduceEqDiff, Nat.reduceBEq]
      exact rfl
    case hv => first | trivial | omega | (simp; done) | (simp; omega)
    refine lok_block ?_
    refine lok_loop_from (fun k : Nat => ⟨37, mkS [(0, .x (.one (.p (.sl 4 (ls.map encR))))), (3, .x (.int .i64 k))], mkH []⟩)
      (fun k : Nat => k ≤ ls.length ∧ (ls.take k).any badRule = false) (fun k : Nat => ls.length - k) 0 ?himp ⟨by omega, rfl⟩ ?round
    case himp =>
      refine imp_same rfl ?_ ?_ rfl rfl rfl <;> simp only [go_sem, ↓reduceIte, reduceCtorEq, Nat.reduceAdd, Nat.reduceMul, Nat.reduceSub, Nat.reduceLT, Nat.reduceLeDiff, Nat.reduceEqDiff, Nat.reduceBEq]
      all_goals rfl
    case round =>
      rintro k ⟨hk, hany⟩
      refine lok_seq ?_
      apply lok_then E1
      case he =>
        simp only [go_sem, ↓reduceIte, reduceCtorEq, Nat.reduceAdd, Nat.reduceMul, Nat.reduceSub, Nat.reduceLT, Nat.reduceLeDiff, Nat.reduceEqDiff, Nat.reduceBEq]
        exact rfl
      case hv => first | trivial | omega | (simp; done) | (simp; omega)
      apply lok_cond
      case he =>
        simp only [go_sem, ↓reduceIte, reduceCtorEq, Nat.reduceAdd, Nat.reduceMul, Nat.reduceSub, Nat.reduceLT, Nat.reduceLeDiff, Nat.reduceEqDiff, Nat.reduceBEq]
        exact rfl
      case hq => trivial
      case hx =>
        intro hb2
        have hkl : k < ls.length := by simp at hb2; omega
        refine lok_skip ?_
        try simp only [thenL, blockL, ↓reduceIte]
        refine lok_seq ?_
        refine lok_block ?_
        apply lok_then E1
        case he =>
          simp only [go_sem, ↓reduceIte, reduceCtorEq, Nat.reduceAdd, Nat.reduceMul, Nat.reduceSub, Nat.reduceLT, Nat.reduceLeDiff, Nat.reduceEqDiff, Nat.reduceBEq, getD_map _ _ _ hkl, encR]
          exact rfl
        case hv => simp; omega
        apply lok_then E1
        case he =>
          simp only [go_sem, ↓reduceIte, reduceCtorEq, Nat.reduceAdd, Nat.reduceMul, Nat.reduceSub, Nat.reduceLT, Nat.reduceLeDiff, Nat.reduceEqDiff, Nat.reduceBEq]
          exact rfl
        case hv => first | trivial | omega | (simp; done) | (simp; omega)
        apply lok_cond
        case he =>
          simp only [go_sem, ↓reduceIte, reduceCtorEq, Nat.reduceAdd, Nat.reduceMul, Nat.reduceSub, Nat.reduceLT, Nat.reduceLeDiff, Nat.reduceEqDiff, Nat.reduceBEq]
          exact rfl
        case hq => trivial
        case hx =>
          intro hb3
          have hbad : badRule ls[k] = true := by
            revert hb3; unfold badRule
            cases isDeg ls[k].kind <;> cases isDeg ls[k].least <;> simp
          apply lok_then E1
          case he =>
            simp only [go_sem, ↓reduceIte, reduceCtorEq, Nat.reduceAdd, Nat.reduceMul, Nat.reduceSub, Nat.reduceLT, Nat.reduceLeDiff, Nat.reduceEqDiff, Nat.reduceBEq]
            exact rfl
          case hv => first | trivial | omega | (simp; done) | (simp; omega)
          refine lok_ret ?_
          try simp only [thenL, blockL]
          apply fin_here (L := []) _ (.inr rfl) (hL := rfl)
          case he =>
            simp only [go_sem, ↓reduceIte, reduceCtorEq, Nat.reduceAdd, Nat.reduceMul, Nat.reduceSub, Nat.reduceLT, Nat.reduceLeDiff, Nat.reduceEqDiff, Nat.reduceBEq]
            exact rfl
          case h1 => rfl
          case hb => rfl
          case h2 => rfl

          case hv => first | trivial | (simp; done)
          case hr =>
            have : ls.any badRule = true := List.any_eq_true.2 ⟨ls[k], List.getElem_mem _, hbad⟩
            simp [checkOf, this, LV.map, renC]; omega
        case hy =>
          intro hb3
          have hbad : badRule ls[k] = false := by
            revert hb3; unfold badRule
            cases isDeg ls[k].kind <;> cases isDeg ls[k].least <;> simp
          refine lok_skip ?_
          try simp only [thenL, blockL, ↓reduceIte]
          apply lok_last E1
          case he =>
            simp only [go_sem, ↓reduceIte, reduceCtorEq, Nat.reduceAdd, Nat.reduceMul, Nat.reduceSub, Nat.reduceLT, Nat.reduceLeDiff, Nat.reduceEqDiff, Nat.reduceBEq]
            exact rfl
          case hv => first | trivial | omega | (simp; done) | (simp; omega)
          try simp only [thenL, blockL, ↓reduceIte]
          refine ⟨k + 1, ⟨by omega, by rw [any_take_succ badRule ls hkl hany, hbad]⟩, by omega, ?_⟩
          refine imp_same rfl ?_ ?_ rfl rfl rfl <;> simp only [go_sem, ↓reduceIte, reduceCtorEq, Nat.reduceAdd, Nat.reduceMul, Nat.reduceSub, Nat.reduceLT, Nat.reduceLeDiff, Nat.reduceEqDiff, Nat.reduceBEq]
          rw [wrap64 (by omega) (by omega)]
          simp
      case hy =>
        intro hb2
        have hkl : k = ls.length := by simp at hb2; omega
        refine lok_exit ?_
        try simp only [thenL, blockL, ↓reduceIte]
        apply lok_then E1
        case he =>
          simp only [go_sem, ↓reduceIte, reduceCtorEq, Nat.reduceAdd, Nat.reduceMul, Nat.reduceSub, Nat.reduceLT, Nat.reduceLeDiff, Nat.reduceEqDiff, Nat.reduceBEq]
          exact rfl
        case hv => first | trivial | omega | (simp; done) | (simp; omega)
        refine lok_ret ?_
        try simp only [thenL, blockL]
        apply fin_here (L := []) _ (.inr rfl) (hL := rfl)
        case he =>
          simp only [go_sem, ↓reduceIte, reduceCtorEq, Nat.reduceAdd, Nat.reduceMul, Nat.reduceSub, Nat.reduceLT, Nat.reduceLeDiff, Nat.reduceEqDiff, Nat.reduceBEq]
          exact rfl
        case h1 => rfl
        case hb => rfl
        case h2 => rfl

        case hv => first | trivial | (simp; done)
        case hr =>
          subst hkl
          rw [List.take_length] at hany
          simp [checkOf, hany, LV.map, renC]; omega

def jo (s a : Int × Int) : Int × Int := (if a.1 > s.1 then a.1 else s.1, orI s.2 a.2)
def joinedOf (l : List (Int × Int)) : Int × Int := l.foldl jo (0, 0)
theorem joinedOf_succ (l : List (Int × Int)) {k : Nat} (h : k < l.length) : joinedOf (l.take (k + 1)) = jo (joinedOf (l.take k)) l[k] := by
  unfold joinedOf
  rw [List.take_succ_eq_append_getElem h, List.foldl_append]; rfl

theorem ok43 (ls : List (Int × Int)) : CallOK Try.prog 43 [.one (.p (.sl 2 (ls.map encA)))] [] [accL (joinedOf ls)] [] := by
  refine callOK (n := 26) (rs := [.cell 2 38]) (nb := 0) (V := []) Try.func43 rfl (by kernel_rfl) rfl rfl rfl rfl (Nat.le_of_ble_eq_true rfl) rfl (by decide) ?_
  refine lok_len (t := 0) (e := 2) (xs := ls.map encA) rfl fun hlen => ?_
  rw [List.length_map] at hlen
  have hroom : huge = 9223372036854775807 := rfl
  apply lok_then E1
  case he =>
    simp only [go_sem, ↓reduceIte, reduceCtorEq, Nat.reduceAdd, Nat.reduceMul, Nat.reduceSub, Nat.reduceLT, Nat.reduceLeDiff, Nat.reduceEqDiff, Nat.reduceBEq]
    exact rfl
  case hv => first | trivial | omega | (simp; done) | (simp; omega)
  apply lok_then E1
  case he =>
    simp only [go_sem, ↓reduceIte, reduceCtorEq, Nat.reduceAdd, Nat.reduceMul, Nat.reduceSub, Nat.reduceLT, Nat.reduceLeDiff, Nat.reduceEqDiff, Nat.reduceBEq]
    exact rfl
  case hv => first | trivial | omega | (simp; done) | (simp; omega)
  refine lok_seq ?_
  apply lok_then E1
  case he =>
    simp only [go_sem, ↓reduceIte, reduceCtorEq, Nat.reduceAdd, Nat.reduceMul, Nat.reduceSub, Nat.reduceLT, Nat.reduceLeDiff, Nat.reduceEqDiff, Nat.reduceBEq]
    exact rfl
  case hv => first | trivial | omega | (simp; done) | (simp; omega)
  refine lok_block ?_
  refine lok_loop_from (fun k : Nat => ⟨26, mkS [(0, .x (.one (.p (.sl 2 (ls.map encA))))), (2, .x (.one (.ptr 102 0))), (3, .x (.one (.ptr 103 0))), (6, .x (.one (.p (.sl 2 (ls.map encA))))), (7, .x (.int .i64 ls.length)), (8, .x (.int .i64 k))], mkH [(102, .var [.p (pi 0), .p (pi 0)]), (103, .var [.p (pi (joinedOf (ls.take k)).1), .p (pi (joinedOf (ls.take k)).2)])]⟩)
    (fun k : Nat => k ≤ ls.length) (fun k : Nat => ls.length - k) 0 ?himp (by omega) ?round
  case himp =>
    refine imp_same rfl ?_ ?_ rfl rfl rfl <;> simp only [go_sem, ↓reduceIte, reduceCtorEq, Nat.reduceAdd, Nat.reduceMul, Nat.reduceSub, Nat.reduceLT, Nat.reduceLeDiff, Nat.reduceEqDiff, Nat.reduceBEq]
    all_goals rfl
  case round =>
    intro k hk
    apply lok_then E1
    case he =>
      simp only [go_sem, ↓reduceIte, reduceCtorEq, Nat.reduceAdd, Nat.reduceMul, Nat.reduceSub, Nat.reduceLT, Nat.reduceLeDiff, Nat.reduceEqDiff, Nat.reduceBEq]
      exact rfl
    case hv => first | trivial | omega | (simp; done) | (simp; omega)
    refine lok_seq ?_
    apply lok_cond
    case he =>
      simp only [go_sem, ↓reduceIte, reduceCtorEq, Nat.reduceAdd, Nat.reduceMul, Nat.reduceSub, Nat.reduceLT, Nat.reduceLeDiff, Nat.reduceEqDiff, Nat.reduceBEq]
      exact rfl
    case hq => trivial
    case hx =>
      intro hb1
      have hkl : k < ls.length := by simp at hb1; omega
      refine lok_skip ?_
      try simp only [thenL, blockL, ↓reduceIte]
      refine lok_seq ?_
      refine lok_block ?_
      apply lok_then E1
      case he =>
        simp only [go_sem, ↓reduceIte, reduceCtorEq, Nat.reduceAdd, Nat.reduceMul, Nat.reduceSub, Nat.reduceLT, Nat.reduceLeDiff, Nat.reduceEqDiff, Nat.reduceBEq, getD_map _ _ _ hkl, encA]
        exact rfl
      case hv => simp; omega
      apply lok_then E1
      case he =>
        simp only [go_sem, ↓reduceIte, reduceCtorEq, Nat.reduceAdd, Nat.reduceMul, Nat.reduceSub, Nat.reduceLT, Nat.reduceLeDiff, Nat.reduceEqDiff, Nat.reduceBEq]
        exact rfl
      case hv => first | trivial | omega | (simp; done) | (simp; omega)
      apply lok_last E1
      case he =>
        simp only [go_sem, ↓reduceIte, reduceCtorEq, Nat.reduceAdd, Nat.reduceMul, Nat.reduceSub, Nat.reduceLT, Nat.reduceLeDiff, Nat.reduceEqDiff, Nat.reduceBEq]
        exact rfl
      case hv => first | trivial | omega | (simp; done) | (simp; omega)
      try simp only [thenL, blockL, ↓reduceIte]
      apply lok_last E1
      case he =>
        simp only [go_sem, ↓reduceIte, reduceCtorEq, Nat.reduceAdd, Nat.reduceMul, Nat.reduceSub, Nat.reduceLT, Nat.reduceLeDiff, Nat.reduceEqDiff, Nat.reduceBEq]
        exact rfl
      case hv => first | trivial | omega | (simp; done) | (simp; omega)
      try simp only [thenL, blockL, ↓reduceIte]
      refine ⟨k + 1, by omega, by omega, ?_⟩
      refine imp_same rfl ?_ ?_ rfl rfl rfl <;> simp only [go_sem, ↓reduceIte, reduceCtorEq, Nat.reduceAdd, Nat.reduceMul, Nat.reduceSub, Nat.reduceLT, Nat.reduceLeDiff, Nat.reduceEqDiff, Nat.reduceBEq]
      · rw [wrap64 (by omega) (by omega)]; simp
      · rw [joinedOf_succ ls hkl]; rfl
    case hy =>
      intro hb1
      have hkl : k = ls.length := by simp at hb1; omega
      refine lok_exit ?_
      try simp only [thenL, blockL, ↓reduceIte]
      apply lok_then E1
      case he =>
        simp only [go_sem, ↓reduceIte, reduceCtorEq, Nat.reduceAdd, Nat.reduceMul, Nat.reduceSub, Nat.reduceLT, Nat.reduceLeDiff, Nat.reduceEqDiff, Nat.reduceBEq]
        exact rfl
      case hv => first | trivial | omega | (simp; done) | (simp; omega)
      refine lok_ret ?_
      try simp only [thenL, blockL]
      apply fin_here (L := []) _ (.inr rfl) (hL := rfl)
      case he =>
        simp only [go_sem, ↓reduceIte, reduceCtorEq, Nat.reduceAdd, Nat.reduceMul, Nat.reduceSub, Nat.reduceLT, Nat.reduceLeDiff, Nat.reduceEqDiff, Nat.reduceBEq]
        exact rfl
      case h1 => rfl
      case hb => rfl
      case h2 => rfl

      case hv => first | trivial | (simp; done)
      case hr =>
        subst hkl
        rw [List.take_length]
        rfl
def g43 : List LV → List Blk → CRes
  | [.one (.p (.sl 2 xs))], [] => ⟨(xs.map decA).map encA = xs, [accL (joinedOf (xs.map decA))], []⟩
  | _, _ => ⟨False, [], []⟩
def E2 : Env Try.prog := E1.add 43 g43 (by
  intro a b h; unfold g43 at h ⊢; split at h
  · have := ok43 ((‹List (List PV)›).map decA); rw [h] at this; exact this
  · exact h.elim)
attribute [go_sem] E2 g43 decA encA
def joinOf (a b : Int × Int) : Int × Int := if okAcc a.1 a.2 = false ∨ okAcc b.1 b.2 = false then (0, 0) else joinedOf [a, b]
theorem ok30 (a b : Int × Int) : CallOK Try.prog 30 [accL a, accL b] [] [accL (joinOf a b)] [] := by
  refine callOK (n := 18) (rs := [.cell 4 38]) (nb := 0) (V := []) Try.func30 rfl (by kernel_rfl) rfl rfl rfl rfl (Nat.le_of_ble_eq_true rfl) rfl (by decide) ?_
  apply lok_then E2
  case he =>
    simp only [go_sem, ↓reduceIte, reduceCtorEq, Nat.reduceAdd, Nat.reduceMul, Nat.reduceSub, Nat.reduceLT, Nat.reduceLeDiff, Nat.reduceEqDiff, Nat.reduceBEq]
    exact rfl
  case hv => first | trivial | omega | (simp; done) | (simp; omega)
  refine lok_seq ?_
  apply lok_then E2
  case he =>
    simp only [go_sem, ↓reduceIte, reduceCtorEq, Nat.reduceAdd, Nat.reduceMul, Nat.reduceSub, Nat.reduceLT, Nat.reduceLeDiff, Nat.reduceEqDiff, Nat.reduceBEq]
    exact rfl
  case hv => first | trivial | omega | (simp; done) | (simp; omega)
  apply lok_cond
  case he =>
    simp only [go_sem, ↓reduceIte, reduceCtorEq, Nat.reduceAdd, Nat.reduceMul, Nat.reduceSub, Nat.reduceLT, Nat.reduceLeDiff, Nat.reduceEqDiff, Nat.reduceBEq]
    exact rfl
  case hq => trivial
  case hx =>
    intro hb1
    apply lok_then E2
    case he =>
      simp only [go_sem, ↓reduceIte, reduceCtorEq, Nat.reduceAdd, Nat.reduceMul, Nat.reduceSub, Nat.reduceLT, Nat.reduceLeDiff, Nat.reduceEqDiff, Nat.reduceBEq]
      exact rfl
    case hv => first | trivial | omega | (simp; done) | (simp; omega)
    refine lok_ret ?_
    try simp only [thenL, blockL]
    apply fin_here (L := []) _ (.inr rfl) (hL := rfl)
    case he =>
      simp only [go_sem, ↓reduceIte, reduceCtorEq, Nat.reduceAdd, Nat.reduceMul, Nat.reduceSub, Nat.reduceLT, Nat.reduceLeDiff, Nat.reduceEqDiff, Nat.reduceBEq]
      exact rfl
    case h1 => rfl
    case hb => rfl
    case h2 => rfl

    case hv => first | trivial | (simp; done)
    case hr =>
      simp only [or_t, Bool.not_eq_true'] at hb1
      simp [joinOf, hb1, LV.map, renC]
  case hy =>
    intro hb1
    refine lok_skip ?_
    try simp only [thenL, blockL, ↓reduceIte]
    apply lok_then E2
    case he =>
      simp only [go_sem, ↓reduceIte, reduceCtorEq, Nat.reduceAdd, Nat.reduceMul, Nat.reduceSub, Nat.reduceLT, Nat.reduceLeDiff, Nat.reduceEqDiff, Nat.reduceBEq]
      exact rfl
    case hv => first | trivial | omega | (simp; done) | (simp; omega)
    refine lok_ret ?_
    try simp only [thenL, blockL]
    apply fin_here (L := []) _ (.inr rfl) (hL := rfl)
    case he =>
      simp only [go_sem, ↓reduceIte, reduceCtorEq, Nat.reduceAdd, Nat.reduceMul, Nat.reduceSub, Nat.reduceLT, Nat.reduceLeDiff, Nat.reduceEqDiff, Nat.reduceBEq]
      exact rfl
    case h1 => rfl
    case hb => rfl
    case h2 => rfl

    case hv => first | trivial | (simp; done)
    case hr =>
      simp only [or_f, Bool.not_eq_true'] at hb1
      simp only [joinOf, hb1, if_false, List.map, LV.map, renC]

def appE (r : Rule) (c t : Int) (e : Ev) : Bool := (e.cand == c) && isDeg e.kind && isDeg e.level && decide (e.frm ≤ t) && decide (t ≤ e.til) && (e.kind == r.kind) && decide (r.least ≤ e.level)
def appliesOf (r : Rule) (l : List Ev) (c t : Int) : Bool := l.any (appE r c t)
abbrev ruleL (r : Rule) : LV := .agg [.p (pi r.kind), .p (pi r.least), .p (pi r.extra), .p (pi r.needs)]
theorem ok45 (r : Rule) (ls : List Ev) (c t : Int) : CallOK Try.prog 45 [ruleL r, .one (.p (.sl 5 (ls.map encE))), .int .i64 c, .int .i64 t] [] [.bool (appliesOf r ls c t)] [] := by
  refine callOK (n := 58) (rs := [.tmp 8]) (nb := 0) (V := []) Try.func45 rfl (by kernel_rfl) rfl rfl rfl rfl (Nat.le_of_ble_eq_true rfl) rfl (by decide) ?_
  refine lok_len (t := 1) (e := 5) (xs := ls.map encE) rfl fun hlen => ?_
  rw [List.length_map] at hlen
  have hroom : huge = 9223372036854775807 := rfl
  apply lok_then E1
  case he =>
    simp only [go_sem, ↓reduceIte, reduceCtorEq, Nat.reduceAdd, Nat.reduceMul, Nat.reduceSub, Nat.reduceLT, Nat.reduceLeDiff, Nat.reduceEqDiff, Nat.reduceBEq]
    exact rfl
  case hv => first | trivial | omega | (simp; done) | (simp; omega)
  refine lok_seq ?_
  apply lok_then E1
  case he =>
    simp only [go_sem, ↓reduceIte, reduceCtorEq, Nat.reduceAdd, Nat.reduceMul, Nat.reduceSub, Nat.reduceLT, Nat.reduceLeDiff, Nat.reduceEqDiff, Nat.reduceBEq]
    exact rfl
  case hv => first | trivial | omega | (simp; done) | (simp; omega)
  refine lok_block ?_
  refine lok_loop_from (fun k : Nat => ⟨58, mkS [(2, .x (.int .i64 c)), (3, .x (.int .i64 t)), (4, .x (.one (.ptr 104 0))), (11, .x (.one (.p (.sl 5 (ls.map encE))))), (12, .x (.int .i64 ls.length)), (13, .x (.int .i64 k))], mkH [(104, .var [.p (pi r.kind), .p (pi r.least), .p (pi r.extra), .p (pi r.needs)])]⟩)
    (fun k : Nat => k ≤ ls.length ∧ (ls.take k).any (appE r c t) = false) (fun k : Nat => ls.length - k) 0 ?himp ⟨by omega, rfl⟩ ?round
  case himp =>
    refine imp_same rfl ?_ ?_ rfl rfl rfl <;> simp only [go_sem, ↓reduceIte, reduceCtorEq, Nat.reduceAdd, Nat.reduceMul, Nat.reduceSub, Nat.reduceLT, Nat.reduceLeDiff, Nat.reduceEqDiff, Nat.reduceBEq]
    all_goals rfl
  case round =>
    rintro k ⟨hk, hany⟩
    apply lok_then E1
    case he =>
      simp only [go_sem, ↓reduceIte, reduceCtorEq, Nat.reduceAdd, Nat.reduceMul, Nat.reduceSub, Nat.reduceLT, Nat.reduceLeDiff, Nat.reduceEqDiff, Nat.reduceBEq]
      exact rfl
    case hv => first | trivial | omega | (simp; done) | (simp; omega)
    refine lok_seq ?_
    apply lok_cond
    case he =>
      simp only [go_sem, ↓reduceIte, reduceCtorEq, Nat.reduceAdd, Nat.reduceMul, Nat.reduceSub, Nat.reduceLT, Nat.reduceLeDiff, Nat.reduceEqDiff, Nat.reduceBEq]
      exact rfl
    case hq => trivial
    case hx =>
      intro hb1
      have hkl : k < ls.length := by simp at hb1; omega
      refine lok_skip ?_
      try simp only [thenL, blockL, ↓reduceIte]
      refine lok_seq ?_
      refine lok_block ?_
      apply lok_then E1
      case he =>
        simp only [go_sem, ↓reduceIte, reduceCtorEq, Nat.reduceAdd, Nat.reduceMul, Nat.reduceSub, Nat.reduceLT, Nat.reduceLeDiff, Nat.reduceEqDiff, Nat.reduceBEq, getD_map _ _ _ hkl, encE]
        exact rfl
      case hv => simp; omega
      refine lok_seq ?_
      apply lok_then E1
      case he =>
        simp only [go_sem, ↓reduceIte, reduceCtorEq, Nat.reduceAdd, Nat.reduceMul, Nat.reduceSub, Nat.reduceLT, Nat.reduceLeDiff, Nat.reduceEqDiff, Nat.reduceBEq]
        exact rfl
      case hv => first | trivial | omega | (simp; done) | (simp; omega)
      apply lok_cond
      case he =>
        simp only [go_sem, ↓reduceIte, reduceCtorEq, Nat.reduceAdd, Nat.reduceMul, Nat.reduceSub, Nat.reduceLT, Nat.reduceLeDiff, Nat.reduceEqDiff, Nat.reduceBEq]
        exact rfl
      case hq => trivial
      case hx =>
        intro hb2
        have hbad : appE r c t ls[k] = false := by
          rw [← Bool.not_eq_true]; intro h
          simp only [appE, Bool.and_eq_true, beq_iff_eq, decide_eq_true_eq] at h
          simp only [or_t, bne_iff_ne, Bool.not_eq_true', decide_eq_true_eq] at hb2
          obtain ⟨⟨⟨⟨⟨⟨h1, h2⟩, h3⟩, h4⟩, h5⟩, h6⟩, h7⟩ := h
          simp only [h2, h3, Bool.true_eq_false, or_false] at hb2
          omega
        refine lok_exit ?_
        try simp only [thenL, blockL, ↓reduceIte]
        apply lok_last E1
        case he =>
          simp only [go_sem, ↓reduceIte, reduceCtorEq, Nat.reduceAdd, Nat.reduceMul, Nat.reduceSub, Nat.reduceLT, Nat.reduceLeDiff, Nat.reduceEqDiff, Nat.reduceBEq]
          exact rfl
        case hv => first | trivial | omega | (simp; done) | (simp; omega)
        try simp only [thenL, blockL, ↓reduceIte]
        refine ⟨k + 1, ⟨by omega, by rw [any_take_succ _ ls hkl hany, hbad]⟩, by omega, ?_⟩
        refine imp_same rfl ?_ ?_ rfl rfl rfl <;> simp only [go_sem, ↓reduceIte, reduceCtorEq, Nat.reduceAdd, Nat.reduceMul, Nat.reduceSub, Nat.reduceLT, Nat.reduceLeDiff, Nat.reduceEqDiff, Nat.reduceBEq]
        rw [wrap64 (by omega) (by omega)]; simp
      case hy =>
        intro hb2
        refine lok_skip ?_
        try simp only [thenL, blockL, ↓reduceIte]
        apply lok_then E1
        case he =>
          simp only [go_sem, ↓reduceIte, reduceCtorEq, Nat.reduceAdd, Nat.reduceMul, Nat.reduceSub, Nat.reduceLT, Nat.reduceLeDiff, Nat.reduceEqDiff, Nat.reduceBEq]
          exact rfl
        case hv => first | trivial | omega | (simp; done) | (simp; omega)
        apply lok_cond
        case he =>
          simp only [go_sem, ↓reduceIte, reduceCtorEq, Nat.reduceAdd, Nat.reduceMul, Nat.reduceSub, Nat.reduceLT, Nat.reduceLeDiff, Nat.reduceEqDiff, Nat.reduceBEq]
          exact rfl
        case hq => trivial
        case hx =>
          intro hb3
          have hbad : appE r c t ls[k] = true := by
            simp only [appE, Bool.and_eq_true, beq_iff_eq, decide_eq_true_eq]
            simp only [or_f, or_t, bne_iff_ne, Bool.not_eq_true', decide_eq_true_eq, not_or, Bool.not_eq_false] at hb2
            simp only [and_t, beq_iff_eq, decide_eq_true_eq] at hb3
            obtain ⟨⟨⟨⟨h1, h2⟩, h3⟩, h4⟩, h5⟩ := hb2
            exact ⟨⟨⟨⟨⟨⟨by omega, h2⟩, h3⟩, by omega⟩, by omega⟩, hb3.1⟩, hb3.2⟩
          apply lok_then E1
          case he =>
            simp only [go_sem, ↓reduceIte, reduceCtorEq, Nat.reduceAdd, Nat.reduceMul, Nat.reduceSub, Nat.reduceLT, Nat.reduceLeDiff, Nat.reduceEqDiff, Nat.reduceBEq]
            exact rfl
          case hv => first | trivial | omega | (simp; done) | (simp; omega)
          refine lok_ret ?_
          try simp only [thenL, blockL]
          apply fin_here (L := []) _ (.inr rfl) (hL := rfl)
          case he =>
            simp only [go_sem, ↓reduceIte, reduceCtorEq, Nat.reduceAdd, Nat.reduceMul, Nat.reduceSub, Nat.reduceLT, Nat.reduceLeDiff, Nat.reduceEqDiff, Nat.reduceBEq]
            exact rfl
          case h1 => rfl
          case hb => rfl
          case h2 => rfl

          case hv => first | trivial | (simp; done)
          case hr =>
            have : ls.any (appE r c t) = true := List.any_eq_true.2 ⟨ls[k], List.getElem_mem _, hbad⟩
            simp [appliesOf, this, LV.map, renC]
        case hy =>
          intro hb3
          have hbad : appE r c t ls[k] = false := by
            rw [← Bool.not_eq_true]; intro h
            simp only [appE, Bool.and_eq_true, beq_iff_eq, decide_eq_true_eq] at h
            simp only [and_f, beq_iff_eq, decide_eq_true_eq] at hb3
            exact hb3 ⟨h.1.2, h.2⟩
          refine lok_skip ?_
          try simp only [thenL, blockL, ↓reduceIte]
          apply lok_last E1
          case he =>
            simp only [go_sem, ↓reduceIte, reduceCtorEq, Nat.reduceAdd, Nat.reduceMul, Nat.reduceSub, Nat.reduceLT, Nat.reduceLeDiff, Nat.reduceEqDiff, Nat.reduceBEq]
            exact rfl
          case hv => first | trivial | omega | (simp; done) | (simp; omega)
          try simp only [thenL, blockL, ↓reduceIte]
          refine ⟨k + 1, ⟨by omega, by rw [any_take_succ _ ls hkl hany, hbad]⟩, by omega, ?_⟩
          refine imp_same rfl ?_ ?_ rfl rfl rfl <;> simp only [go_sem, ↓reduceIte, reduceCtorEq, Nat.reduceAdd, Nat.reduceMul, Nat.reduceSub, Nat.reduceLT, Nat.reduceLeDiff, Nat.reduceEqDiff, Nat.reduceBEq]
          rw [wrap64 (by omega) (by omega)]; simp
    case hy =>
      intro hb1
      have hkl : k = ls.length := by simp at hb1; omega
      refine lok_exit ?_
      try simp only [thenL, blockL, ↓reduceIte]
      apply lok_then E1
      case he =>
        simp only [go_sem, ↓reduceIte, reduceCtorEq, Nat.reduceAdd, Nat.reduceMul, Nat.reduceSub, Nat.reduceLT, Nat.reduceLeDiff, Nat.reduceEqDiff, Nat.reduceBEq]
        exact rfl
      case hv => first | trivial | omega | (simp; done) | (simp; omega)
      refine lok_ret ?_
      try simp only [thenL, blockL]
      apply fin_here (L := []) _ (.inr rfl) (hL := rfl)
      case he =>
        simp only [go_sem, ↓reduceIte, reduceCtorEq, Nat.reduceAdd, Nat.reduceMul, Nat.reduceSub, Nat.reduceLT, Nat.reduceLeDiff, Nat.reduceEqDiff, Nat.reduceBEq]
        exact rfl
      case h1 => rfl
      case hb => rfl
      case h2 => rfl

      case hv => first | trivial | (simp; done)
      case hr =>
        subst hkl
        rw [List.take_length] at hany
        simp [appliesOf, hany, LV.map, renC]
theorem ok44 (r : Rule) (ls : List Ev) (c t : Int) : CallOK Try.prog 44 [ruleL r, .one (.p (.sl 5 (ls.map encE))), .int .i64 c, .int .i64 t] [] [.bool (appliesOf r ls c t)] [] := by
  refine callOK (n := 61) (rs := [.tmp 8]) (nb := 0) (V := []) Try.func44 rfl (by kernel_rfl) rfl rfl rfl rfl (Nat.le_of_ble_eq_true rfl) rfl (by decide) ?_
  refine lok_len (t := 1) (e := 5) (xs := ls.map encE) rfl fun hlen => ?_
  rw [List.length_map] at hlen
  have hroom : huge = 9223372036854775807 := rfl
  apply lok_then E1
  case he =>
    simp only [go_sem, ↓reduceIte, reduceCtorEq, Nat.reduceAdd, Nat.reduceMul, Nat.reduceSub, Nat.reduceLT, Nat.reduceLeDiff, Nat.reduceEqDiff, Nat.reduceBEq]
    exact rfl
  case hv => first | trivial | omega | (simp; done) | (simp; omega)
  refine lok_seq ?_
  apply lok_then E1
  case he =>
    simp only [go_sem, ↓reduceIte, reduceCtorEq, Nat.reduceAdd, Nat.reduceMul, Nat.reduceSub, Nat.reduceLT, Nat.reduceLeDiff, Nat.reduceEqDiff, Nat.reduceBEq]
    exact rfl
  case hv => first | trivial | omega | (simp; done) | (simp; omega)
  refine lok_block ?_
  refine lok_loop_from (fun k : Nat => ⟨61, mkS [(1, .x (.one (.p (.sl 5 (ls.map encE))))), (2, .x (.int .i64 c)), (3, .x (.int .i64 t)), (4, .x (.one (.ptr 104 0))), (9, .x (.int .i64 k))], mkH [(104, .var [.p (pi r.kind), .p (pi r.least), .p (pi r.extra), .p (pi r.needs)])]⟩)
    (fun k : Nat => k ≤ ls.length ∧ (ls.take k).any (appE r c t) = false) (fun k : Nat => ls.length - k) 0 ?himp ⟨by omega, rfl⟩ ?round
  case himp =>
    refine imp_same rfl ?_ ?_ rfl rfl rfl <;> simp only [go_sem, ↓reduceIte, reduceCtorEq, Nat.reduceAdd, Nat.reduceMul, Nat.reduceSub, Nat.reduceLT, Nat.reduceLeDiff, Nat.reduceEqDiff, Nat.reduceBEq]
    all_goals rfl
  case round =>
    rintro k ⟨hk, hany⟩
    refine lok_seq ?_
    apply lok_then E1
    case he =>
      simp only [go_sem, ↓reduceIte, reduceCtorEq, Nat.reduceAdd, Nat.reduceMul, Nat.reduceSub, Nat.reduceLT, Nat.reduceLeDiff, Nat.reduceEqDiff, Nat.reduceBEq]
      exact rfl
    case hv => first | trivial | omega | (simp; done) | (simp; omega)
    apply lok_cond
    case he =>
      simp only [go_sem, ↓reduceIte, reduceCtorEq, Nat.reduceAdd, Nat.reduceMul, Nat.reduceSub, Nat.reduceLT, Nat.reduceLeDiff, Nat.reduceEqDiff, Nat.reduceBEq]
      exact rfl
    case hq => trivial
    case hx =>
      intro hb1
      have hkl : k < ls.length := by simp at hb1; omega
      refine lok_skip ?_
      try simp only [thenL, blockL, ↓reduceIte]
      refine lok_seq ?_
      refine lok_block ?_
      apply lok_then E1
      case he =>
        simp only [go_sem, ↓reduceIte, reduceCtorEq, Nat.reduceAdd, Nat.reduceMul, Nat.reduceSub, Nat.reduceLT, Nat.reduceLeDiff, Nat.reduceEqDiff, Nat.reduceBEq, getD_map _ _ _ hkl, encE]
        exact rfl
      case hv => simp; omega
      apply lok_then E1
      case he =>
        simp only [go_sem, ↓reduceIte, reduceCtorEq, Nat.reduceAdd, Nat.reduceMul, Nat.reduceSub, Nat.reduceLT, Nat.reduceLeDiff, Nat.reduceEqDiff, Nat.reduceBEq]
        exact rfl
      case hv => first | trivial | omega | (simp; done) | (simp; omega)
      apply lok_cond
      case he =>
        simp only [go_sem, ↓reduceIte, reduceCtorEq, Nat.reduceAdd, Nat.reduceMul, Nat.reduceSub, Nat.reduceLT, Nat.reduceLeDiff, Nat.reduceEqDiff, Nat.reduceBEq]
        exact rfl
      case hq => trivial
      case hx =>
        intro hb2
        have hbad : appE r c t ls[k] = true := by
          simp only [appE, Bool.and_eq_true, beq_iff_eq, decide_eq_true_eq]
          simp only [and_t, beq_iff_eq, decide_eq_true_eq] at hb2
          exact hb2
        apply lok_then E1
        case he =>
          simp only [go_sem, ↓reduceIte, reduceCtorEq, Nat.reduceAdd, Nat.reduceMul, Nat.reduceSub, Nat.reduceLT, Nat.reduceLeDiff, Nat.reduceEqDiff, Nat.reduceBEq]
          exact rfl
        case hv => first | trivial | omega | (simp; done) | (simp; omega)
        refine lok_ret ?_
        try simp only [thenL, blockL]
        apply fin_here (L := []) _ (.inr rfl) (hL := rfl)
        case he =>
          simp only [go_sem, ↓reduceIte, reduceCtorEq, Nat.reduceAdd, Nat.reduceMul, Nat.reduceSub, Nat.reduceLT, Nat.reduceLeDiff, Nat.reduceEqDiff, Nat.reduceBEq]
          exact rfl
        case h1 => rfl
        case hb => rfl
        case h2 => rfl

        case hv => first | trivial | (simp; done)
        case hr =>
          have : ls.any (appE r c t) = true := List.any_eq_true.2 ⟨ls[k], List.getElem_mem _, hbad⟩
          simp [appliesOf, this, LV.map, renC]
      case hy =>
        intro hb2
        have hbad : appE r c t ls[k] = false := by
          rw [← Bool.not_eq_true]; intro h
          simp only [appE, Bool.and_eq_true, beq_iff_eq, decide_eq_true_eq] at h
          simp only [and_f, and_t, beq_iff_eq, decide_eq_true_eq] at hb2
          exact hb2 h
        refine lok_skip ?_
        try simp only [thenL, blockL, ↓reduceIte]
        apply lok_last E1
        case he =>
          simp only [go_sem, ↓reduceIte, reduceCtorEq, Nat.reduceAdd, Nat.reduceMul, Nat.reduceSub, Nat.reduceLT, Nat.reduceLeDiff, Nat.reduceEqDiff, Nat.reduceBEq]
          exact rfl
        case hv => first | trivial | omega | (simp; done) | (simp; omega)
        try simp only [thenL, blockL, ↓reduceIte]
        refine ⟨k + 1, ⟨by omega, by rw [any_take_succ _ ls hkl hany, hbad]⟩, by omega, ?_⟩
        refine imp_same rfl ?_ ?_ rfl rfl rfl <;> simp only [go_sem, ↓reduceIte, reduceCtorEq, Nat.reduceAdd, Nat.reduceMul, Nat.reduceSub, Nat.reduceLT, Nat.reduceLeDiff, Nat.reduceEqDiff, Nat.reduceBEq]
        rw [wrap64 (by omega) (by omega)]; simp
    case hy =>
      intro hb1
      have hkl : k = ls.length := by simp at hb1; omega
      refine lok_exit ?_
      try simp only [thenL, blockL, ↓reduceIte]
      apply lok_then E1
      case he =>
        simp only [go_sem, ↓reduceIte, reduceCtorEq, Nat.reduceAdd, Nat.reduceMul, Nat.reduceSub, Nat.reduceLT, Nat.reduceLeDiff, Nat.reduceEqDiff, Nat.reduceBEq]
        exact rfl
      case hv => first | trivial | omega | (simp; done) | (simp; omega)
      refine lok_ret ?_
      try simp only [thenL, blockL]
      apply fin_here (L := []) _ (.inr rfl) (hL := rfl)
      case he =>
        simp only [go_sem, ↓reduceIte, reduceCtorEq, Nat.reduceAdd, Nat.reduceMul, Nat.reduceSub, Nat.reduceLT, Nat.reduceLeDiff, Nat.reduceEqDiff, Nat.reduceBEq]
        exact rfl
      case h1 => rfl
      case hb => rfl
      case h2 => rfl

      case hv => first | trivial | (simp; done)
      case hr =>
        subst hkl
        rw [List.take_length] at hany
        simp [appliesOf, hany, LV.map, renC]
end Go.LS
