import Derived.Test.YtdhhopobephbnaaW1
namespace Go.LS
set_option linter.all false
set_option linter.unusedSimpArgs false
set_option linter.unusedVariables false
open Go.Proofs
set_option maxRecDepth 20000

structure Rule where
  kind : Int
  least : Int
  extra : Int
  needs : Int
deriving DecidableEq
abbrev pi (n : Int) : PV := .val (.int .i64 n)
def encR (r : Rule) : List PV := [pi r.kind, pi r.least, pi r.extra, pi r.needs]
def decR : List PV → Rule
  | [.val (.int _ a), .val (.int _ b), .val (.int _ c), .val (.int _ d)] => ⟨a, b, c, d⟩
  | _ => ⟨0, 0, 0, 0⟩
theorem decR_encR (r : Rule) : decR (encR r) = r := rfl
theorem decR_map (ls : List Rule) : (ls.map encR).map decR = ls := by induction ls <;> simp_all [decR_encR]

def g38 : List LV → List Blk → CRes
  | [.one (.p (.val (.int .i64 n)))], [] => ⟨True, [.bool (isDeg n)], []⟩
  | _, _ => ⟨False, [], []⟩
def g39 : List LV → List Blk → CRes
  | [.agg [.p (.val (.int .i64 a)), .p (.val (.int .i64 b))]], [] => ⟨True, [.bool (okAcc a b)], []⟩
  | _, _ => ⟨False, [], []⟩
def E1 : Env Try.prog := (((E0.add 38 g38 (by intro a b h; unfold g38 at h ⊢; split at h <;> first | exact ok38 _ | exact h.elim)).add 40 g38 (by intro a b h; unfold g38 at h ⊢; split at h <;> first | exact ok40 _ | exact h.elim)).add
  39 g39 (by intro a b h; unfold g39 at h ⊢; split at h <;> first | exact ok39 _ _ | exact h.elim)).add 41 g39 (by intro a b h; unfold g39 at h ⊢; split at h <;> first | exact ok41 _ _ | exact h.elim)

attribute [go_sem] E1 Env.add_Γ Env.add_Θ g38 g39 List.length_map Int.toNat_natCast
def badRule (r : Rule) : Bool := !isDeg r.kind || !isDeg r.least || !okAcc r.extra r.needs
def checkOf (l : List Rule) : Int := if 12 < l.length then 3 else if l.any badRule then 2 else 0

theorem any_take_succ {α : Type} (p : α → Bool) (l : List α) {k : Nat} (h : k < l.length) (h0 : (l.take k).any p = false) : (l.take (k + 1)).any p = p l[k] := by
  rw [List.take_succ_eq_append_getElem h, List.any_append, h0]; simp

theorem ok14 (ls : List Rule) : CallOK Try.prog 14 [.one (.p (.sl 4 (ls.map encR)))] [] [.int .i64 (checkOf ls)] [] := by
  refine callOK (n := 34) (rs := [.tmp 2]) (nb := 0) (V := []) Try.func14 rfl (by kernel_rfl) rfl rfl rfl rfl (Nat.le_of_ble_eq_true rfl) rfl (by decide) ?_
  refine lok_len (t := 0) (e := 4) (xs := ls.map encR) rfl fun hlen => ?_
  rw [List.length_map] at hlen
  have hroom : huge = 9223372036854775807 := rfl
  apply lok_then E1
  case he =>
    simp only [go_sem, ↓reduceIte, reduceCtorEq, Nat.reduceAdd, Nat.reduceMul, Nat.reduceSub, Nat.reduceLT, Nat.reduceLeDiff, Nat.reduceEqDiff, Nat.reduceBEq]
    exact rfl
  case hv => trivial
  refine lok_seq ?_
  apply lok_then E1
  case he =>
    simp only [go_sem, ↓reduceIte, reduceCtorEq, Nat.reduceAdd, Nat.reduceMul, Nat.reduceSub, Nat.reduceLT, Nat.reduceLeDiff, Nat.reduceEqDiff, Nat.reduceBEq, List.length_map]
    exact rfl
  case hv => trivial
  apply lok_cond
  case he =>
    simp only [go_sem, ↓reduceIte, reduceCtorEq, Nat.reduceAdd, Nat.reduceMul, Nat.reduceSub, Nat.reduceLT, Nat.reduceLeDiff, Nat.reduceEqDiff, Nat.reduceBEq]
    exact rfl
  case hq => trivial
  case hx =>
    intro hb
    apply lok_then E1
    case he =>
      simp only [go_sem, ↓reduceIte, reduceCtorEq, Nat.reduceAdd, Nat.reduceMul, Nat.reduceSub, Nat.reduceLT, Nat.reduceLeDiff, Nat.reduceEqDiff, Nat.reduceBEq]
      exact rfl
    case hv => trivial
    refine lok_ret ?_
    simp only [thenL]
    apply fin_here (L := []) _ (.inr rfl) (hL := rfl)
    case he =>
      simp only [go_sem, ↓reduceIte, reduceCtorEq, Nat.reduceAdd, Nat.reduceMul, Nat.reduceSub, Nat.reduceLT, Nat.reduceLeDiff, Nat.reduceEqDiff, Nat.reduceBEq]
      exact rfl
    case h1 => rfl
    case hb => rfl
    case h2 => rfl

    case hv => trivial
    case hr =>
      have : 12 < ls.length := by simp at hb; omega
      simp [checkOf, this, LV.map, renC]
  case hy =>
  intro hb
  have h12 : ls.length ≤ 12 := by simp at hb; omega
  refine lok_skip_then ?_
  refine lok_seq ?_
  apply lok_then E1
  case he =>
    simp only [go_sem, ↓reduceIte, reduceCtorEq, Nat.reduceAdd, Nat.reduceMul, Nat.reduceSub, Nat.reduceLT, Nat.reduceLeDiff, Nat.reduceEqDiff, Nat.reduceBEq, List.length_map]
    exact rfl
  case hv => trivial
  refine lok_block ?_
  refine lok_loop_from (fun k : Nat => ⟨34, mkS [(0, .x (.one (.p (.sl 4 (ls.map encR))))), (8, .x (.one (.p (.sl 4 (ls.map encR))))), (9, .x (.int .i64 ls.length)), (10, .x (.int .i64 k))], mkH []⟩)
    (fun k => k ≤ ls.length ∧ (ls.take k).any badRule = false) (fun k => ls.length - k) 0 ?himp ⟨by omega, rfl⟩ ?round
  case himp =>
    refine imp_same rfl ?_ ?_ rfl rfl rfl <;> simp only [go_sem, ↓reduceIte, reduceCtorEq, Nat.reduceAdd, Nat.reduceMul, Nat.reduceSub, Nat.reduceLT, Nat.reduceLeDiff, Nat.reduceEqDiff, Nat.reduceBEq]
    all_goals rfl
  case round =>
  rintro k ⟨hk, hany⟩
  apply lok_then E1
  case he =>
    simp only [go_sem, ↓reduceIte, reduceCtorEq, Nat.reduceAdd, Nat.reduceMul, Nat.reduceSub, Nat.reduceLT, Nat.reduceLeDiff, Nat.reduceEqDiff, Nat.reduceBEq]
    exact rfl
  case hv => trivial
  refine lok_seq ?_
  apply lok_cond
  case he =>
    simp only [go_sem, ↓reduceIte, reduceCtorEq, Nat.reduceAdd, Nat.reduceMul, Nat.reduceSub, Nat.reduceLT, Nat.reduceLeDiff, Nat.reduceEqDiff, Nat.reduceBEq]
    exact rfl
  case hq => trivial
  case hy =>
    intro hb
    have hkl : k = ls.length := by simp at hb; omega
    refine lok_exit ?_
    simp only [thenL, blockL, ↓reduceIte]
    apply lok_then E1
    case he =>
      simp only [go_sem, ↓reduceIte, reduceCtorEq, Nat.reduceAdd, Nat.reduceMul, Nat.reduceSub, Nat.reduceLT, Nat.reduceLeDiff, Nat.reduceEqDiff, Nat.reduceBEq]
      exact rfl
    case hv => trivial
    refine lok_ret ?_
    apply fin_here (L := []) _ (.inr rfl) (hL := rfl)
    case he =>
      simp only [go_sem, ↓reduceIte, reduceCtorEq, Nat.reduceAdd, Nat.reduceMul, Nat.reduceSub, Nat.reduceLT, Nat.reduceLeDiff, Nat.reduceEqDiff, Nat.reduceBEq]
      exact rfl
    case h1 => rfl
    case hb => rfl
    case h2 => rfl

    case hv => trivial
    case hr =>
      subst hkl
      rw [List.take_length] at hany
      simp [checkOf, hany, LV.map, renC]; omega
  case hx =>
  intro hb
  have hkl : k < ls.length := by simp at hb; omega
  refine lok_skip_then ?_
  refine lok_seq (lok_block ?_)
  apply lok_then E1
  case he =>
    simp only [go_sem, ↓reduceIte, reduceCtorEq, Nat.reduceAdd, Nat.reduceMul, Nat.reduceSub, Nat.reduceLT, Nat.reduceLeDiff, Nat.reduceEqDiff, Nat.reduceBEq, getD_map _ _ _ hkl, Int.toNat_natCast, encR]
    exact rfl
  case hv => simp; omega
  apply lok_then E1
  case he =>
    simp only [go_sem, ↓reduceIte, reduceCtorEq, Nat.reduceAdd, Nat.reduceMul, Nat.reduceSub, Nat.reduceLT, Nat.reduceLeDiff, Nat.reduceEqDiff, Nat.reduceBEq]
    exact rfl
  case hv => simp
  apply lok_cond
  case he =>
    simp only [go_sem, ↓reduceIte, reduceCtorEq, Nat.reduceAdd, Nat.reduceMul, Nat.reduceSub, Nat.reduceLT, Nat.reduceLeDiff, Nat.reduceEqDiff, Nat.reduceBEq]
    exact rfl
  case hq => trivial
  case hx =>
    intro hb
    have hbad : badRule ls[k] = true := by
      revert hb; unfold badRule
      cases isDeg ls[k].kind <;> cases isDeg ls[k].least <;> simp
    apply lok_then E1
    case he =>
      simp only [go_sem, ↓reduceIte, reduceCtorEq, Nat.reduceAdd, Nat.reduceMul, Nat.reduceSub, Nat.reduceLT, Nat.reduceLeDiff, Nat.reduceEqDiff, Nat.reduceBEq]
      exact rfl
    case hv => trivial
    refine lok_ret ?_
    simp only [thenL, blockL]
    apply fin_here (L := []) _ (.inr rfl) (hL := rfl)
    case he =>
      simp only [go_sem, ↓reduceIte, reduceCtorEq, Nat.reduceAdd, Nat.reduceMul, Nat.reduceSub, Nat.reduceLT, Nat.reduceLeDiff, Nat.reduceEqDiff, Nat.reduceBEq]
      exact rfl
    case h1 => rfl
    case hb => rfl
    case h2 => rfl

    case hv => trivial
    case hr =>
      have : ls.any badRule = true := List.any_eq_true.2 ⟨ls[k], List.getElem_mem _, hbad⟩
      simp [checkOf, this, LV.map, renC]; omega
  case hy =>
  intro hb
  have hbad : badRule ls[k] = false := by
    revert hb; unfold badRule
    cases isDeg ls[k].kind <;> cases isDeg ls[k].least <;> simp
  refine lok_skip ?_
  simp only [thenL, blockL]
  apply lok_last E1
  case he =>
    simp only [go_sem, ↓reduceIte, reduceCtorEq, Nat.reduceAdd, Nat.reduceMul, Nat.reduceSub, Nat.reduceLT, Nat.reduceLeDiff, Nat.reduceEqDiff, Nat.reduceBEq]
    exact rfl
  case hv => trivial
  simp only [thenL]
  refine ⟨k + 1, ⟨by omega, by rw [any_take_succ badRule ls hkl hany, hbad]⟩, by omega, ?_⟩
  refine imp_same rfl ?_ ?_ rfl rfl rfl <;> simp only [go_sem, ↓reduceIte, reduceCtorEq, Nat.reduceAdd, Nat.reduceMul, Nat.reduceSub, Nat.reduceLT, Nat.reduceLeDiff, Nat.reduceEqDiff, Nat.reduceBEq]
  rw [wrap64 (by omega) (by omega)]
  simp
end Go.LS
