import Derived.Test.YtdhhopobephbnaaW8
namespace Go.LS
set_option linter.all false
set_option linter.unusedSimpArgs false
set_option linter.unusedVariables false
open Go.Proofs
set_option maxRecDepth 20000
theorem cut_range (x n : Int) (h : 1 ≤ n) (h2 : n ≤ 4611686018427387904) : 0 ≤ cutOf x n ∧ cutOf x n < n := by
  unfold cutOf
  rw [if_neg (by omega)]
  have h3 := Int.tmod_lt_of_pos x (show 0 < n by omega)
  have h4 : -n < x.tmod n := by
    have := Int.lt_tmod_of_pos x (show 0 < n by omega)
    exact this
  split
  · rw [wrap64 (by omega) (by omega)]; omega
  · omega
def one1 : Rule := ⟨1, 1, 0, 0⟩
theorem rep_snoc {α : Type} (n : Nat) (x : α) : List.replicate n x ++ [x] = List.replicate (n + 1) x := by
  rw [List.replicate_succ']
theorem ok4 (n : Int) : CallOK Try.prog 4 [.int .i64 n] [] [.bool true] [] := by
  refine callOK (n := 27) (rs := [.tmp 2]) (nb := 0) (V := []) Try.func4 rfl (by kernel_rfl) rfl rfl rfl rfl (Nat.le_of_ble_eq_true rfl) rfl (by decide) ?_
  have hc := cut_range n 5 (by omega) (by omega)
  apply lok_then E6
  case he =>
    simp only [go_sem, ↓reduceIte, reduceCtorEq, Nat.reduceAdd, Nat.reduceMul, Nat.reduceSub, Nat.reduceLT, Nat.reduceLeDiff, Nat.reduceEqDiff, Nat.reduceBEq]
    exact rfl
  case hv => first | trivial | omega | (simp; done) | (simp; omega)
  apply lok_then E6
  case he =>
    simp only [go_sem, ↓reduceIte, reduceCtorEq, Nat.reduceAdd, Nat.reduceMul, Nat.reduceSub, Nat.reduceLT, Nat.reduceLeDiff, Nat.reduceEqDiff, Nat.reduceBEq]
    exact rfl
  case hv => first | trivial | omega | (simp; done) | (simp; omega)
  refine lok_seq ?_
  apply lok_then E6
  case he =>
    simp only [go_sem, ↓reduceIte, reduceCtorEq, Nat.reduceAdd, Nat.reduceMul, Nat.reduceSub, Nat.reduceLT, Nat.reduceLeDiff, Nat.reduceEqDiff, Nat.reduceBEq]
    exact rfl
  case hv => first | trivial | omega | (simp; done) | (simp; omega)
  refine lok_block ?_
  refine lok_loop_from (fun k : Nat => ⟨27, mkS [(3, .x (.one (.vw 103))), (4, .x (.int .i64 k))], mkH [(103, .arr 4 ((List.replicate ((10 + cutOf n 5).toNat - k) one1).map encR))]⟩)
    (fun k : Nat => k ≤ (10 + cutOf n 5).toNat) (fun k : Nat => k) (10 + cutOf n 5).toNat ?himp (Nat.le_refl _) ?round
  case himp =>
    refine imp_same rfl ?_ ?_ rfl rfl rfl <;> simp only [go_sem, ↓reduceIte, reduceCtorEq, Nat.reduceAdd, Nat.reduceMul, Nat.reduceSub, Nat.reduceLT, Nat.reduceLeDiff, Nat.reduceEqDiff, Nat.reduceBEq]
    · rw [wrap64 (by omega) (by omega)]; simp; omega
    · simp
  case round =>
    intro k hk
    refine lok_seq ?_
    apply lok_then E6
    case he =>
      simp only [go_sem, ↓reduceIte, reduceCtorEq, Nat.reduceAdd, Nat.reduceMul, Nat.reduceSub, Nat.reduceLT, Nat.reduceLeDiff, Nat.reduceEqDiff, Nat.reduceBEq]
      exact rfl
    case hv => first | trivial | omega | (simp; done) | (simp; omega)
    apply lok_cond
    case he =>
      simp only [go_sem, ↓reduceIte, reduceCtorEq, Nat.reduceAdd, Nat.reduceMul, Nat.reduceSub, Nat.reduceLT, Nat.reduceLeDiff, Nat.reduceEqDiff, Nat.reduceBEq]
      exact rfl
    case hq => trivial
    case hx =>
      intro hb1
      refine lok_skip ?_
      try simp only [thenL, blockL, ↓reduceIte]
      refine lok_seq ?_
      refine lok_block ?_
      apply lok_last E6
      case he =>
        simp only [go_sem, ↓reduceIte, reduceCtorEq, Nat.reduceAdd, Nat.reduceMul, Nat.reduceSub, Nat.reduceLT, Nat.reduceLeDiff, Nat.reduceEqDiff, Nat.reduceBEq]
        exact rfl
      case hv => first | trivial | omega | (simp; done) | (simp; omega)
      try simp only [thenL, blockL, ↓reduceIte]
      apply lok_last E6
      case he =>
        simp only [go_sem, ↓reduceIte, reduceCtorEq, Nat.reduceAdd, Nat.reduceMul, Nat.reduceSub, Nat.reduceLT, Nat.reduceLeDiff, Nat.reduceEqDiff, Nat.reduceBEq]
        exact rfl
      case hv => first | trivial | omega | (simp; done) | (simp; omega)
      try simp only [thenL, blockL, ↓reduceIte]
      have hk1 : 1 ≤ k := by simp at hb1; omega
      refine ⟨k - 1, by omega, by omega, ?_⟩
      refine imp_same rfl ?_ ?_ rfl rfl rfl <;> simp only [go_sem, ↓reduceIte, reduceCtorEq, Nat.reduceAdd, Nat.reduceMul, Nat.reduceSub, Nat.reduceLT, Nat.reduceLeDiff, Nat.reduceEqDiff, Nat.reduceBEq]
      · rw [wrap64 (by omega) (by omega)]; simp; omega
      · rw [show (10 + cutOf n 5).toNat - (k - 1) = (10 + cutOf n 5).toNat - k + 1 by omega, ← rep_snoc, List.map_append]; rfl
    case hy =>
      intro hb1
      have hk0 : k = 0 := by simp at hb1; omega
      subst hk0
      refine lok_exit ?_
      try simp only [thenL, blockL, ↓reduceIte]
      apply lok_then E6
      case he =>
        simp only [go_sem, ↓reduceIte, reduceCtorEq, Nat.reduceAdd, Nat.reduceMul, Nat.reduceSub, Nat.reduceLT, Nat.reduceLeDiff, Nat.reduceEqDiff, Nat.reduceBEq]
        exact rfl
      case hv => first | trivial | omega | (simp; done) | (simp; omega)
      refine lok_seq ?_
      apply lok_then E6
      case he =>
        simp only [go_sem, ↓reduceIte, reduceCtorEq, Nat.reduceAdd, Nat.reduceMul, Nat.reduceSub, Nat.reduceLT, Nat.reduceLeDiff, Nat.reduceEqDiff, Nat.reduceBEq]
        exact rfl
      case hv => first | trivial | omega | (simp; done) | (simp; omega)
      apply lok_cond
      case he =>
        simp only [go_sem, ↓reduceIte, reduceCtorEq, Nat.reduceAdd, Nat.reduceMul, Nat.reduceSub, Nat.reduceLT, Nat.reduceLeDiff, Nat.reduceEqDiff, Nat.reduceBEq]
        exact rfl
      case hq => trivial
      case hx =>
        intro hb2
        apply lok_last E6
        case he =>
          simp only [go_sem, ↓reduceIte, reduceCtorEq, Nat.reduceAdd, Nat.reduceMul, Nat.reduceSub, Nat.reduceLT, Nat.reduceLeDiff, Nat.reduceEqDiff, Nat.reduceBEq]
          exact rfl
        case hv => first | trivial | omega | (simp; done) | (simp; omega)
        try simp only [thenL, blockL, ↓reduceIte]
        apply lok_then E6
        case he =>
          simp only [go_sem, ↓reduceIte, reduceCtorEq, Nat.reduceAdd, Nat.reduceMul, Nat.reduceSub, Nat.reduceLT, Nat.reduceLeDiff, Nat.reduceEqDiff, Nat.reduceBEq]
          exact rfl
        case hv => first | trivial | omega | (simp; done) | (simp; omega)
        refine lok_ret ?_
        try simp only [thenL, blockL]
        apply fin_here (L := []) _ (.inr rfl) (hL := rfl)
        case he =>
          simp only [go_sem, ↓reduceIte, reduceCtorEq, Nat.reduceAdd, Nat.reduceMul, Nat.reduceSub, Nat.reduceLT, Nat.reduceLeDiff, Nat.reduceEqDiff, Nat.reduceBEq]
          exact rfl
        case h1 => rfl
        case hb => rfl
        case h2 => rfl

        case hv => first | trivial | (simp; done)
        case hr =>
          have h : 12 < (10 + cutOf n 5).toNat := by simp at hb2; omega
          simp [checkOf, h, LV.map, renC]
      case hy =>
        intro hb2
        refine lok_skip ?_
        try simp only [thenL, blockL, ↓reduceIte]
        apply lok_then E6
        case he =>
          simp only [go_sem, ↓reduceIte, reduceCtorEq, Nat.reduceAdd, Nat.reduceMul, Nat.reduceSub, Nat.reduceLT, Nat.reduceLeDiff, Nat.reduceEqDiff, Nat.reduceBEq]
          exact rfl
        case hv => first | trivial | omega | (simp; done) | (simp; omega)
        refine lok_ret ?_
        try simp only [thenL, blockL]
        apply fin_here (L := []) _ (.inr rfl) (hL := rfl)
        case he =>
          simp only [go_sem, ↓reduceIte, reduceCtorEq, Nat.reduceAdd, Nat.reduceMul, Nat.reduceSub, Nat.reduceLT, Nat.reduceLeDiff, Nat.reduceEqDiff, Nat.reduceBEq]
          exact rfl
        case h1 => rfl
        case hb => rfl
        case h2 => rfl

        case hv => first | trivial | (simp; done)
        case hr =>
          have h : ¬ 12 < (10 + cutOf n 5).toNat := by simp at hb2; omega
          have hany : (List.replicate (10 + cutOf n 5).toNat one1).any badRule = false := by
            rw [List.any_eq_false]; intro x hx
            rw [(List.mem_replicate.1 hx).2]; decide
          simp [checkOf, h, hany, LV.map, renC]
end Go.LS
