import Derived.Test.YtdhhopobephbnaaW8
namespace Go.LS
set_option linter.all false
set_option linter.unusedSimpArgs false
set_option linter.unusedVariables false
open Go.Proofs
set_option maxRecDepth 20000
theorem or0F : ∀ k : _root_.Fin 64, orI 0 (k.val : Int) = k.val := by decide
theorem andF : ∀ k : _root_.Fin 64, (andI (k.val : Int) 24 != 0) = ((andI (k.val : Int) 8 != 0) || (andI (k.val : Int) 16 != 0)) := by decide
theorem small64 {n : Int} (h : 0 ≤ n) (h2 : n ≤ 63) : ∃ k : _root_.Fin 64, n = (k.val : Int) := ⟨⟨n.toNat, by omega⟩, by simp; omega⟩
theorem okAcc_iff {a b : Int} : okAcc a b = true ↔ 0 ≤ a ∧ a ≤ 100 ∧ 0 ≤ b ∧ b ≤ 63 := by
  simp [okAcc, and_assoc]
theorem implyOf_eq (a : Int × Int) : implyOf a = implyRef a := by
  unfold implyOf implyRef
  by_cases h : okAcc a.1 a.2 = true
  · obtain ⟨h1, h2, h3, h4⟩ := okAcc_iff.1 h
    obtain ⟨k, hk⟩ := small64 h3 h4
    have := andF k
    rw [← hk] at this
    simp only [h, this, Bool.or_eq_true, or_assoc]
  · simp only [Bool.not_eq_true] at h
    simp only [h, if_true]
theorem joinOf_eq (a b : Int × Int) : joinOf a b = joinRef a b := by
  unfold joinOf joinRef
  by_cases h : okAcc a.1 a.2 = false ∨ okAcc b.1 b.2 = false
  · rw [if_pos h, if_pos h]
  · rw [if_neg h, if_neg h]
    simp only [not_or, Bool.not_eq_false] at h
    obtain ⟨h1, h2, h3, h4⟩ := okAcc_iff.1 h.1
    obtain ⟨k, hk⟩ := small64 h3 h4
    have ho : orI 0 a.2 = a.2 := by rw [hk]; exact or0F k
    have hm : (if a.1 > 0 then a.1 else 0) = a.1 := by split <;> omega
    simp only [joinedOf, List.foldl, jo, ho, hm]
theorem ok10 (e n e2 n2 : Int) : CallOK Try.prog 10 [.int .i64 e, .int .i64 n, .int .i64 e2, .int .i64 n2] [] [.bool true] [] := by
  refine callOK (n := 62) (rs := [.tmp 8]) (nb := 0) (V := []) Try.func10 rfl (by kernel_rfl) rfl rfl rfl rfl (Nat.le_of_ble_eq_true rfl) rfl (by decide) ?_
  apply lok_then E6
  case he =>
    simp only [go_sem, ↓reduceIte, reduceCtorEq, Nat.reduceAdd, Nat.reduceMul, Nat.reduceSub, Nat.reduceLT, Nat.reduceLeDiff, Nat.reduceEqDiff, Nat.reduceBEq]
    exact rfl
  case hv => first | trivial | omega | (simp; done) | (simp; omega)
  apply lok_then E6
  case he =>
    simp only [go_sem, ↓reduceIte, reduceCtorEq, Nat.reduceAdd, Nat.reduceMul, Nat.reduceSub, Nat.reduceLT, Nat.reduceLeDiff, Nat.reduceEqDiff, Nat.reduceBEq]
    exact rfl
  case hv => first | trivial | omega | (simp; done) | (simp; omega)
  apply lok_then E6
  case he =>
    simp only [go_sem, ↓reduceIte, reduceCtorEq, Nat.reduceAdd, Nat.reduceMul, Nat.reduceSub, Nat.reduceLT, Nat.reduceLeDiff, Nat.reduceEqDiff, Nat.reduceBEq]
    exact rfl
  case hv => first | trivial | omega | (simp; done) | (simp; omega)
  apply lok_draw_then E6 34 (by kernel_rfl) (by kernel_rfl)
  case he =>
    simp only [go_sem, ↓reduceIte, reduceCtorEq, Nat.reduceAdd, Nat.reduceMul, Nat.reduceSub, Nat.reduceLT, Nat.reduceLeDiff, Nat.reduceEqDiff, Nat.reduceBEq, joinOf_eq, implyOf_eq]
    exact rfl
  case hv => first | trivial | omega | (simp; done) | (simp; omega)
  refine lok_ret ?_
  try simp only [thenL, blockL]
  apply fin_here (L := []) _ (.inr rfl) (hL := rfl)
  case he =>
    simp only [go_sem, ↓reduceIte, reduceCtorEq, Nat.reduceAdd, Nat.reduceMul, Nat.reduceSub, Nat.reduceLT, Nat.reduceLeDiff, Nat.reduceEqDiff, Nat.reduceBEq]
    exact rfl
  case h1 => rfl
  case hb => rfl
  case h2 => rfl

  case hv => first | trivial | (simp; done)
  case hr =>
    rfl
end Go.LS
