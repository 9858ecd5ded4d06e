import Derived.Test.YtdhhopobephbnaaLs22
import Derived.Test.YtdhhopobephbnaaProg
import Derived.KernelRfl
namespace Go.LS
set_option linter.all false
set_option linter.unusedSimpArgs false
set_option linter.unusedVariables false
open Go.Proofs
set_option maxRecDepth 20000
theorem ty3 : tyOf Try.prog 3 = ⟨1, 8, false, [.int .i64 0], [0], .int .i64⟩ := by kernel_rfl
theorem ty4 : tyOf Try.prog 4 = ⟨1, 1, false, [.bool false], [0], .bool⟩ := by kernel_rfl
theorem ty22 : tyOf Try.prog 22 = ⟨1, 24, false, [.slice none 0 0], [1], .sl 3⟩ := by kernel_rfl
theorem ty23 : tyOf Try.prog 23 = ⟨1, 24, false, [.slice none 0 0], [4], .sl 28⟩ := by kernel_rfl
theorem ty24 : (tyOf Try.prog 24) = ⟨1, 8, false, [.pointer none], [0], .other⟩ := by kernel_rfl
theorem ty28 : tyOf Try.prog 28 = ⟨4, 32, true, [.int .i64 0, .int .i64 0, .int .i64 0, .int .i64 0], [0, 0, 0, 0], .st [(0, 3), (1, 3), (2, 3), (3, 3)]⟩ := by kernel_rfl
theorem ty29 : tyOf Try.prog 29 = ⟨1, 8, false, [.int .i64 0], [0], .int .i64⟩ := by kernel_rfl
theorem ty35 : tyOf Try.prog 35 = ⟨1, 24, false, [.slice none 0 0], [5], .sl 49⟩ := by kernel_rfl
theorem ty38 : tyOf Try.prog 38 = ⟨2, 16, true, [.int .i64 0, .int .i64 0], [0, 0], .st [(0, 3), (1, 3)]⟩ := by kernel_rfl
theorem ty49 : tyOf Try.prog 49 = ⟨5, 40, true, [.int .i64 0, .int .i64 0, .int .i64 0, .int .i64 0, .int .i64 0], [0, 0, 0, 0, 0], .st [(0, 3), (1, 3), (2, 3), (3, 3), (4, 3)]⟩ := by kernel_rfl
theorem ty57 : tyOf Try.prog 57 = ⟨2, 32, true, [.slice none 0 0, .int .i64 0], [1, 0], .st [(0, 22), (1, 3)]⟩ := by kernel_rfl
theorem ty61 : tyOf Try.prog 61 = ⟨1, 24, false, [.slice none 0 0], [2], .sl 38⟩ := by kernel_rfl
attribute [go_sem] ty3 ty4 ty22 ty23 ty24 ty28 ty29 ty35 ty38 ty49 ty57 ty61
def E0 : Env Try.prog := ⟨fun _ _ _ => ⟨False, [], []⟩, fun _ => none, fun _ _ _ h => h.elim, fun _ _ h => nomatch h⟩
theorem E0Γ (f : FuncId) (l : List LV) (b : List Blk) : E0.Γ f l b = ⟨False, [], []⟩ := rfl
def isDeg (n : Int) : Bool := decide (1 ≤ n) && decide (n ≤ 9)

theorem ok38 (n : Int) : CallOK Try.prog 38 [.int .i64 n] [] [.bool (isDeg n)] [] := by
  refine callOK (n := 9) (rs := [.tmp 2]) (nb := 0) (V := []) Try.func38 rfl (by kernel_rfl) rfl rfl rfl rfl (Nat.le_of_ble_eq_true rfl) rfl (by decide) ?_
  apply lok_then E0
  case he =>
    simp only [go_sem, ↓reduceIte, reduceCtorEq, Nat.reduceAdd, Nat.reduceMul, Nat.reduceSub, Nat.reduceLT, Nat.reduceLeDiff, Nat.reduceEqDiff, Nat.reduceBEq]
    exact rfl
  case hv => trivial
  apply lok_then E0
  case he =>
    simp only [go_sem, ↓reduceIte, reduceCtorEq, Nat.reduceAdd, Nat.reduceMul, Nat.reduceSub, Nat.reduceLT, Nat.reduceLeDiff, Nat.reduceEqDiff, Nat.reduceBEq]
    exact rfl
  case hv => simp
  refine lok_ret ?_
  apply fin_here (L := []) _ (.inr rfl) (hL := rfl)
  case he =>
    simp only [go_sem, ↓reduceIte, reduceCtorEq, Nat.reduceAdd, Nat.reduceMul, Nat.reduceSub, Nat.reduceLT, Nat.reduceLeDiff, Nat.reduceEqDiff, Nat.reduceBEq]
    exact rfl
  case h1 => rfl
  case hb => rfl
  case h2 => rfl

  case hv => trivial
  simp [isDeg, LV.map, renC]
theorem ok40 (n : Int) : CallOK Try.prog 40 [.int .i64 n] [] [.bool (isDeg n)] [] := by
  refine callOK (n := 9) (rs := [.tmp 2]) (nb := 0) (V := []) Try.func40 rfl (by kernel_rfl) rfl rfl rfl rfl (Nat.le_of_ble_eq_true rfl) rfl (by decide) ?_
  apply lok_then E0
  case he =>
    simp only [go_sem, ↓reduceIte, reduceCtorEq, Nat.reduceAdd, Nat.reduceMul, Nat.reduceSub, Nat.reduceLT, Nat.reduceLeDiff, Nat.reduceEqDiff, Nat.reduceBEq]
    exact rfl
  case hv => trivial
  apply lok_then E0
  case he =>
    simp only [go_sem, ↓reduceIte, reduceCtorEq, Nat.reduceAdd, Nat.reduceMul, Nat.reduceSub, Nat.reduceLT, Nat.reduceLeDiff, Nat.reduceEqDiff, Nat.reduceBEq]
    exact rfl
  case hv => simp
  refine lok_ret ?_
  apply fin_here (L := []) _ (.inr rfl) (hL := rfl)
  case he =>
    simp only [go_sem, ↓reduceIte, reduceCtorEq, Nat.reduceAdd, Nat.reduceMul, Nat.reduceSub, Nat.reduceLT, Nat.reduceLeDiff, Nat.reduceEqDiff, Nat.reduceBEq]
    exact rfl
  case h1 => rfl
  case hb => rfl
  case h2 => rfl

  case hv => trivial
  simp [isDeg, LV.map, renC]
def okAcc (a b : Int) : Bool := decide (0 ≤ a) && decide (a ≤ 100) && decide (0 ≤ b) && decide (b ≤ 63)
theorem ok39 (a b : Int) : CallOK Try.prog 39 [.agg [.p (.val (.int .i64 a)), .p (.val (.int .i64 b))]] [] [.bool (okAcc a b)] [] := by
  refine callOK (n := 21) (rs := [.tmp 2]) (nb := 0) (V := []) Try.func39 rfl (by kernel_rfl) rfl rfl rfl rfl (Nat.le_of_ble_eq_true rfl) rfl (by decide) ?_
  apply lok_then E0
  case he =>
    simp only [go_sem, ↓reduceIte, reduceCtorEq, Nat.reduceAdd, Nat.reduceMul, Nat.reduceSub, Nat.reduceLT, Nat.reduceLeDiff, Nat.reduceEqDiff, Nat.reduceBEq]
    exact rfl
  case hv => trivial
  apply lok_then E0
  case he =>
    simp only [go_sem, ↓reduceIte, reduceCtorEq, Nat.reduceAdd, Nat.reduceMul, Nat.reduceSub, Nat.reduceLT, Nat.reduceLeDiff, Nat.reduceEqDiff, Nat.reduceBEq]
    exact rfl
  case hv => simp
  refine lok_ret ?_
  apply fin_here (L := []) _ (.inr rfl) (hL := rfl)
  case he =>
    simp only [go_sem, ↓reduceIte, reduceCtorEq, Nat.reduceAdd, Nat.reduceMul, Nat.reduceSub, Nat.reduceLT, Nat.reduceLeDiff, Nat.reduceEqDiff, Nat.reduceBEq]
    exact rfl
  case h1 => rfl
  case hb => rfl
  case h2 => rfl

  case hv => trivial
  case hr => by_cases h1 : 0 ≤ a <;> by_cases h2 : a ≤ 100 <;> by_cases h3 : 0 ≤ b <;> simp [okAcc, LV.map, renC, h1, h2, h3]
theorem ok41 (a b : Int) : CallOK Try.prog 41 [.agg [.p (.val (.int .i64 a)), .p (.val (.int .i64 b))]] [] [.bool (okAcc a b)] [] := by
  refine callOK (n := 21) (rs := [.tmp 2]) (nb := 0) (V := []) Try.func41 rfl (by kernel_rfl) rfl rfl rfl rfl (Nat.le_of_ble_eq_true rfl) rfl (by decide) ?_
  apply lok_then E0
  case he =>
    simp only [go_sem, ↓reduceIte, reduceCtorEq, Nat.reduceAdd, Nat.reduceMul, Nat.reduceSub, Nat.reduceLT, Nat.reduceLeDiff, Nat.reduceEqDiff, Nat.reduceBEq]
    exact rfl
  case hv => trivial
  apply lok_then E0
  case he =>
    simp only [go_sem, ↓reduceIte, reduceCtorEq, Nat.reduceAdd, Nat.reduceMul, Nat.reduceSub, Nat.reduceLT, Nat.reduceLeDiff, Nat.reduceEqDiff, Nat.reduceBEq]
    exact rfl
  case hv => simp
  refine lok_ret ?_
  apply fin_here (L := []) _ (.inr rfl) (hL := rfl)
  case he =>
    simp only [go_sem, ↓reduceIte, reduceCtorEq, Nat.reduceAdd, Nat.reduceMul, Nat.reduceSub, Nat.reduceLT, Nat.reduceLeDiff, Nat.reduceEqDiff, Nat.reduceBEq]
    exact rfl
  case h1 => rfl
  case hb => rfl
  case h2 => rfl

  case hv => trivial
  case hr => by_cases h1 : 0 ≤ a <;> by_cases h2 : a ≤ 100 <;> by_cases h3 : 0 ≤ b <;> simp [okAcc, LV.map, renC, h1, h2, h3]
end Go.LS
