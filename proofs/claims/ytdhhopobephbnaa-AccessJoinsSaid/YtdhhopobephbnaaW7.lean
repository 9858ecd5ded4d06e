import Derived.Test.YtdhhopobephbnaaW6
import Derived.Test.YtdhhopobephbnaaLs24
namespace Go.LS
set_option linter.all false
set_option linter.unusedSimpArgs false
set_option linter.unusedVariables false
open Go.Proofs
set_option maxRecDepth 20000
theorem u38 : Try.prog.underlying 38 = some (.struct (Try.prog.fieldsOf 38)) := by kernel_rfl
theorem u3 : Try.prog.underlying 3 = some (.int .i64) := by kernel_rfl
theorem s38 : Try.prog.stoodInHeld 38 = false := by kernel_rfl
theorem q38 : Try.prog.eqGuardType Try.prog.depth 38 = false := by kernel_rfl
theorem pk3 : Try.prog.plainKey 3 = true := by kernel_rfl
theorem f38 : ((Try.prog.fieldsOf 38).toList.map fun f => (decide (f.name = "_"), f.type, f.offset)) = [(false, 3, 0), (false, 3, 1)] := by kernel_rfl
theorem eq38 : EqOK Try.prog 38 [.int .i64 0, .int .i64 0] := eqOK2 u38 u3 s38 q38 pk3 f38
def gGr (f : List Rule → List Ev → Int → Int → (Int × Int) × Int) : List LV → List Blk → CRes
  | [.one (.p (.sl 4 xs)), .one (.p (.sl 5 ys)), .one (.p (.val (.int .i64 u))), .one (.p (.val (.int .i64 v)))], [] => ⟨(xs.map decR).map encR = xs ∧ (ys.map decE).map encE = ys, [accL (f (xs.map decR) (ys.map decE) u v).1, .int .i64 (f (xs.map decR) (ys.map decE) u v).2], []⟩
  | _, _ => ⟨False, [], []⟩
theorem cGr {f : FuncId} {g : List Rule → List Ev → Int → Int → (Int × Int) × Int} (ok : ∀ ls es c t, CallOK Try.prog f [.one (.p (.sl 4 (ls.map encR))), .one (.p (.sl 5 (es.map encE))), .int .i64 c, .int .i64 t] [] [accL (g ls es c t).1, .int .i64 (g ls es c t).2] []) (a : List LV) (b : List Blk) (h : (gGr g a b).pre) : CallOK Try.prog f a b (gGr g a b).rets (gGr g a b).blks := by
  unfold gGr at h ⊢; split at h
  · rename_i xs ys u v
    have := ok (xs.map decR) (ys.map decE) u v; rw [h.1, h.2] at this; exact this
  · exact h.elim
def E5 : Env Try.prog := ((E4.addT 38 [.int .i64 0, .int .i64 0] eq38).add 19 (gGr grantOf) (cGr ok19)).add 20 (gGr grantRef) (cGr ok20)
attribute [go_sem] E5 gGr
theorem awakeG : grantOf [⟨1, 5, 25, 0⟩, ⟨2, 3, 0, 16⟩] [⟨1, 1, 6, 0, 9⟩, ⟨1, 2, 3, 0, 9⟩] 1 5 = ((25, 17), 0) := by decide
theorem awakeM : minutesOf 90 25 32 = (128, 0) := by decide
theorem ok16 : CallOK Try.prog 16 [] [] [.bool true] [] := by
  refine callOK (n := 37) (rs := [.tmp 0]) (nb := 0) (V := []) Try.func16 rfl (by kernel_rfl) rfl rfl rfl rfl (Nat.le_of_ble_eq_true rfl) rfl (by decide) ?_
  apply lok_then E5
  case he =>
    simp only [go_sem, ↓reduceIte, reduceCtorEq, Nat.reduceAdd, Nat.reduceMul, Nat.reduceSub, Nat.reduceLT, Nat.reduceLeDiff, Nat.reduceEqDiff, Nat.reduceBEq]
    exact rfl
  case hv => first | trivial | omega | (simp; done) | (simp; omega)
  apply lok_then E5
  case he =>
    simp only [go_sem, ↓reduceIte, reduceCtorEq, Nat.reduceAdd, Nat.reduceMul, Nat.reduceSub, Nat.reduceLT, Nat.reduceLeDiff, Nat.reduceEqDiff, Nat.reduceBEq]
    exact rfl
  case hv => first | trivial | omega | (simp; done) | (simp; omega)
  apply lok_then E5
  case he =>
    simp only [go_sem, ↓reduceIte, reduceCtorEq, Nat.reduceAdd, Nat.reduceMul, Nat.reduceSub, Nat.reduceLT, Nat.reduceLeDiff, Nat.reduceEqDiff, Nat.reduceBEq, awakeG]
    exact rfl
  case hv => first | trivial | omega | (simp; done) | (simp; omega)
  apply lok_then E5
  case he =>
    simp only [go_sem, ↓reduceIte, reduceCtorEq, Nat.reduceAdd, Nat.reduceMul, Nat.reduceSub, Nat.reduceLT, Nat.reduceLeDiff, Nat.reduceEqDiff, Nat.reduceBEq, awakeM]
    exact rfl
  case hv => first | trivial | omega | (simp; done) | (simp; omega)
  apply lok_then E5
  case he =>
    simp only [go_sem, ↓reduceIte, reduceCtorEq, Nat.reduceAdd, Nat.reduceMul, Nat.reduceSub, Nat.reduceLT, Nat.reduceLeDiff, Nat.reduceEqDiff, Nat.reduceBEq]
    exact rfl
  case hv => first | trivial | omega | (simp; done) | (simp; omega)
  refine lok_ret ?_
  try simp only [thenL, blockL]
  apply fin_here (L := []) _ (.inr rfl) (hL := rfl)
  case he =>
    simp only [go_sem, ↓reduceIte, reduceCtorEq, Nat.reduceAdd, Nat.reduceMul, Nat.reduceSub, Nat.reduceLT, Nat.reduceLeDiff, Nat.reduceEqDiff, Nat.reduceBEq]
    exact rfl
  case h1 => rfl
  case hb => rfl
  case h2 => rfl

  case hv => first | trivial | (simp; done)
  case hr =>
    rfl
end Go.LS
