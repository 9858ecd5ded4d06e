import Derived.Test.YtdhhopobephbnaaW2
namespace Go.LS
set_option linter.all false
set_option linter.unusedSimpArgs false
set_option linter.unusedVariables false
open Go.Proofs
set_option maxRecDepth 20000

theorem or_t {p : Prop} [Decidable p] {b : Bool} : ((if p then true else b) = true) ↔ (p ∨ b = true) := by by_cases h : p <;> simp [h]
theorem or_f {p : Prop} [Decidable p] {b : Bool} : ((if p then true else b) = false) ↔ ¬ (p ∨ b = true) := by by_cases h : p <;> simp [h]
theorem and_t {p : Prop} [Decidable p] {b : Bool} : ((if p then b else false) = true) ↔ (p ∧ b = true) := by by_cases h : p <;> simp [h]
theorem and_f {p : Prop} [Decidable p] {b : Bool} : ((if p then b else false) = false) ↔ ¬ (p ∧ b = true) := by by_cases h : p <;> simp [h]
def cutOf (x n : Int) : Int := if n < 1 then 0 else if x.tmod n < 0 then IntKind.i64.wrap (x.tmod n + n) else x.tmod n
theorem ok17 (x n : Int) : CallOK Try.prog 17 [.int .i64 x, .int .i64 n] [] [.int .i64 (cutOf x n)] [] := by
  refine callOK (n := 16) (rs := [.tmp 4]) (nb := 0) (V := []) Try.func17 rfl (by kernel_rfl) rfl rfl rfl rfl (Nat.le_of_ble_eq_true rfl) rfl (by decide) ?_
  apply lok_then E1
  case he =>
    simp only [go_sem, ↓reduceIte, reduceCtorEq, Nat.reduceAdd, Nat.reduceMul, Nat.reduceSub, Nat.reduceLT, Nat.reduceLeDiff, Nat.reduceEqDiff, Nat.reduceBEq]
    exact rfl
  case hv => first | trivial | omega | (simp; done) | (simp; omega)
  refine lok_seq ?_
  apply lok_then E1
  case he =>
    simp only [go_sem, ↓reduceIte, reduceCtorEq, Nat.reduceAdd, Nat.reduceMul, Nat.reduceSub, Nat.reduceLT, Nat.reduceLeDiff, Nat.reduceEqDiff, Nat.reduceBEq]
    exact rfl
  case hv => first | trivial | omega | (simp; done) | (simp; omega)
  apply lok_cond
  case he =>
    simp only [go_sem, ↓reduceIte, reduceCtorEq, Nat.reduceAdd, Nat.reduceMul, Nat.reduceSub, Nat.reduceLT, Nat.reduceLeDiff, Nat.reduceEqDiff, Nat.reduceBEq]
    exact rfl
  case hq => trivial
  case hx =>
    intro hb1
    apply lok_then E1
    case he =>
      simp only [go_sem, ↓reduceIte, reduceCtorEq, Nat.reduceAdd, Nat.reduceMul, Nat.reduceSub, Nat.reduceLT, Nat.reduceLeDiff, Nat.reduceEqDiff, Nat.reduceBEq]
      exact rfl
    case hv => first | trivial | omega | (simp; done) | (simp; omega)
    refine lok_ret ?_
    try simp only [thenL, blockL]
    apply fin_here (L := []) _ (.inr rfl) (hL := rfl)
    case he =>
      simp only [go_sem, ↓reduceIte, reduceCtorEq, Nat.reduceAdd, Nat.reduceMul, Nat.reduceSub, Nat.reduceLT, Nat.reduceLeDiff, Nat.reduceEqDiff, Nat.reduceBEq]
      exact rfl
    case h1 => rfl
    case hb => rfl
    case h2 => rfl

    case hv => first | trivial | (simp; done)
    case hr =>
      have h : n < 1 := by simpa using hb1
      simp [cutOf, h, LV.map, renC]
  case hy =>
    intro hb1
    refine lok_skip ?_
    try simp only [thenL, blockL, ↓reduceIte]
    apply lok_then E1
    case he =>
      simp only [go_sem, ↓reduceIte, reduceCtorEq, Nat.reduceAdd, Nat.reduceMul, Nat.reduceSub, Nat.reduceLT, Nat.reduceLeDiff, Nat.reduceEqDiff, Nat.reduceBEq]
      exact rfl
    case hv => simp at hb1 ⊢; omega
    refine lok_seq ?_
    apply lok_then E1
    case he =>
      simp only [go_sem, ↓reduceIte, reduceCtorEq, Nat.reduceAdd, Nat.reduceMul, Nat.reduceSub, Nat.reduceLT, Nat.reduceLeDiff, Nat.reduceEqDiff, Nat.reduceBEq]
      exact rfl
    case hv => first | trivial | omega | (simp; done) | (simp; omega)
    apply lok_cond
    case he =>
      simp only [go_sem, ↓reduceIte, reduceCtorEq, Nat.reduceAdd, Nat.reduceMul, Nat.reduceSub, Nat.reduceLT, Nat.reduceLeDiff, Nat.reduceEqDiff, Nat.reduceBEq]
      exact rfl
    case hq => trivial
    case hx =>
      intro hb2
      apply lok_last E1
      case he =>
        simp only [go_sem, ↓reduceIte, reduceCtorEq, Nat.reduceAdd, Nat.reduceMul, Nat.reduceSub, Nat.reduceLT, Nat.reduceLeDiff, Nat.reduceEqDiff, Nat.reduceBEq]
        exact rfl
      case hv => first | trivial | omega | (simp; done) | (simp; omega)
      try simp only [thenL, blockL, ↓reduceIte]
      apply lok_then E1
      case he =>
        simp only [go_sem, ↓reduceIte, reduceCtorEq, Nat.reduceAdd, Nat.reduceMul, Nat.reduceSub, Nat.reduceLT, Nat.reduceLeDiff, Nat.reduceEqDiff, Nat.reduceBEq]
        exact rfl
      case hv => first | trivial | omega | (simp; done) | (simp; omega)
      refine lok_ret ?_
      try simp only [thenL, blockL]
      apply fin_here (L := []) _ (.inr rfl) (hL := rfl)
      case he =>
        simp only [go_sem, ↓reduceIte, reduceCtorEq, Nat.reduceAdd, Nat.reduceMul, Nat.reduceSub, Nat.reduceLT, Nat.reduceLeDiff, Nat.reduceEqDiff, Nat.reduceBEq]
        exact rfl
      case h1 => rfl
      case hb => rfl
      case h2 => rfl

      case hv => first | trivial | (simp; done)
      case hr =>
        have h : ¬ n < 1 := by simpa using hb1
        have h2 := hb2
        simp at h2
        simp [cutOf, h, LV.map, renC]
        omega
    case hy =>
      intro hb2
      refine lok_skip ?_
      try simp only [thenL, blockL, ↓reduceIte]
      apply lok_then E1
      case he =>
        simp only [go_sem, ↓reduceIte, reduceCtorEq, Nat.reduceAdd, Nat.reduceMul, Nat.reduceSub, Nat.reduceLT, Nat.reduceLeDiff, Nat.reduceEqDiff, Nat.reduceBEq]
        exact rfl
      case hv => first | trivial | omega | (simp; done) | (simp; omega)
      refine lok_ret ?_
      try simp only [thenL, blockL]
      apply fin_here (L := []) _ (.inr rfl) (hL := rfl)
      case he =>
        simp only [go_sem, ↓reduceIte, reduceCtorEq, Nat.reduceAdd, Nat.reduceMul, Nat.reduceSub, Nat.reduceLT, Nat.reduceLeDiff, Nat.reduceEqDiff, Nat.reduceBEq]
        exact rfl
      case h1 => rfl
      case hb => rfl
      case h2 => rfl

      case hv => first | trivial | (simp; done)
      case hr =>
        have h : ¬ n < 1 := by simpa using hb1
        have h2 := hb2
        simp at h2
        simp [cutOf, h, LV.map, renC]
        omega

def orI (a b : Int) : Int := IntKind.i64.wrap ((BitVec.ofInt 64 a ||| BitVec.ofInt 64 b).toNat)
def andI (a b : Int) : Int := IntKind.i64.wrap ((BitVec.ofInt 64 a &&& BitVec.ofInt 64 b).toNat)
abbrev accL (a : Int × Int) : LV := .agg [.p (pi a.1), .p (pi a.2)]
def implyOf (a : Int × Int) : Int × Int := if okAcc a.1 a.2 = false then (0, 0) else if (andI a.2 24 != 0) = true ∨ 25 < a.1 then (a.1, orI a.2 1) else a
def implyRef (a : Int × Int) : Int × Int := if okAcc a.1 a.2 = false then (0, 0) else if (andI a.2 8 != 0) = true ∨ (andI a.2 16 != 0) = true ∨ 25 < a.1 then (a.1, orI a.2 1) else a
def joinRef (a b : Int × Int) : Int × Int := if okAcc a.1 a.2 = false ∨ okAcc b.1 b.2 = false then (0, 0) else (if b.1 > a.1 then b.1 else a.1, orI a.2 b.2)
def minutesRaw (base e n : Int) (q : Int) : Int :=
  if (andI n 32 != 0) = true then IntKind.i64.wrap (IntKind.i64.wrap (base + IntKind.i64.wrap ((IntKind.i64.wrap (IntKind.i64.wrap (base * e) + 99)).tdiv 100)) + IntKind.i64.wrap (5 * IntKind.i64.wrap (q.tdiv 30)))
  else IntKind.i64.wrap (base + IntKind.i64.wrap ((IntKind.i64.wrap (IntKind.i64.wrap (base * e) + 99)).tdiv 100))
def minutesOf (base e n : Int) : Int × Int :=
  if okAcc e n = false then (0, 1) else if base < 1 ∨ 600 < base then (0, 2) else (minutesRaw base e n (base + 29), 0)

theorem ok25 (b : Int) (a : Int × Int) : CallOK Try.prog 25 [.int .i64 b, accL a] [] [.int .i64 (minutesOf b a.1 a.2).1, .int .i64 (minutesOf b a.1 a.2).2] [] := by
  refine callOK (n := 36) (rs := [.tmp 4, .tmp 5]) (nb := 0) (V := []) Try.func25 rfl (by kernel_rfl) rfl rfl rfl rfl (Nat.le_of_ble_eq_true rfl) rfl (by decide) ?_
  apply lok_then E1
  case he =>
    simp only [go_sem, ↓reduceIte, reduceCtorEq, Nat.reduceAdd, Nat.reduceMul, Nat.reduceSub, Nat.reduceLT, Nat.reduceLeDiff, Nat.reduceEqDiff, Nat.reduceBEq]
    exact rfl
  case hv => first | trivial | omega | (simp; done) | (simp; omega)
  refine lok_seq ?_
  apply lok_then E1
  case he =>
    simp only [go_sem, ↓reduceIte, reduceCtorEq, Nat.reduceAdd, Nat.reduceMul, Nat.reduceSub, Nat.reduceLT, Nat.reduceLeDiff, Nat.reduceEqDiff, Nat.reduceBEq]
    exact rfl
  case hv => first | trivial | omega | (simp; done) | (simp; omega)
  apply lok_cond
  case he =>
    simp only [go_sem, ↓reduceIte, reduceCtorEq, Nat.reduceAdd, Nat.reduceMul, Nat.reduceSub, Nat.reduceLT, Nat.reduceLeDiff, Nat.reduceEqDiff, Nat.reduceBEq]
    exact rfl
  case hq => trivial
  case hx =>
    intro hb1
    apply lok_then E1
    case he =>
      simp only [go_sem, ↓reduceIte, reduceCtorEq, Nat.reduceAdd, Nat.reduceMul, Nat.reduceSub, Nat.reduceLT, Nat.reduceLeDiff, Nat.reduceEqDiff, Nat.reduceBEq]
      exact rfl
    case hv => first | trivial | omega | (simp; done) | (simp; omega)
    refine lok_ret ?_
    try simp only [thenL, blockL]
    apply fin_here (L := []) _ (.inr rfl) (hL := rfl)
    case he =>
      simp only [go_sem, ↓reduceIte, reduceCtorEq, Nat.reduceAdd, Nat.reduceMul, Nat.reduceSub, Nat.reduceLT, Nat.reduceLeDiff, Nat.reduceEqDiff, Nat.reduceBEq]
      exact rfl
    case h1 => rfl
    case hb => rfl
    case h2 => rfl

    case hv => first | trivial | (simp; done)
    case hr =>
      simp only [Bool.not_eq_true'] at hb1
      simp [minutesOf, hb1, LV.map, renC]
  case hy =>
    intro hb1
    refine lok_skip ?_
    try simp only [thenL, blockL, ↓reduceIte]
    refine lok_seq ?_
    apply lok_then E1
    case he =>
      simp only [go_sem, ↓reduceIte, reduceCtorEq, Nat.reduceAdd, Nat.reduceMul, Nat.reduceSub, Nat.reduceLT, Nat.reduceLeDiff, Nat.reduceEqDiff, Nat.reduceBEq]
      exact rfl
    case hv => first | trivial | omega | (simp; done) | (simp; omega)
    apply lok_cond
    case he =>
      simp only [go_sem, ↓reduceIte, reduceCtorEq, Nat.reduceAdd, Nat.reduceMul, Nat.reduceSub, Nat.reduceLT, Nat.reduceLeDiff, Nat.reduceEqDiff, Nat.reduceBEq]
      exact rfl
    case hq => trivial
    case hx =>
      intro hb2
      apply lok_then E1
      case he =>
        simp only [go_sem, ↓reduceIte, reduceCtorEq, Nat.reduceAdd, Nat.reduceMul, Nat.reduceSub, Nat.reduceLT, Nat.reduceLeDiff, Nat.reduceEqDiff, Nat.reduceBEq]
        exact rfl
      case hv => first | trivial | omega | (simp; done) | (simp; omega)
      refine lok_ret ?_
      try simp only [thenL, blockL]
      apply fin_here (L := []) _ (.inr rfl) (hL := rfl)
      case he =>
        simp only [go_sem, ↓reduceIte, reduceCtorEq, Nat.reduceAdd, Nat.reduceMul, Nat.reduceSub, Nat.reduceLT, Nat.reduceLeDiff, Nat.reduceEqDiff, Nat.reduceBEq]
        exact rfl
      case h1 => rfl
      case hb => rfl
      case h2 => rfl

      case hv => first | trivial | (simp; done)
      case hr =>
        rw [Bool.not_eq_false'] at hb1
        simp only [or_t, decide_eq_true_eq] at hb2
        simp [minutesOf, hb1, hb2, LV.map, renC]
    case hy =>
      intro hb2
      refine lok_skip ?_
      try simp only [thenL, blockL, ↓reduceIte]
      apply lok_then E1
      case he =>
        simp only [go_sem, ↓reduceIte, reduceCtorEq, Nat.reduceAdd, Nat.reduceMul, Nat.reduceSub, Nat.reduceLT, Nat.reduceLeDiff, Nat.reduceEqDiff, Nat.reduceBEq]
        exact rfl
      case hv => first | trivial | omega | (simp; done) | (simp; omega)
      refine lok_seq ?_
      apply lok_then E1
      case he =>
        simp only [go_sem, ↓reduceIte, reduceCtorEq, Nat.reduceAdd, Nat.reduceMul, Nat.reduceSub, Nat.reduceLT, Nat.reduceLeDiff, Nat.reduceEqDiff, Nat.reduceBEq]
        exact rfl
      case hv => first | trivial | omega | (simp; done) | (simp; omega)
      apply lok_cond
      case he =>
        simp only [go_sem, ↓reduceIte, reduceCtorEq, Nat.reduceAdd, Nat.reduceMul, Nat.reduceSub, Nat.reduceLT, Nat.reduceLeDiff, Nat.reduceEqDiff, Nat.reduceBEq]
        exact rfl
      case hq => trivial
      case hx =>
        intro hb3
        apply lok_last E1
        case he =>
          simp only [go_sem, ↓reduceIte, reduceCtorEq, Nat.reduceAdd, Nat.reduceMul, Nat.reduceSub, Nat.reduceLT, Nat.reduceLeDiff, Nat.reduceEqDiff, Nat.reduceBEq]
          exact rfl
        case hv => first | trivial | omega | (simp; done) | (simp; omega)
        try simp only [thenL, blockL, ↓reduceIte]
        apply lok_then E1
        case he =>
          simp only [go_sem, ↓reduceIte, reduceCtorEq, Nat.reduceAdd, Nat.reduceMul, Nat.reduceSub, Nat.reduceLT, Nat.reduceLeDiff, Nat.reduceEqDiff, Nat.reduceBEq]
          exact rfl
        case hv => first | trivial | omega | (simp; done) | (simp; omega)
        refine lok_ret ?_
        try simp only [thenL, blockL]
        apply fin_here (L := []) _ (.inr rfl) (hL := rfl)
        case he =>
          simp only [go_sem, ↓reduceIte, reduceCtorEq, Nat.reduceAdd, Nat.reduceMul, Nat.reduceSub, Nat.reduceLT, Nat.reduceLeDiff, Nat.reduceEqDiff, Nat.reduceBEq]
          exact rfl
        case h1 => rfl
        case hb => rfl
        case h2 => rfl

        case hv => first | trivial | (simp; done)
        case hr =>
          rw [Bool.not_eq_false'] at hb1
          simp only [or_f, decide_eq_true_eq] at hb2
          rw [wrap64 (n := b + 30) (by omega) (by omega), show b + 30 - 1 = b + 29 by omega, wrap64 (n := b + 29) (by omega) (by omega)]
          have hb3 : (andI a.2 32 != 0) = true := hb3
          simp only [minutesOf, minutesRaw, hb1, hb2, hb3, if_false, if_true, Bool.true_eq_false, List.map, LV.map, renC]
      case hy =>
        intro hb3
        refine lok_skip ?_
        try simp only [thenL, blockL, ↓reduceIte]
        apply lok_then E1
        case he =>
          simp only [go_sem, ↓reduceIte, reduceCtorEq, Nat.reduceAdd, Nat.reduceMul, Nat.reduceSub, Nat.reduceLT, Nat.reduceLeDiff, Nat.reduceEqDiff, Nat.reduceBEq]
          exact rfl
        case hv => first | trivial | omega | (simp; done) | (simp; omega)
        refine lok_ret ?_
        try simp only [thenL, blockL]
        apply fin_here (L := []) _ (.inr rfl) (hL := rfl)
        case he =>
          simp only [go_sem, ↓reduceIte, reduceCtorEq, Nat.reduceAdd, Nat.reduceMul, Nat.reduceSub, Nat.reduceLT, Nat.reduceLeDiff, Nat.reduceEqDiff, Nat.reduceBEq]
          exact rfl
        case h1 => rfl
        case hb => rfl
        case h2 => rfl

        case hv => first | trivial | (simp; done)
        case hr =>
          rw [Bool.not_eq_false'] at hb1
          simp only [or_f, decide_eq_true_eq] at hb2
          have hb3 : (andI a.2 32 != 0) = false := hb3
          simp only [minutesOf, minutesRaw, hb1, hb2, hb3, if_false, Bool.true_eq_false, Bool.false_eq_true, List.map, LV.map, renC]
theorem ok26 (b : Int) (a : Int × Int) : CallOK Try.prog 26 [.int .i64 b, accL a] [] [.int .i64 (minutesOf b a.1 a.2).1, .int .i64 (minutesOf b a.1 a.2).2] [] := by
  refine callOK (n := 35) (rs := [.tmp 4, .tmp 5]) (nb := 0) (V := []) Try.func26 rfl (by kernel_rfl) rfl rfl rfl rfl (Nat.le_of_ble_eq_true rfl) rfl (by decide) ?_
  apply lok_then E1
  case he =>
    simp only [go_sem, ↓reduceIte, reduceCtorEq, Nat.reduceAdd, Nat.reduceMul, Nat.reduceSub, Nat.reduceLT, Nat.reduceLeDiff, Nat.reduceEqDiff, Nat.reduceBEq]
    exact rfl
  case hv => first | trivial | omega | (simp; done) | (simp; omega)
  refine lok_seq ?_
  apply lok_then E1
  case he =>
    simp only [go_sem, ↓reduceIte, reduceCtorEq, Nat.reduceAdd, Nat.reduceMul, Nat.reduceSub, Nat.reduceLT, Nat.reduceLeDiff, Nat.reduceEqDiff, Nat.reduceBEq]
    exact rfl
  case hv => first | trivial | omega | (simp; done) | (simp; omega)
  apply lok_cond
  case he =>
    simp only [go_sem, ↓reduceIte, reduceCtorEq, Nat.reduceAdd, Nat.reduceMul, Nat.reduceSub, Nat.reduceLT, Nat.reduceLeDiff, Nat.reduceEqDiff, Nat.reduceBEq]
    exact rfl
  case hq => trivial
  case hx =>
    intro hb1
    apply lok_then E1
    case he =>
      simp only [go_sem, ↓reduceIte, reduceCtorEq, Nat.reduceAdd, Nat.reduceMul, Nat.reduceSub, Nat.reduceLT, Nat.reduceLeDiff, Nat.reduceEqDiff, Nat.reduceBEq]
      exact rfl
    case hv => first | trivial | omega | (simp; done) | (simp; omega)
    refine lok_ret ?_
    try simp only [thenL, blockL]
    apply fin_here (L := []) _ (.inr rfl) (hL := rfl)
    case he =>
      simp only [go_sem, ↓reduceIte, reduceCtorEq, Nat.reduceAdd, Nat.reduceMul, Nat.reduceSub, Nat.reduceLT, Nat.reduceLeDiff, Nat.reduceEqDiff, Nat.reduceBEq]
      exact rfl
    case h1 => rfl
    case hb => rfl
    case h2 => rfl

    case hv => first | trivial | (simp; done)
    case hr =>
      simp only [Bool.not_eq_true'] at hb1
      simp [minutesOf, hb1, LV.map, renC]
  case hy =>
    intro hb1
    refine lok_skip ?_
    try simp only [thenL, blockL, ↓reduceIte]
    refine lok_seq ?_
    apply lok_then E1
    case he =>
      simp only [go_sem, ↓reduceIte, reduceCtorEq, Nat.reduceAdd, Nat.reduceMul, Nat.reduceSub, Nat.reduceLT, Nat.reduceLeDiff, Nat.reduceEqDiff, Nat.reduceBEq]
      exact rfl
    case hv => first | trivial | omega | (simp; done) | (simp; omega)
    apply lok_cond
    case he =>
      simp only [go_sem, ↓reduceIte, reduceCtorEq, Nat.reduceAdd, Nat.reduceMul, Nat.reduceSub, Nat.reduceLT, Nat.reduceLeDiff, Nat.reduceEqDiff, Nat.reduceBEq]
      exact rfl
    case hq => trivial
    case hx =>
      intro hb2
      apply lok_then E1
      case he =>
        simp only [go_sem, ↓reduceIte, reduceCtorEq, Nat.reduceAdd, Nat.reduceMul, Nat.reduceSub, Nat.reduceLT, Nat.reduceLeDiff, Nat.reduceEqDiff, Nat.reduceBEq]
        exact rfl
      case hv => first | trivial | omega | (simp; done) | (simp; omega)
      refine lok_ret ?_
      try simp only [thenL, blockL]
      apply fin_here (L := []) _ (.inr rfl) (hL := rfl)
      case he =>
        simp only [go_sem, ↓reduceIte, reduceCtorEq, Nat.reduceAdd, Nat.reduceMul, Nat.reduceSub, Nat.reduceLT, Nat.reduceLeDiff, Nat.reduceEqDiff, Nat.reduceBEq]
        exact rfl
      case h1 => rfl
      case hb => rfl
      case h2 => rfl

      case hv => first | trivial | (simp; done)
      case hr =>
        rw [Bool.not_eq_false'] at hb1
        simp only [or_t, decide_eq_true_eq] at hb2
        simp [minutesOf, hb1, hb2, LV.map, renC]
    case hy =>
      intro hb2
      refine lok_skip ?_
      try simp only [thenL, blockL, ↓reduceIte]
      apply lok_then E1
      case he =>
        simp only [go_sem, ↓reduceIte, reduceCtorEq, Nat.reduceAdd, Nat.reduceMul, Nat.reduceSub, Nat.reduceLT, Nat.reduceLeDiff, Nat.reduceEqDiff, Nat.reduceBEq]
        exact rfl
      case hv => first | trivial | omega | (simp; done) | (simp; omega)
      refine lok_seq ?_
      apply lok_then E1
      case he =>
        simp only [go_sem, ↓reduceIte, reduceCtorEq, Nat.reduceAdd, Nat.reduceMul, Nat.reduceSub, Nat.reduceLT, Nat.reduceLeDiff, Nat.reduceEqDiff, Nat.reduceBEq]
        exact rfl
      case hv => first | trivial | omega | (simp; done) | (simp; omega)
      apply lok_cond
      case he =>
        simp only [go_sem, ↓reduceIte, reduceCtorEq, Nat.reduceAdd, Nat.reduceMul, Nat.reduceSub, Nat.reduceLT, Nat.reduceLeDiff, Nat.reduceEqDiff, Nat.reduceBEq]
        exact rfl
      case hq => trivial
      case hx =>
        intro hb3
        apply lok_last E1
        case he =>
          simp only [go_sem, ↓reduceIte, reduceCtorEq, Nat.reduceAdd, Nat.reduceMul, Nat.reduceSub, Nat.reduceLT, Nat.reduceLeDiff, Nat.reduceEqDiff, Nat.reduceBEq]
          exact rfl
        case hv => first | trivial | omega | (simp; done) | (simp; omega)
        try simp only [thenL, blockL, ↓reduceIte]
        apply lok_then E1
        case he =>
          simp only [go_sem, ↓reduceIte, reduceCtorEq, Nat.reduceAdd, Nat.reduceMul, Nat.reduceSub, Nat.reduceLT, Nat.reduceLeDiff, Nat.reduceEqDiff, Nat.reduceBEq]
          exact rfl
        case hv => first | trivial | omega | (simp; done) | (simp; omega)
        refine lok_ret ?_
        try simp only [thenL, blockL]
        apply fin_here (L := []) _ (.inr rfl) (hL := rfl)
        case he =>
          simp only [go_sem, ↓reduceIte, reduceCtorEq, Nat.reduceAdd, Nat.reduceMul, Nat.reduceSub, Nat.reduceLT, Nat.reduceLeDiff, Nat.reduceEqDiff, Nat.reduceBEq]
          exact rfl
        case h1 => rfl
        case hb => rfl
        case h2 => rfl

        case hv => first | trivial | (simp; done)
        case hr =>
          rw [Bool.not_eq_false'] at hb1
          simp only [or_f, decide_eq_true_eq] at hb2
          rw [wrap64 (n := b + 29) (by omega) (by omega)]
          have hb3 : (andI a.2 32 != 0) = true := hb3
          simp only [minutesOf, minutesRaw, hb1, hb2, hb3, if_false, if_true, Bool.true_eq_false, List.map, LV.map, renC]
      case hy =>
        intro hb3
        refine lok_skip ?_
        try simp only [thenL, blockL, ↓reduceIte]
        apply lok_then E1
        case he =>
          simp only [go_sem, ↓reduceIte, reduceCtorEq, Nat.reduceAdd, Nat.reduceMul, Nat.reduceSub, Nat.reduceLT, Nat.reduceLeDiff, Nat.reduceEqDiff, Nat.reduceBEq]
          exact rfl
        case hv => first | trivial | omega | (simp; done) | (simp; omega)
        refine lok_ret ?_
        try simp only [thenL, blockL]
        apply fin_here (L := []) _ (.inr rfl) (hL := rfl)
        case he =>
          simp only [go_sem, ↓reduceIte, reduceCtorEq, Nat.reduceAdd, Nat.reduceMul, Nat.reduceSub, Nat.reduceLT, Nat.reduceLeDiff, Nat.reduceEqDiff, Nat.reduceBEq]
          exact rfl
        case h1 => rfl
        case hb => rfl
        case h2 => rfl

        case hv => first | trivial | (simp; done)
        case hr =>
          rw [Bool.not_eq_false'] at hb1
          simp only [or_f, decide_eq_true_eq] at hb2
          have hb3 : (andI a.2 32 != 0) = false := hb3
          simp only [minutesOf, minutesRaw, hb1, hb2, hb3, if_false, Bool.true_eq_false, Bool.false_eq_true, List.map, LV.map, renC]
theorem ok32 (a : Int × Int) : CallOK Try.prog 32 [accL a] [] [accL (implyOf a)] [] := by
  refine callOK (n := 21) (rs := [.cell 2 38]) (nb := 0) (V := []) Try.func32 rfl (by kernel_rfl) rfl rfl rfl rfl (Nat.le_of_ble_eq_true rfl) rfl (by decide) ?_
  apply lok_then E1
  case he =>
    simp only [go_sem, ↓reduceIte, reduceCtorEq, Nat.reduceAdd, Nat.reduceMul, Nat.reduceSub, Nat.reduceLT, Nat.reduceLeDiff, Nat.reduceEqDiff, Nat.reduceBEq]
    exact rfl
  case hv => first | trivial | omega | (simp; done) | (simp; omega)
  refine lok_seq ?_
  apply lok_then E1
  case he =>
    simp only [go_sem, ↓reduceIte, reduceCtorEq, Nat.reduceAdd, Nat.reduceMul, Nat.reduceSub, Nat.reduceLT, Nat.reduceLeDiff, Nat.reduceEqDiff, Nat.reduceBEq]
    exact rfl
  case hv => first | trivial | omega | (simp; done) | (simp; omega)
  apply lok_cond
  case he =>
    simp only [go_sem, ↓reduceIte, reduceCtorEq, Nat.reduceAdd, Nat.reduceMul, Nat.reduceSub, Nat.reduceLT, Nat.reduceLeDiff, Nat.reduceEqDiff, Nat.reduceBEq]
    exact rfl
  case hq => trivial
  case hx =>
    intro hb1
    apply lok_then E1
    case he =>
      simp only [go_sem, ↓reduceIte, reduceCtorEq, Nat.reduceAdd, Nat.reduceMul, Nat.reduceSub, Nat.reduceLT, Nat.reduceLeDiff, Nat.reduceEqDiff, Nat.reduceBEq]
      exact rfl
    case hv => first | trivial | omega | (simp; done) | (simp; omega)
    refine lok_ret ?_
    try simp only [thenL, blockL]
    apply fin_here (L := []) _ (.inr rfl) (hL := rfl)
    case he =>
      simp only [go_sem, ↓reduceIte, reduceCtorEq, Nat.reduceAdd, Nat.reduceMul, Nat.reduceSub, Nat.reduceLT, Nat.reduceLeDiff, Nat.reduceEqDiff, Nat.reduceBEq]
      exact rfl
    case h1 => rfl
    case hb => rfl
    case h2 => rfl

    case hv => first | trivial | (simp; done)
    case hr =>
      simp only [Bool.not_eq_true'] at hb1
      simp [implyOf, hb1, LV.map, renC]
  case hy =>
    intro hb1
    refine lok_skip ?_
    try simp only [thenL, blockL, ↓reduceIte]
    refine lok_seq ?_
    apply lok_then E1
    case he =>
      simp only [go_sem, ↓reduceIte, reduceCtorEq, Nat.reduceAdd, Nat.reduceMul, Nat.reduceSub, Nat.reduceLT, Nat.reduceLeDiff, Nat.reduceEqDiff, Nat.reduceBEq]
      exact rfl
    case hv => first | trivial | omega | (simp; done) | (simp; omega)
    apply lok_cond
    case he =>
      simp only [go_sem, ↓reduceIte, reduceCtorEq, Nat.reduceAdd, Nat.reduceMul, Nat.reduceSub, Nat.reduceLT, Nat.reduceLeDiff, Nat.reduceEqDiff, Nat.reduceBEq]
      exact rfl
    case hq => trivial
    case hx =>
      intro hb2
      apply lok_last E1
      case he =>
        simp only [go_sem, ↓reduceIte, reduceCtorEq, Nat.reduceAdd, Nat.reduceMul, Nat.reduceSub, Nat.reduceLT, Nat.reduceLeDiff, Nat.reduceEqDiff, Nat.reduceBEq]
        exact rfl
      case hv => first | trivial | omega | (simp; done) | (simp; omega)
      try simp only [thenL, blockL, ↓reduceIte]
      apply lok_then E1
      case he =>
        simp only [go_sem, ↓reduceIte, reduceCtorEq, Nat.reduceAdd, Nat.reduceMul, Nat.reduceSub, Nat.reduceLT, Nat.reduceLeDiff, Nat.reduceEqDiff, Nat.reduceBEq]
        exact rfl
      case hv => first | trivial | omega | (simp; done) | (simp; omega)
      refine lok_ret ?_
      try simp only [thenL, blockL]
      apply fin_here (L := []) _ (.inr rfl) (hL := rfl)
      case he =>
        simp only [go_sem, ↓reduceIte, reduceCtorEq, Nat.reduceAdd, Nat.reduceMul, Nat.reduceSub, Nat.reduceLT, Nat.reduceLeDiff, Nat.reduceEqDiff, Nat.reduceBEq]
        exact rfl
      case h1 => rfl
      case hb => rfl
      case h2 => rfl

      case hv => first | trivial | (simp; done)
      case hr =>
        rw [Bool.not_eq_false'] at hb1
        simp only [or_t, decide_eq_true_eq] at hb2
        have hb2 : (andI a.2 24 != 0) = true ∨ 25 < a.1 := hb2
        simp only [implyOf, hb1, hb2, if_true, if_false, Bool.true_eq_false]
        rfl
    case hy =>
      intro hb2
      refine lok_skip ?_
      try simp only [thenL, blockL, ↓reduceIte]
      apply lok_then E1
      case he =>
        simp only [go_sem, ↓reduceIte, reduceCtorEq, Nat.reduceAdd, Nat.reduceMul, Nat.reduceSub, Nat.reduceLT, Nat.reduceLeDiff, Nat.reduceEqDiff, Nat.reduceBEq]
        exact rfl
      case hv => first | trivial | omega | (simp; done) | (simp; omega)
      refine lok_ret ?_
      try simp only [thenL, blockL]
      apply fin_here (L := []) _ (.inr rfl) (hL := rfl)
      case he =>
        simp only [go_sem, ↓reduceIte, reduceCtorEq, Nat.reduceAdd, Nat.reduceMul, Nat.reduceSub, Nat.reduceLT, Nat.reduceLeDiff, Nat.reduceEqDiff, Nat.reduceBEq]
        exact rfl
      case h1 => rfl
      case hb => rfl
      case h2 => rfl

      case hv => first | trivial | (simp; done)
      case hr =>
        rw [Bool.not_eq_false'] at hb1
        simp only [or_f, decide_eq_true_eq] at hb2
        have hb2 : ¬ ((andI a.2 24 != 0) = true ∨ 25 < a.1) := hb2
        simp only [implyOf, hb1, hb2, if_false, Bool.true_eq_false]
        rfl
theorem ok33 (a : Int × Int) : CallOK Try.prog 33 [accL a] [] [accL (implyRef a)] [] := by
  refine callOK (n := 27) (rs := [.cell 2 38]) (nb := 0) (V := []) Try.func33 rfl (by kernel_rfl) rfl rfl rfl rfl (Nat.le_of_ble_eq_true rfl) rfl (by decide) ?_
  apply lok_then E1
  case he =>
    simp only [go_sem, ↓reduceIte, reduceCtorEq, Nat.reduceAdd, Nat.reduceMul, Nat.reduceSub, Nat.reduceLT, Nat.reduceLeDiff, Nat.reduceEqDiff, Nat.reduceBEq]
    exact rfl
  case hv => first | trivial | omega | (simp; done) | (simp; omega)
  refine lok_seq ?_
  apply lok_then E1
  case he =>
    simp only [go_sem, ↓reduceIte, reduceCtorEq, Nat.reduceAdd, Nat.reduceMul, Nat.reduceSub, Nat.reduceLT, Nat.reduceLeDiff, Nat.reduceEqDiff, Nat.reduceBEq]
    exact rfl
  case hv => first | trivial | omega | (simp; done) | (simp; omega)
  apply lok_cond
  case he =>
    simp only [go_sem, ↓reduceIte, reduceCtorEq, Nat.reduceAdd, Nat.reduceMul, Nat.reduceSub, Nat.reduceLT, Nat.reduceLeDiff, Nat.reduceEqDiff, Nat.reduceBEq]
    exact rfl
  case hq => trivial
  case hx =>
    intro hb1
    apply lok_then E1
    case he =>
      simp only [go_sem, ↓reduceIte, reduceCtorEq, Nat.reduceAdd, Nat.reduceMul, Nat.reduceSub, Nat.reduceLT, Nat.reduceLeDiff, Nat.reduceEqDiff, Nat.reduceBEq]
      exact rfl
    case hv => first | trivial | omega | (simp; done) | (simp; omega)
    refine lok_ret ?_
    try simp only [thenL, blockL]
    apply fin_here (L := []) _ (.inr rfl) (hL := rfl)
    case he =>
      simp only [go_sem, ↓reduceIte, reduceCtorEq, Nat.reduceAdd, Nat.reduceMul, Nat.reduceSub, Nat.reduceLT, Nat.reduceLeDiff, Nat.reduceEqDiff, Nat.reduceBEq]
      exact rfl
    case h1 => rfl
    case hb => rfl
    case h2 => rfl

    case hv => first | trivial | (simp; done)
    case hr =>
      simp only [Bool.not_eq_true'] at hb1
      simp [implyRef, hb1, LV.map, renC]
  case hy =>
    intro hb1
    refine lok_skip ?_
    try simp only [thenL, blockL, ↓reduceIte]
    refine lok_seq ?_
    apply lok_then E1
    case he =>
      simp only [go_sem, ↓reduceIte, reduceCtorEq, Nat.reduceAdd, Nat.reduceMul, Nat.reduceSub, Nat.reduceLT, Nat.reduceLeDiff, Nat.reduceEqDiff, Nat.reduceBEq]
      exact rfl
    case hv => first | trivial | omega | (simp; done) | (simp; omega)
    apply lok_cond
    case he =>
      simp only [go_sem, ↓reduceIte, reduceCtorEq, Nat.reduceAdd, Nat.reduceMul, Nat.reduceSub, Nat.reduceLT, Nat.reduceLeDiff, Nat.reduceEqDiff, Nat.reduceBEq]
      exact rfl
    case hq => trivial
    case hx =>
      intro hb2
      apply lok_last E1
      case he =>
        simp only [go_sem, ↓reduceIte, reduceCtorEq, Nat.reduceAdd, Nat.reduceMul, Nat.reduceSub, Nat.reduceLT, Nat.reduceLeDiff, Nat.reduceEqDiff, Nat.reduceBEq]
        exact rfl
      case hv => first | trivial | omega | (simp; done) | (simp; omega)
      try simp only [thenL, blockL, ↓reduceIte]
      apply lok_then E1
      case he =>
        simp only [go_sem, ↓reduceIte, reduceCtorEq, Nat.reduceAdd, Nat.reduceMul, Nat.reduceSub, Nat.reduceLT, Nat.reduceLeDiff, Nat.reduceEqDiff, Nat.reduceBEq]
        exact rfl
      case hv => first | trivial | omega | (simp; done) | (simp; omega)
      refine lok_ret ?_
      try simp only [thenL, blockL]
      apply fin_here (L := []) _ (.inr rfl) (hL := rfl)
      case he =>
        simp only [go_sem, ↓reduceIte, reduceCtorEq, Nat.reduceAdd, Nat.reduceMul, Nat.reduceSub, Nat.reduceLT, Nat.reduceLeDiff, Nat.reduceEqDiff, Nat.reduceBEq]
        exact rfl
      case h1 => rfl
      case hb => rfl
      case h2 => rfl

      case hv => first | trivial | (simp; done)
      case hr =>
        rw [Bool.not_eq_false'] at hb1
        simp only [or_t, decide_eq_true_eq, or_assoc] at hb2
        have hb2 : (andI a.2 8 != 0) = true ∨ (andI a.2 16 != 0) = true ∨ 25 < a.1 := hb2
        simp only [implyRef, hb1, hb2, if_true, if_false, Bool.true_eq_false]
        rfl
    case hy =>
      intro hb2
      refine lok_skip ?_
      try simp only [thenL, blockL, ↓reduceIte]
      apply lok_then E1
      case he =>
        simp only [go_sem, ↓reduceIte, reduceCtorEq, Nat.reduceAdd, Nat.reduceMul, Nat.reduceSub, Nat.reduceLT, Nat.reduceLeDiff, Nat.reduceEqDiff, Nat.reduceBEq]
        exact rfl
      case hv => first | trivial | omega | (simp; done) | (simp; omega)
      refine lok_ret ?_
      try simp only [thenL, blockL]
      apply fin_here (L := []) _ (.inr rfl) (hL := rfl)
      case he =>
        simp only [go_sem, ↓reduceIte, reduceCtorEq, Nat.reduceAdd, Nat.reduceMul, Nat.reduceSub, Nat.reduceLT, Nat.reduceLeDiff, Nat.reduceEqDiff, Nat.reduceBEq]
        exact rfl
      case h1 => rfl
      case hb => rfl
      case h2 => rfl

      case hv => first | trivial | (simp; done)
      case hr =>
        rw [Bool.not_eq_false'] at hb1
        simp only [or_f, or_t, decide_eq_true_eq, or_assoc] at hb2
        have hb2 : ¬ ((andI a.2 8 != 0) = true ∨ (andI a.2 16 != 0) = true ∨ 25 < a.1) := hb2
        simp only [implyRef, hb1, hb2, if_false, Bool.true_eq_false]
        rfl
theorem ok31 (a b : Int × Int) : CallOK Try.prog 31 [accL a, accL b] [] [accL (joinRef a b)] [] := by
  refine callOK (n := 25) (rs := [.cell 4 38]) (nb := 0) (V := []) Try.func31 rfl (by kernel_rfl) rfl rfl rfl rfl (Nat.le_of_ble_eq_true rfl) rfl (by decide) ?_
  apply lok_then E1
  case he =>
    simp only [go_sem, ↓reduceIte, reduceCtorEq, Nat.reduceAdd, Nat.reduceMul, Nat.reduceSub, Nat.reduceLT, Nat.reduceLeDiff, Nat.reduceEqDiff, Nat.reduceBEq]
    exact rfl
  case hv => first | trivial | omega | (simp; done) | (simp; omega)
  refine lok_seq ?_
  apply lok_then E1
  case he =>
    simp only [go_sem, ↓reduceIte, reduceCtorEq, Nat.reduceAdd, Nat.reduceMul, Nat.reduceSub, Nat.reduceLT, Nat.reduceLeDiff, Nat.reduceEqDiff, Nat.reduceBEq]
    exact rfl
  case hv => first | trivial | omega | (simp; done) | (simp; omega)
  apply lok_cond
  case he =>
    simp only [go_sem, ↓reduceIte, reduceCtorEq, Nat.reduceAdd, Nat.reduceMul, Nat.reduceSub, Nat.reduceLT, Nat.reduceLeDiff, Nat.reduceEqDiff, Nat.reduceBEq]
    exact rfl
  case hq => trivial
  case hx =>
    intro hb1
    apply lok_then E1
    case he =>
      simp only [go_sem, ↓reduceIte, reduceCtorEq, Nat.reduceAdd, Nat.reduceMul, Nat.reduceSub, Nat.reduceLT, Nat.reduceLeDiff, Nat.reduceEqDiff, Nat.reduceBEq]
      exact rfl
    case hv => first | trivial | omega | (simp; done) | (simp; omega)
    refine lok_ret ?_
    try simp only [thenL, blockL]
    apply fin_here (L := []) _ (.inr rfl) (hL := rfl)
    case he =>
      simp only [go_sem, ↓reduceIte, reduceCtorEq, Nat.reduceAdd, Nat.reduceMul, Nat.reduceSub, Nat.reduceLT, Nat.reduceLeDiff, Nat.reduceEqDiff, Nat.reduceBEq]
      exact rfl
    case h1 => rfl
    case hb => rfl
    case h2 => rfl

    case hv => first | trivial | (simp; done)
    case hr =>
      simp only [or_t, Bool.not_eq_true'] at hb1
      simp [joinRef, hb1, LV.map, renC]
  case hy =>
    intro hb1
    refine lok_skip ?_
    try simp only [thenL, blockL, ↓reduceIte]
    apply lok_then E1
    case he =>
      simp only [go_sem, ↓reduceIte, reduceCtorEq, Nat.reduceAdd, Nat.reduceMul, Nat.reduceSub, Nat.reduceLT, Nat.reduceLeDiff, Nat.reduceEqDiff, Nat.reduceBEq]
      exact rfl
    case hv => first | trivial | omega | (simp; done) | (simp; omega)
    refine lok_ret ?_
    try simp only [thenL, blockL]
    apply fin_here (L := []) _ (.inr rfl) (hL := rfl)
    case he =>
      simp only [go_sem, ↓reduceIte, reduceCtorEq, Nat.reduceAdd, Nat.reduceMul, Nat.reduceSub, Nat.reduceLT, Nat.reduceLeDiff, Nat.reduceEqDiff, Nat.reduceBEq]
      exact rfl
    case h1 => rfl
    case hb => rfl
    case h2 => rfl

    case hv => first | trivial | (simp; done)
    case hr =>
      simp only [or_f, Bool.not_eq_true'] at hb1
      simp only [joinRef, hb1, if_false]
      rfl
end Go.LS
