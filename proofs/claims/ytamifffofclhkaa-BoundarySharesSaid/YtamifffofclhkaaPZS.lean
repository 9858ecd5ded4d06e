/-
  The reference's New (what it needs). Conditions: 64-bit numbers.
-/
import Derived.Test.YtamifffofclhkaaPZ4
namespace Go.LS
set_option linter.all false
set_option linter.unusedSimpArgs false
set_option linter.unusedVariables false
set_option maxRecDepth 20000

theorem Size_eq (n : Int) (h : I64 n) : ref01_Size n = some (n.natAbs : Int) := by
  obtain ⟨h1, h2⟩ := h
  unfold ref01_Size bindV
  rcases bcases (decide (n < (0 : Int))) with hc | hc <;> rw [hc]
  · have : n < 0 := by simpa using hc
    rw [cond_true, wrap64 (n := n + 1) (by omega) (by omega), wrap64 (n := 0 - (n + 1)) (by omega) (by omega)]
    simp only [wrapU, Option.some.injEq]
    omega
  · have : 0 ≤ n := by simpa using hc
    simp only [cond_false, wrapU, Option.some.injEq]
    omega
theorem Divide0 (a b : Nat) (ha : a < 18446744073709551616) (hb : 0 < b) : ref01_Divide ⟨0, a⟩ ⟨0, b⟩ = some (⟨0, ((a / b : Nat) : Int)⟩, ⟨0, ((a % b : Nat) : Int)⟩) := by
  unfold ref01_Divide
  simp only [beq_self_eq_true, Bool.and_self, cond_true]
  rw [req_pos (by omega), tdiv_nat, tmod_nat, wrapU_nat _ (Nat.lt_of_le_of_lt (Nat.div_le_self a b) ha)]
theorem Divisor0 (a b : Nat) (ha : a < 18446744073709551616) (hb : b < 18446744073709551616) : ref01_Divisor ⟨0, a⟩ ⟨0, b⟩ = some ⟨0, ((Nat.gcd a b : Nat) : Int)⟩ := by
  have key : ∀ n m : Nat, m < 18446744073709551616 → n < 18446744073709551616 → iter ref01_Divisor_l2 ((0 : Int), (m : Int), (0 : Int), (n : Int)) = some ((0 : Int), ((Nat.gcd m n : Nat) : Int)) := by
    intro n
    induction n using Nat.strongRecOn with
    | _ n ih =>
      intro m hm hn'
      by_cases hn : n = 0
      · subst hn
        rw [iter_inr (r := ((0 : Int), (m : Int)))]
        · simp
        · simp [ref01_Divisor_l2]
      · have hs : ref01_Divisor_l2 ((0 : Int), (m : Int), (0 : Int), (n : Int)) = some (.inl ((0 : Int), (n : Int), (0 : Int), ((m % n : Nat) : Int))) := by
          simp only [ref01_Divisor_l2]
          rw [show (!(((0 : Int) == 0) && ((n : Int) == 0))) = true by simp [hn], cond_true, Divide0 m n hm (by omega)]
          rfl
        have hlt := Nat.mod_lt m (show 0 < n by omega)
        rw [iter_inl hs, ih (m % n) hlt n hn' (by omega)]
        rw [Nat.gcd_comm m n, Nat.gcd_rec n m, Nat.gcd_comm]
  unfold ref01_Divisor ref01_Divisor_j1
  rw [key b a ha hb]; rfl
theorem Reduce0 (neg : Bool) (n d : Nat) (hn : n < 18446744073709551616) (hd : 0 < d) (hd2 : d < 18446744073709551616) : ref01_Reduce neg ⟨0, n⟩ ⟨0, d⟩ = some (redOf neg n d) := by
  have hg : 0 < Nat.gcd n d := Nat.gcd_pos_of_pos_right _ hd
  have h1 := Nat.div_le_self n (Nat.gcd n d)
  have h2 := Nat.div_le_self d (Nat.gcd n d)
  unfold ref01_Reduce ref01_Reduce_j1 redOf fitOf
  rw [Divisor0 n d hn hd2]
  simp only [Option.bind]
  rw [Divide0 n _ hn hg, Divide0 d _ hd2 hg]
  simp only []
  generalize n / Nat.gcd n d = x at *
  generalize d / Nat.gcd n d = y at *
  rcases bcases ((((decide ((0 : Int) < 0)) || (decide ((0 : Int) < 0))) || (decide ((1152921504606846976 : Int) < (x : Int)))) || (decide ((1152921504606846976 : Int) < (y : Int)))) with hc | hc <;> rw [hc]
  · simp only [Bool.or_eq_true, decide_eq_true_eq] at hc
    rw [cond_true, if_neg (by omega)]
  · simp only [Bool.or_eq_false_iff, decide_eq_false_iff_not] at hc
    rw [cond_false, if_pos (by omega), wrap64 (n := (x : Int)) (by omega) (by omega), wrap64 (n := (y : Int)) (by omega) (by omega)]
    cases neg
    · rfl
    · rw [cond_true, wrap64 (by omega) (by omega)]; simp
theorem NewR_eq (num den : Int) (hn : I64 num) (hd : I64 den) : ref01_New num den = some (newOf num den) := by
  unfold ref01_New newOf
  by_cases h : den = 0
  · subst h; rfl
  · rw [if_neg h, show (den == 0) = false by simpa using h, cond_false, Size_eq num hn, Size_eq den hd]
    simp only [Option.bind]
    obtain ⟨h1, h2⟩ := hn
    obtain ⟨h3, h4⟩ := hd
    rw [Reduce0 _ num.natAbs den.natAbs (by omega) (by omega) (by omega)]
end Go.LS
