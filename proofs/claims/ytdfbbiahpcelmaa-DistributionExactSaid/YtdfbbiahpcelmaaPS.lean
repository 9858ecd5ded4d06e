/-
  Fractions: what the functions of the reference of layer 1 compute, for numbers of one word; comparing.
  Conditions: numbers in the ranges of their Go types.
-/
import Derived.Test.YtdfbbiahpcelmaaPR
namespace Go.LS
set_option linter.all false
set_option linter.unusedSimpArgs false
set_option linter.unusedVariables false
set_option maxRecDepth 20000

theorem Size_eq (n : Int) (h : I64 n) : ref01_Size n = some (n.natAbs : Int) := by
  obtain ⟨h1, h2⟩ := h
  unfold ref01_Size bindV
  rcases bcases (decide (n < (0 : Int))) with hc | hc <;> rw [hc]
  · have : n < 0 := by simpa using hc
    rw [cond_true, wrap64 (n := n + 1) (by omega) (by omega), wrap64 (n := 0 - (n + 1)) (by omega) (by omega)]
    simp only [wrapU, Option.some.injEq]
    omega
  · have : 0 ≤ n := by simpa using hc
    simp only [cond_false, wrapU, Option.some.injEq]
    omega
theorem Divide0 (a b : Nat) (ha : a < 18446744073709551616) (hb : 0 < b) : ref01_Divide ⟨0, a⟩ ⟨0, b⟩ = some (⟨0, ((a / b : Nat) : Int)⟩, ⟨0, ((a % b : Nat) : Int)⟩) := by
  unfold ref01_Divide
  simp only [beq_self_eq_true, Bool.and_self, cond_true]
  rw [req_pos (by omega), tdiv_nat, tmod_nat, wrapU_nat _ (Nat.lt_of_le_of_lt (Nat.div_le_self a b) ha)]
theorem Divisor0 (a b : Nat) (ha : a < 18446744073709551616) (hb : b < 18446744073709551616) : ref01_Divisor ⟨0, a⟩ ⟨0, b⟩ = some ⟨0, ((Nat.gcd a b : Nat) : Int)⟩ := by
  have key : ∀ n m : Nat, m < 18446744073709551616 → n < 18446744073709551616 → iter ref01_Divisor_l2 ((0 : Int), (m : Int), (0 : Int), (n : Int)) = some ((0 : Int), ((Nat.gcd m n : Nat) : Int)) := by
    intro n
    induction n using Nat.strongRecOn with
    | _ n ih =>
      intro m hm hn'
      by_cases hn : n = 0
      · subst hn
        rw [iter_inr (r := ((0 : Int), (m : Int)))]
        · simp
        · simp [ref01_Divisor_l2]
      · have hs : ref01_Divisor_l2 ((0 : Int), (m : Int), (0 : Int), (n : Int)) = some (.inl ((0 : Int), (n : Int), (0 : Int), ((m % n : Nat) : Int))) := by
          simp only [ref01_Divisor_l2]
          rw [show (!(((0 : Int) == 0) && ((n : Int) == 0))) = true by simp [hn], cond_true, Divide0 m n hm (by omega)]
          rfl
        have hlt := Nat.mod_lt m (show 0 < n by omega)
        rw [iter_inl hs, ih (m % n) hlt n hn' (by omega)]
        rw [Nat.gcd_comm m n, Nat.gcd_rec n m, Nat.gcd_comm]
  unfold ref01_Divisor ref01_Divisor_j1
  rw [key b a ha hb]; rfl
theorem Reduce0 (neg : Bool) (n d : Nat) (hn : n < 18446744073709551616) (hd : 0 < d) (hd2 : d < 18446744073709551616) : ref01_Reduce neg ⟨0, n⟩ ⟨0, d⟩ = some (redOf neg n d) := by
  have hg : 0 < Nat.gcd n d := Nat.gcd_pos_of_pos_right _ hd
  have h1 := Nat.div_le_self n (Nat.gcd n d)
  have h2 := Nat.div_le_self d (Nat.gcd n d)
  unfold ref01_Reduce ref01_Reduce_j1 redOf fitOf
  rw [Divisor0 n d hn hd2]
  simp only [Option.bind]
  rw [Divide0 n _ hn hg, Divide0 d _ hd2 hg]
  simp only []
  generalize n / Nat.gcd n d = x at *
  generalize d / Nat.gcd n d = y at *
  rcases bcases ((((decide ((0 : Int) < 0)) || (decide ((0 : Int) < 0))) || (decide ((1152921504606846976 : Int) < (x : Int)))) || (decide ((1152921504606846976 : Int) < (y : Int)))) with hc | hc <;> rw [hc]
  · simp only [Bool.or_eq_true, decide_eq_true_eq] at hc
    rw [cond_true, if_neg (by omega)]
  · simp only [Bool.or_eq_false_iff, decide_eq_false_iff_not] at hc
    rw [cond_false, if_pos (by omega), wrap64 (n := (x : Int)) (by omega) (by omega), wrap64 (n := (y : Int)) (by omega) (by omega)]
    cases neg
    · rfl
    · rw [cond_true, wrap64 (by omega) (by omega)]; simp
theorem NewR_eq (num den : Int) (hn : I64 num) (hd : I64 den) : ref01_New num den = some (newOf num den) := by
  unfold ref01_New newOf
  by_cases h : den = 0
  · subst h; rfl
  · rw [if_neg h, show (den == 0) = false by simpa using h, cond_false, Size_eq num hn, Size_eq den hd]
    simp only [Option.bind]
    obtain ⟨h1, h2⟩ := hn
    obtain ⟨h3, h4⟩ := hd
    rw [Reduce0 _ num.natAbs den.natAbs (by omega) (by omega) (by omega)]
theorem ValidR_eq (a : api_Ratio) : ref01_Valid a = some (vR a) := by
  unfold ref01_Valid vR
  rcases bcases ((((decide (a.Den < (1 : Int))) || (decide ((1152921504606846976 : Int) < a.Den))) || (decide (a.Num < (-1152921504606846976 : Int)))) || (decide ((1152921504606846976 : Int) < a.Num))) with hc | hc <;> rw [hc]
  · simp only [Bool.or_eq_true, decide_eq_true_eq] at hc
    rw [cond_true]
    congr 1
    symm
    rw [decide_eq_false_iff_not]
    omega
  · simp only [Bool.or_eq_false_iff, decide_eq_false_iff_not] at hc
    rw [cond_false, Size_eq a.Num ⟨by omega, by omega⟩, Size_eq a.Den ⟨by omega, by omega⟩]
    simp only [Option.bind]
    rw [Divisor0 _ _ (by omega) (by omega)]
    simp only [beq_self_eq_true, Bool.true_and, Option.some.injEq]
    rw [Bool.eq_iff_iff]
    simp only [beq_iff_eq, decide_eq_true_eq]
    omega
def WR (n : Nat) : ref01_Wide := ⟨((n / 18446744073709551616 : Nat) : Int), ((n % 18446744073709551616 : Nat) : Int)⟩
theorem Product_eq (x y : Nat) (hx : x < 18446744073709551616) (hy : y < 18446744073709551616) : ref01_Product x y = some (WR (x * y)) := by
  unfold ref01_Product
  rw [Mul64_eq x y hx hy]; rfl
theorem Plus_eq (m n : Nat) (h : m + n < 340282366920938463463374607431768211456) : ref01_Plus (WR m) (WR n) = some (WR (m + n)) := by
  unfold ref01_Plus bits_Add64 WR
  dsimp only
  rw [req_pos (by omega)]
  simp only [Option.bind]
  rw [req_pos (by omega)]
  simp only [Option.some.injEq, ref01_Wide.mk.injEq]
  constructor <;> omega
theorem Minus_eq (m n : Nat) (h : n ≤ m) (hm : m < 340282366920938463463374607431768211456) : ref01_Minus (WR m) (WR n) = some (WR (m - n)) := by
  unfold ref01_Minus bits_Sub64 WR
  dsimp only
  rw [req_pos (by omega)]
  simp only [Option.bind]
  by_cases hlt : ((m % 18446744073709551616 : Nat) : Int) < ((n % 18446744073709551616 : Nat) : Int) + 0
  · rw [if_pos hlt, req_pos (by omega)]
    simp only [Option.some.injEq, ref01_Wide.mk.injEq]
    constructor <;> omega
  · rw [if_neg hlt, req_pos (by omega)]
    simp only [Option.some.injEq, ref01_Wide.mk.injEq]
    constructor <;> omega
theorem Order_eq (m n : Nat) : ref01_Order (WR m) (WR n) = some (cmpI m n) := by
  unfold ref01_Order WR cmpI
  rcases bcases ((decide (((m / 18446744073709551616 : Nat) : Int) < ((n / 18446744073709551616 : Nat) : Int))) || ((((m / 18446744073709551616 : Nat) : Int) == ((n / 18446744073709551616 : Nat) : Int)) && (decide (((m % 18446744073709551616 : Nat) : Int) < ((n % 18446744073709551616 : Nat) : Int))))) with hc | hc <;> simp only [hc]
  · simp only [Bool.or_eq_true, Bool.and_eq_true, decide_eq_true_eq, beq_iff_eq] at hc
    rw [cond_true, if_pos (by omega)]
  · simp only [Bool.or_eq_false_iff, Bool.and_eq_false_iff, decide_eq_false_iff_not, beq_eq_false_iff_ne] at hc
    rw [cond_false, if_neg (by omega)]
    rcases bcases ((((m / 18446744073709551616 : Nat) : Int) == ((n / 18446744073709551616 : Nat) : Int)) && (((m % 18446744073709551616 : Nat) : Int) == ((n % 18446744073709551616 : Nat) : Int))) with hd | hd <;> simp only [hd]
    · simp only [Bool.and_eq_true, beq_iff_eq] at hd
      rw [cond_true, if_neg (by omega)]
    · simp only [Bool.and_eq_false_iff, beq_eq_false_iff_ne] at hd
      rw [cond_false, if_pos (by omega)]
def sv (neg : Bool) (n : Nat) : Int := if neg = true then -(n : Int) else n
theorem total_eq (x : Bool) (m : Nat) (y : Bool) (n : Nat) (h : m + n < 340282366920938463463374607431768211456) : ∃ s k, ref01_total x (WR m) y (WR n) = some (s, WR k) ∧ sv s k = sv x m + sv y n ∧ k ≤ m + n ∧ ((x = y → s = x)) := by
  unfold ref01_total
  by_cases hxy : x = y
  · subst hxy
    rw [show (x == x) = true by simp, cond_true, Plus_eq m n h]
    exact ⟨x, m + n, rfl, by unfold sv; cases x <;> simp <;> omega, by omega, fun _ => rfl⟩
  · rw [show (x == y) = false by simpa using hxy, cond_false, Order_eq]
    simp only [Option.bind]
    have hy : y = !x := by cases x <;> cases y <;> simp_all
    subst hy
    by_cases hmn : n ≤ m
    · rw [show decide ((0 : Int) ≤ cmpI m n) = true by unfold cmpI; rw [if_neg (by omega)]; split <;> simp, cond_true, Minus_eq m n hmn (by omega)]
      exact ⟨x, m - n, rfl, by unfold sv; cases x <;> simp <;> omega, by omega, fun h => absurd h hxy⟩
    · rw [show decide ((0 : Int) ≤ cmpI m n) = false by unfold cmpI; rw [if_pos (by omega)]; simp, cond_false, Minus_eq n m (by omega) (by omega)]
      exact ⟨!x, n - m, rfl, by unfold sv; cases x <;> simp <;> omega, by omega, fun h => absurd h hxy⟩
theorem WR_zero (k : Nat) (hk : k < 340282366920938463463374607431768211456) : (((WR k).Hi == 0) && ((WR k).Lo == 0)) = decide (k = 0) := by
  rw [Bool.eq_iff_iff]
  simp only [WR, Bool.and_eq_true, beq_iff_eq, decide_eq_true_eq]
  omega
theorem mul_lt {a b : Nat} (ha : a ≤ 1152921504606846976) (hb : b ≤ 1152921504606846976) : a * b ≤ 1329227995784915872903807060280344576 := Nat.mul_le_mul ha hb
theorem CompareR_eq (a b : api_Ratio) : ref01_Compare a b = some (cmpR a b) := by
  unfold ref01_Compare cmpR
  simp only [ValidR_eq, Option.bind, Option.isSome_some, Option.getD_some, implies_true, req_true]
  cases ha : vR a
  · simp
  cases hb : vR b
  · simp
  obtain ⟨a1, a2, a3, a4, _⟩ := (vR_iff a).1 ha
  obtain ⟨b1, b2, b3, b4, _⟩ := (vR_iff b).1 hb
  simp only [Bool.not_true, Bool.or_self, cond_false, and_self, if_true]
  rw [Size_eq a.Num ⟨by omega, by omega⟩, Size_eq b.Den ⟨by omega, by omega⟩, Size_eq b.Num ⟨by omega, by omega⟩, Size_eq a.Den ⟨by omega, by omega⟩]
  simp only []
  rw [Product_eq _ _ (by omega) (by omega)]
  simp only []
  rw [Product_eq _ _ (by omega) (by omega)]
  simp only []
  have m1 := mul_lt (a := a.Num.natAbs) (b := b.Den.natAbs) (by omega) (by omega)
  have m2 := mul_lt (a := b.Num.natAbs) (b := a.Den.natAbs) (by omega) (by omega)
  obtain ⟨s, k, e, hs, hk, _⟩ := total_eq (decide (a.Num < (0 : Int))) (a.Num.natAbs * b.Den.natAbs) (decide ((0 : Int) < b.Num)) (b.Num.natAbs * a.Den.natAbs) (by omega)
  rw [e]
  simp only []
  rw [WR_zero k (by omega)]
  have k1 : sv (decide (a.Num < (0 : Int))) (a.Num.natAbs * b.Den.natAbs) = a.Num * b.Den := by
    unfold sv
    rw [Int.natCast_mul, show ((b.Den.natAbs : Nat) : Int) = b.Den by omega]
    by_cases h : a.Num < 0
    · simp only [h, decide_true, if_true]; rw [← Int.neg_mul]; congr 1; omega
    · simp only [h, decide_false, Bool.false_eq_true, if_false]; congr 1; omega
  have k2 : sv (decide ((0 : Int) < b.Num)) (b.Num.natAbs * a.Den.natAbs) = -(b.Num * a.Den) := by
    unfold sv
    rw [Int.natCast_mul, show ((a.Den.natAbs : Nat) : Int) = a.Den by omega]
    by_cases h : 0 < b.Num
    · simp only [h, decide_true, if_true]; congr 2; omega
    · simp only [h, decide_false, Bool.false_eq_true, if_false]; rw [← Int.neg_mul]; congr 1; omega
  rw [k1, k2] at hs
  generalize a.Num * b.Den = p at *
  generalize b.Num * a.Den = q at *
  unfold sv at hs
  unfold cmpI
  by_cases hk0 : k = 0
  · rw [show decide (k = 0) = true by simp [hk0], cond_true]
    have : p = q := by subst hk0; cases s <;> simp at hs <;> omega
    rw [if_neg (by omega), if_neg (by omega)]
  · rw [show decide (k = 0) = false by simp [hk0], cond_false]
    cases s
    · simp at hs
      rw [cond_false, if_neg (by omega), if_pos (by omega)]
    · simp at hs
      rw [cond_true, if_pos (by omega)]
theorem LessR_eq (a b : api_Ratio) : ref01_Less a b = some (decide (cmpR a b < 0)) := by
  unfold ref01_Less; rw [CompareR_eq]; rfl
/-! ### what a reduced fraction denotes -/
theorem redOf_val (neg : Bool) (n d : Nat) (hd : 0 < d) (r : api_Ratio) (h : redOf neg n d = (r, 0)) : vR r = true ∧ r.Num * d = sv neg n * r.Den ∧ (0 < r.Den) := by
  have hg : 0 < Nat.gcd n d := Nat.gcd_pos_of_pos_right _ hd
  obtain ⟨x, hx⟩ := Nat.gcd_dvd_left n d
  obtain ⟨y, hy⟩ := Nat.gcd_dvd_right n d
  have hx' : n / Nat.gcd n d = x := by conv => lhs; lhs; rw [hx]
                                       exact Nat.mul_div_cancel_left x hg
  have hy' : d / Nat.gcd n d = y := by conv => lhs; lhs; rw [hy]
                                       exact Nat.mul_div_cancel_left y hg
  have hcop : Nat.gcd x y = 1 := by rw [← hx', ← hy']; exact Nat.gcd_div_gcd_div_gcd_of_pos_right hd
  have hy0 : 0 < y := by
    rcases Nat.eq_zero_or_pos y with h0 | h0
    · rw [h0, Nat.mul_zero] at hy; omega
    · exact h0
  unfold redOf fitOf at h
  rw [hx', hy'] at h
  split at h
  · rename_i hle
    obtain ⟨rfl⟩ := Prod.mk.inj h
    refine ⟨?_, ?_, by show (0 : Int) < (y : Int); omega⟩
    · rw [vR_iff]
      refine ⟨by show (1 : Int) ≤ (y : Int); omega, by show (y : Int) ≤ _; omega, ?_, ?_, ?_⟩
      · show _ ≤ (if neg = true then -(x : Int) else x); split <;> omega
      · show (if neg = true then -(x : Int) else x) ≤ _; split <;> omega
      · show Nat.gcd (if neg = true then -(x : Int) else x).natAbs ((y : Int)).natAbs = 1
        cases neg <;> simp [hcop]
    · show (if neg = true then -(x : Int) else x) * (d : Int) = sv neg n * (y : Int)
      unfold sv
      have e : (x : Int) * (d : Int) = (n : Int) * (y : Int) := by
        rw [← Int.natCast_mul, ← Int.natCast_mul]
        congr 1
        calc x * d = x * (Nat.gcd n d * y) := by rw [← hy]
          _ = Nat.gcd n d * x * y := by rw [Nat.mul_left_comm, Nat.mul_assoc]
          _ = n * y := by rw [← hx]
      cases neg
      · simpa using e
      · simp only [if_true, Int.neg_mul, e]
  · cases h
end Go.LS
