/-
  Law 01: the reference's arithmetic with two words: division, divisors, lowest terms.
  Conditions: numbers below 2 to the 128.
-/
import Derived.Test.YtogfplnonlpmcaaPM
namespace Go.LS
set_option linter.all false
set_option linter.unusedSimpArgs false
set_option linter.unusedVariables false
set_option maxRecDepth 20000

theorem shrN (x j : Nat) (hj : j ≤ 64) : bShr .u64 (x : Int) (j : Int) = ((x / 2 ^ j : Nat) : Int) := by
  unfold bShr
  rw [show min (Int.toNat (j : Int)) (IntKind.bits .u64) = j by simp only [Int.toNat_natCast, IntKind.bits]; omega, Int.fdiv_eq_ediv_of_nonneg _ (by exact_mod_cast Nat.zero_le _)]
  norm_cast
theorem shlN (x j : Nat) (hj : j ≤ 64) : bShl .u64 (x : Int) (j : Int) = ((x * 2 ^ j % 18446744073709551616 : Nat) : Int) := by
  unfold bShl
  rw [show min (Int.toNat (j : Int)) (IntKind.bits .u64) = j by simp only [Int.toNat_natCast, IntKind.bits]; omega, wrapU, Int.natCast_emod, Int.natCast_mul, Int.natCast_pow]
  rfl
theorem ofU (x : Nat) (hx : x < 18446744073709551616) : (BitVec.ofInt (IntKind.bits .u64) (x : Int)).toNat = x := by simp only [IntKind.bits, BitVec.toNat_ofInt]; omega
theorem and1 (x : Nat) (hx : x < 18446744073709551616) : bAnd .u64 (x : Int) 1 = ((x % 2 : Nat) : Int) := by
  unfold bAnd
  have e2 : (BitVec.ofInt (IntKind.bits .u64) (1 : Int)).toNat = 2 ^ 1 - 1 := by decide
  rw [BitVec.toNat_and, ofU x hx, e2, Nat.and_two_pow_sub_one_eq_mod, wrapU_id (by omega) (by omega)]
theorem or_even (y b : Nat) (hy : 2 * y + b < 18446744073709551616) (hb : b ≤ 1) : bOr .u64 ((2 * y : Nat) : Int) (b : Int) = ((2 * y + b : Nat) : Int) := by
  unfold bOr
  have := Nat.two_pow_add_eq_or_of_lt (i := 1) (b := b) (by omega) y
  rw [Nat.pow_one] at this
  rw [BitVec.toNat_or, ofU _ (by omega), ofU _ (by omega), ← this, wrapU_id (by omega) (by omega)]
theorem Twice_eq (r : Nat) (h : r < 340282366920938463463374607431768211456) : ref01_Twice (WR r) = some (WR (2 * r % 340282366920938463463374607431768211456)) := by
  unfold ref01_Twice WR
  dsimp only
  rw [show (1 : Int) = ((1 : Nat) : Int) by rfl, show (63 : Int) = ((63 : Nat) : Int) by rfl, shlN _ 1 (by omega), shlN _ 1 (by omega), shrN _ 63 (by omega),
    show (r / 18446744073709551616 * 2 ^ 1 % 18446744073709551616) = 2 * (r / 18446744073709551616 % 9223372036854775808) by omega, or_even _ _ (by omega) (by omega)]
  simp only [Option.some.injEq, ref01_Wide.mk.injEq]
  constructor <;> omega
theorem Minus_mod (m n : Nat) (hm : m < 340282366920938463463374607431768211456) (hn : n < 340282366920938463463374607431768211456) :
    ref01_Minus (WR m) (WR n) = some (WR ((m + 340282366920938463463374607431768211456 - n) % 340282366920938463463374607431768211456)) := by
  unfold ref01_Minus bits_Sub64 WR
  dsimp only
  rw [req_pos (by omega)]
  simp only [Option.bind]
  by_cases hlt : ((m % 18446744073709551616 : Nat) : Int) < ((n % 18446744073709551616 : Nat) : Int) + 0
  · rw [if_pos hlt, req_pos (by omega)]
    simp only [Option.some.injEq, ref01_Wide.mk.injEq]
    constructor <;> omega
  · rw [if_neg hlt, req_pos (by omega)]
    simp only [Option.some.injEq, ref01_Wide.mk.injEq]
    constructor <;> omega
theorem bit_lo (a i : Nat) (hi : i < 64) : a % 18446744073709551616 / 2 ^ i % 2 = a / 2 ^ i % 2 := by
  have h1 : (18446744073709551616 : Nat) = 2 ^ i * (2 * 2 ^ (63 - i)) := by
    rw [← Nat.pow_succ', ← Nat.pow_add, show i + (63 - i).succ = 64 by omega]
  have h2 := Nat.div_add_mod a 18446744073709551616
  have h3 : a / 2 ^ i = 2 * (2 ^ (63 - i) * (a / 18446744073709551616)) + a % 18446744073709551616 / 2 ^ i := by
    conv => lhs; rw [← h2]
    conv => lhs; arg 1; arg 1; arg 1; rw [h1]
    rw [Nat.mul_assoc, Nat.mul_add_div (Nat.two_pow_pos i), Nat.mul_assoc]
  omega
theorem bit_hi (a i : Nat) (hi : 64 ≤ i) : a / 18446744073709551616 / 2 ^ (i - 64) = a / 2 ^ i := by
  rw [Nat.div_div_eq_div_mul, show (18446744073709551616 : Nat) = 2 ^ 64 by decide, ← Nat.pow_add, show 64 + (i - 64) = i by omega]
abbrev hiW (n : Nat) : Int := ((n / 18446744073709551616 : Nat) : Int)
abbrev loW (n : Nat) : Int := ((n % 18446744073709551616 : Nat) : Int)
/-- one round -/
theorem round_eq (b q r bit : Nat) (i : Int) (hb : b < 340282366920938463463374607431768211456) (hr : r < b) (hq : 2 * q + 1 < 340282366920938463463374607431768211456) (hbit : bit ≤ 1) :
    ref01_Divide_j3 (WR b) i (hiW q) (loW q) (hiW r) (loW r) bit = (if b ≤ 2 * r + bit then ref01_Divide_j2 i (hiW (2 * q + 1)) (loW (2 * q + 1)) (hiW (2 * r + bit - b)) (loW (2 * r + bit - b))
      else ref01_Divide_j2 i (hiW (2 * q)) (loW (2 * q)) (hiW (2 * r + bit)) (loW (2 * r + bit))) := by
  unfold ref01_Divide_j3
  have t1 := Twice_eq r (by omega)
  have t2 := Twice_eq q (by omega)
  have u1 : (⟨hiW r, loW r⟩ : ref01_Wide) = WR r := rfl
  have u2 : (⟨hiW q, loW q⟩ : ref01_Wide) = WR q := rfl
  rw [u1, u2, t1, t2]
  simp only [Option.bind]
  have eq1 : 2 * q % 340282366920938463463374607431768211456 = 2 * q := by omega
  rw [eq1]
  have e1 : bOr .u64 (WR (2 * r % 340282366920938463463374607431768211456)).Lo (bit : Int) = loW (2 * r % 340282366920938463463374607431768211456 + bit) := by
    show bOr .u64 ((2 * r % 340282366920938463463374607431768211456 % 18446744073709551616 : Nat) : Int) (bit : Int) = _
    rw [show 2 * r % 340282366920938463463374607431768211456 % 18446744073709551616 = 2 * (r % 9223372036854775808) by omega, or_even _ _ (by omega) hbit]
    simp only [loW]; omega
  have e2 : (WR (2 * r % 340282366920938463463374607431768211456)).Hi = hiW (2 * r % 340282366920938463463374607431768211456 + bit) := by
    simp only [WR, hiW]; omega
  have e3 : bOr .u64 (WR (2 * q)).Lo 1 = loW (2 * q + 1) := by
    show bOr .u64 ((2 * q % 18446744073709551616 : Nat) : Int) ((1 : Nat) : Int) = _
    rw [show 2 * q % 18446744073709551616 = 2 * (q % 9223372036854775808) by omega, or_even _ _ (by omega) (by omega)]
    simp only [loW]; omega
  have e4 : (WR (2 * q)).Hi = hiW (2 * q + 1) := by simp only [WR, hiW]; omega
  rw [e1, e2, e3]
  have u3 : (⟨hiW (2 * r % 340282366920938463463374607431768211456 + bit), loW (2 * r % 340282366920938463463374607431768211456 + bit)⟩ : ref01_Wide) = WR (2 * r % 340282366920938463463374607431768211456 + bit) := rfl
  rw [u3, Order_eq, req_pos (by intro _; rfl)]
  have e5 : (bShr .u64 (hiW r) 63 == 1) = decide (170141183460469231731687303715884105728 ≤ r) := by
    rw [show (63 : Int) = ((63 : Nat) : Int) by rfl]
    simp only [hiW]
    rw [shrN _ 63 (by omega), Bool.eq_iff_iff]
    simp only [beq_iff_eq, decide_eq_true_eq]
    omega
  rw [e5]
  simp only [Option.getD_some]
  by_cases hc : b ≤ 2 * r + bit
  · rw [if_pos hc]
    have e6 : (decide (170141183460469231731687303715884105728 ≤ r) || decide (0 ≤ cmpI ((2 * r % 340282366920938463463374607431768211456 + bit : Nat) : Int) (b : Int))) = true := by
      simp only [Bool.or_eq_true, decide_eq_true_eq]
      by_cases h1 : 170141183460469231731687303715884105728 ≤ r
      · exact .inl h1
      · right
        unfold cmpI
        rw [if_neg (by omega)]
        split <;> decide
    rw [e6, cond_true, Minus_mod _ _ (by omega) hb]
    simp only
    rw [e4]
    rw [show (2 * r % 340282366920938463463374607431768211456 + bit + 340282366920938463463374607431768211456 - b) % 340282366920938463463374607431768211456 = 2 * r + bit - b by omega]
    rfl
  · rw [if_neg hc]
    have e6 : (decide (170141183460469231731687303715884105728 ≤ r) || decide (0 ≤ cmpI ((2 * r % 340282366920938463463374607431768211456 + bit : Nat) : Int) (b : Int))) = false := by
      simp only [Bool.or_eq_false_iff, decide_eq_false_iff_not]
      refine ⟨by omega, ?_⟩
      unfold cmpI
      rw [if_pos (by omega)]; decide
    rw [e6, cond_false, show 2 * r % 340282366920938463463374607431768211456 + bit = 2 * r + bit by omega]
    rfl
theorem step_div (A b bit : Nat) (hb : 0 < b) (hbit : bit ≤ 1) : (if b ≤ 2 * (A % b) + bit then (2 * (A / b) + 1, 2 * (A % b) + bit - b) else (2 * (A / b), 2 * (A % b) + bit)) = ((2 * A + bit) / b, (2 * A + bit) % b) := by
  have h1 := Nat.div_add_mod A b
  have h2 := Nat.mod_lt A hb
  split
  · rename_i hc
    have := (Nat.div_mod_unique (a := 2 * A + bit) (b := b) (c := 2 * (A % b) + bit - b) (d := 2 * (A / b) + 1) hb).2 ⟨by rw [Nat.mul_add, Nat.mul_left_comm]; omega, by omega⟩
    rw [this.1, this.2]
  · rename_i hc
    have := (Nat.div_mod_unique (a := 2 * A + bit) (b := b) (c := 2 * (A % b) + bit) (d := 2 * (A / b)) hb).2 ⟨by rw [Nat.mul_left_comm]; omega, by omega⟩
    rw [this.1, this.2]
theorem loop_eq (a b : Nat) (ha : a < 340282366920938463463374607431768211456) (hb0 : 0 < b) (hb : b < 340282366920938463463374607431768211456) : ∀ k : Nat, k ≤ 128 →
    iter (ref01_Divide_l4 (WR a) (WR b)) ((k : Int) - 1, hiW (a / 2 ^ k / b), loW (a / 2 ^ k / b), hiW (a / 2 ^ k % b), loW (a / 2 ^ k % b)) = some (hiW (a / b), loW (a / b), hiW (a % b), loW (a % b)) := by
  intro k
  induction k with
  | zero =>
    intro _
    refine iter_inr ?_
    simp [ref01_Divide_l4]
  | succ k ih =>
    intro hk
    have hA : a / 2 ^ k = 2 * (a / 2 ^ (k + 1)) + a / 2 ^ k % 2 := by
      rw [Nat.pow_succ, ← Nat.div_div_eq_div_mul]; omega
    have hq : 2 * (a / 2 ^ (k + 1) / b) + 1 < 340282366920938463463374607431768211456 := by
      have h1 : a / 2 ^ (k + 1) ≤ a / 2 := by
        rw [Nat.pow_succ', ← Nat.div_div_eq_div_mul]; exact Nat.div_le_self _ _
      have h2 := Nat.div_le_self (a / 2 ^ (k + 1)) b
      omega
    have hr := Nat.mod_lt (a / 2 ^ (k + 1)) hb0
    have hs : ref01_Divide_l4 (WR a) (WR b) (((k + 1 : Nat) : Int) - 1, hiW (a / 2 ^ (k + 1) / b), loW (a / 2 ^ (k + 1) / b), hiW (a / 2 ^ (k + 1) % b), loW (a / 2 ^ (k + 1) % b))
        = some (.inl ((k : Int) - 1, hiW (a / 2 ^ k / b), loW (a / 2 ^ k / b), hiW (a / 2 ^ k % b), loW (a / 2 ^ k % b))) := by
      simp only [ref01_Divide_l4]
      have ek : (((k + 1 : Nat) : Int) - 1) = (k : Int) := by omega
      rw [ek, show decide ((0 : Int) ≤ (k : Int)) = true by simp, cond_true, show (64 : Int) = ((64 : Nat) : Int) by rfl, tmod_nat, wrapU_nat _ (by omega), req_pos (by omega)]
      have fin : ∀ bit : Nat, bit = a / 2 ^ k % 2 → ref01_Divide_j3 (WR b) (k : Int) (hiW (a / 2 ^ (k + 1) / b)) (loW (a / 2 ^ (k + 1) / b)) (hiW (a / 2 ^ (k + 1) % b)) (loW (a / 2 ^ (k + 1) % b)) (bit : Int) = some (.inl ((k : Int) - 1, hiW (a / 2 ^ k / b), loW (a / 2 ^ k / b), hiW (a / 2 ^ k % b), loW (a / 2 ^ k % b))) := by
        rintro bit rfl
        rw [round_eq b _ _ _ _ hb hr hq (by omega)]
        have hst := step_div (a / 2 ^ (k + 1)) b (a / 2 ^ k % 2) hb0 (by omega)
        rw [← hA] at hst
        unfold ref01_Divide_j2
        rw [wrap64 (n := (k : Int) - 1) (by omega) (by omega)]
        split at hst
        · rename_i hc
          rw [if_pos hc]
          have := Prod.mk.inj hst
          rw [this.1, this.2]
        · rename_i hc
          rw [if_neg hc]
          have := Prod.mk.inj hst
          rw [this.1, this.2]
      unfold bindV
      dsimp only
      by_cases h64 : 64 ≤ k
      · rw [show decide (((64 : Nat) : Int) ≤ (k : Int)) = true by simp only [decide_eq_true_eq]; omega, cond_true, wrap64 (n := (k : Int) - ((64 : Nat) : Int)) (by omega) (by omega), show (k : Int) - ((64 : Nat) : Int) = ((k - 64 : Nat) : Int) by omega, wrapU_nat _ (by omega), req_pos (by omega)]
        rw [show (WR a).Hi = ((a / 18446744073709551616 : Nat) : Int) by rfl, shrN _ _ (by omega), and1 _ (Nat.lt_of_le_of_lt (Nat.div_le_self _ _) (by omega)), bit_hi a k h64]
        exact fin _ rfl
      · rw [show decide (((64 : Nat) : Int) ≤ (k : Int)) = false by simp only [decide_eq_false_iff_not]; omega, cond_false]
        rw [show (WR a).Lo = ((a % 18446744073709551616 : Nat) : Int) by rfl, show k % 64 = k by omega, shrN _ _ (by omega), and1 _ (Nat.lt_of_le_of_lt (Nat.div_le_self _ _) (by omega)), bit_lo a k (by omega)]
        exact fin _ rfl
    rw [iter_inl hs]
    exact ih (by omega)
theorem Divide_eq (a b : Nat) (ha : a < 340282366920938463463374607431768211456) (hb0 : 0 < b) (hb : b < 340282366920938463463374607431768211456) : ref01_Divide (WR a) (WR b) = some (WR (a / b), WR (a % b)) := by
  by_cases hs : a < 18446744073709551616 ∧ b < 18446744073709551616
  · have := Divide0 a b hs.1 hb0
    have e : ∀ n : Nat, n < 18446744073709551616 → WR n = ⟨0, (n : Int)⟩ := fun n hn => by simp only [WR, ref01_Wide.mk.injEq]; omega
    rw [e a hs.1, e b hs.2, e (a / b) (Nat.lt_of_le_of_lt (Nat.div_le_self _ _) hs.1), e (a % b) (Nat.lt_trans (Nat.mod_lt _ hb0) hs.2)]
    exact this
  · unfold ref01_Divide ref01_Divide_j1
    have hc : (((WR a).Hi == (0 : Int)) && ((WR b).Hi == (0 : Int))) = false := by
      simp only [WR, Bool.and_eq_false_iff, beq_eq_false_iff_ne]; omega
    rw [hc, cond_false]
    have := loop_eq a b ha hb0 hb 128 (by omega)
    have h0 : a / 2 ^ 128 = 0 := Nat.div_eq_of_lt (by simpa using ha)
    rw [h0, Nat.zero_div, Nat.zero_mod] at this
    have e : ((((128 : Nat) : Int) - 1, hiW 0, loW 0, hiW 0, loW 0) : Int × Int × Int × Int × Int) = ((127 : Int), (0 : Int), (0 : Int), (0 : Int), (0 : Int)) := by rfl
    rw [e] at this
    rw [this]; rfl
theorem Divisor_eq (a b : Nat) (ha : a < 340282366920938463463374607431768211456) (hb : b < 340282366920938463463374607431768211456) : ref01_Divisor (WR a) (WR b) = some (WR (Nat.gcd a b)) := by
  have key : ∀ n m : Nat, m < 340282366920938463463374607431768211456 → n < 340282366920938463463374607431768211456 → iter ref01_Divisor_l2 (hiW m, loW m, hiW n, loW n) = some (hiW (Nat.gcd m n), loW (Nat.gcd m n)) := by
    intro n
    induction n using Nat.strongRecOn with
    | _ n ih =>
      intro m hm hn'
      by_cases hn : n = 0
      · subst hn
        refine iter_inr ?_
        simp [ref01_Divisor_l2]
      · have hs : ref01_Divisor_l2 (hiW m, loW m, hiW n, loW n) = some (.inl (hiW n, loW n, hiW (m % n), loW (m % n))) := by
          simp only [ref01_Divisor_l2]
          rw [show (!((hiW n == 0) && (loW n == 0))) = true by
            simp only [hiW, loW, Bool.not_eq_true', Bool.and_eq_false_iff, beq_eq_false_iff_ne]; omega, cond_true]
          rw [show (⟨hiW m, loW m⟩ : ref01_Wide) = WR m by rfl, show (⟨hiW n, loW n⟩ : ref01_Wide) = WR n by rfl, Divide_eq m n hm (by omega) hn']
          rfl
        have hlt := Nat.mod_lt m (show 0 < n by omega)
        rw [iter_inl hs, ih (m % n) hlt n hn' (by omega)]
        rw [Nat.gcd_comm m n, Nat.gcd_rec n m, Nat.gcd_comm]
  unfold ref01_Divisor ref01_Divisor_j1
  have := key b a ha hb
  rw [show ((WR a).Hi, (WR a).Lo, (WR b).Hi, (WR b).Lo) = (hiW a, loW a, hiW b, loW b) by rfl, this]; rfl
theorem redTail (neg : Bool) (x y : Nat) :
    (bif ((((decide ((0 : Int) < (WR x).Hi)) || (decide ((0 : Int) < (WR y).Hi))) || (decide ((1152921504606846976 : Int) < (WR x).Lo))) || (decide ((1152921504606846976 : Int) < (WR y).Lo))) then
      some ((api_Ratio.mk (0 : Int) (0 : Int)), (6 : Int))
    else
      bif neg then some ((api_Ratio.mk (IntKind.i64.wrap (0 - (IntKind.i64.wrap (WR x).Lo))) (IntKind.i64.wrap (WR y).Lo)), (0 : Int))
      else some ((api_Ratio.mk (IntKind.i64.wrap (WR x).Lo) (IntKind.i64.wrap (WR y).Lo)), (0 : Int))) = some (fitOf neg x y) := by
  unfold fitOf
  have e1 : (WR x).Hi = ((x / 18446744073709551616 : Nat) : Int) := rfl
  have e2 : (WR x).Lo = ((x % 18446744073709551616 : Nat) : Int) := rfl
  have e3 : (WR y).Hi = ((y / 18446744073709551616 : Nat) : Int) := rfl
  have e4 : (WR y).Lo = ((y % 18446744073709551616 : Nat) : Int) := rfl
  rw [e1, e2, e3, e4]
  by_cases hc : x ≤ 1152921504606846976 ∧ y ≤ 1152921504606846976
  · rw [show ((((decide ((0 : Int) < ((x / 18446744073709551616 : Nat) : Int))) || (decide ((0 : Int) < ((y / 18446744073709551616 : Nat) : Int)))) || (decide ((1152921504606846976 : Int) < ((x % 18446744073709551616 : Nat) : Int)))) || (decide ((1152921504606846976 : Int) < ((y % 18446744073709551616 : Nat) : Int)))) = false by
      simp only [Bool.or_eq_false_iff, decide_eq_false_iff_not]; omega]
    rw [cond_false, if_pos hc, show x % 18446744073709551616 = x by omega, show y % 18446744073709551616 = y by omega, wrap64 (n := (x : Int)) (by omega) (by omega), wrap64 (n := (y : Int)) (by omega) (by omega)]
    cases neg
    · rfl
    · rw [cond_true, wrap64 (by omega) (by omega)]; simp
  · rw [show ((((decide ((0 : Int) < ((x / 18446744073709551616 : Nat) : Int))) || (decide ((0 : Int) < ((y / 18446744073709551616 : Nat) : Int)))) || (decide ((1152921504606846976 : Int) < ((x % 18446744073709551616 : Nat) : Int)))) || (decide ((1152921504606846976 : Int) < ((y % 18446744073709551616 : Nat) : Int)))) = true by
      simp only [Bool.or_eq_true, decide_eq_true_eq]; omega]
    rw [cond_true, if_neg hc]
end Go.LS
