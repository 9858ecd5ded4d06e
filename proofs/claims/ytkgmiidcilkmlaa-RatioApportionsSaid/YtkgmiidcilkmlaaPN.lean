/-
  Law 01: ratio.New, the sanity check. Conditions: numbers in the ranges of their Go types.
-/
import Derived.Test.YtkgmiidcilkmlaaPSD
namespace Go.LS
set_option linter.all false
set_option linter.unusedSimpArgs false
set_option linter.unusedVariables false
set_option maxRecDepth 20000
theorem wrapU (n : Int) : IntKind.u64.wrap n = n % 18446744073709551616 := by simp [IntKind.wrap, IntKind.bits, IntKind.signed]
theorem wrapU_id {n : Int} (h0 : 0 ≤ n) (h1 : n < 18446744073709551616) : IntKind.u64.wrap n = n := by rw [wrapU]; omega
theorem wrapU_nat (k : Nat) (h : k < 18446744073709551616) : IntKind.u64.wrap (k : Int) = k := wrapU_id (by omega) (by omega)
def I64 (n : Int) : Prop := -9223372036854775808 ≤ n ∧ n < 9223372036854775808
theorem mag_eq (n : Int) (h : I64 n) : ratio_magnitude n = some (n.natAbs : Int) := by
  obtain ⟨h1, h2⟩ := h
  unfold ratio_magnitude
  rcases bcases (decide (n < (0 : Int))) with hc | hc <;> rw [hc]
  · have : n < 0 := by simpa using hc
    simp only [cond_true, wrapU, Option.some.injEq]
    omega
  · have : 0 ≤ n := by simpa using hc
    simp only [cond_false, wrapU, Option.some.injEq]
    omega
theorem tmod_nat (a b : Nat) : Int.tmod (a : Int) (b : Int) = ((a % b : Nat) : Int) := by
  rw [Int.tmod_eq_emod_of_nonneg (by omega)]; exact_mod_cast rfl
theorem tdiv_nat (a b : Nat) : Int.tdiv (a : Int) (b : Int) = ((a / b : Nat) : Int) := by
  rw [Int.tdiv_eq_ediv_of_nonneg (by omega)]; exact_mod_cast rfl
theorem gcd_eq (a b : Nat) : ratio_gcd a b = some ((Nat.gcd a b : Nat) : Int) := by
  have key : ∀ n m : Nat, iter ratio_gcd_l2 ((m : Int), (n : Int)) = some ((Nat.gcd m n : Nat) : Int) := by
    intro n
    induction n using Nat.strongRecOn with
    | _ n ih =>
      intro m
      by_cases hn : n = 0
      · subst hn
        rw [iter_inr (r := (m : Int))]
        · simp
        · simp [ratio_gcd_l2]
      · have hs : ratio_gcd_l2 ((m : Int), (n : Int)) = some (.inl ((n : Int), ((m % n : Nat) : Int))) := by
          simp only [ratio_gcd_l2]
          rw [show ((n : Int) != 0) = true by simp [hn], cond_true, req_pos (by omega), tmod_nat]
        rw [iter_inl hs, ih (m % n) (Nat.mod_lt _ (by omega)) n]
        rw [Nat.gcd_comm m n, Nat.gcd_rec n m, Nat.gcd_comm]
  unfold ratio_gcd ratio_gcd_j1
  rw [key b a]; rfl
def vR (a : api_Ratio) : Bool := decide (1 ≤ a.Den ∧ a.Den ≤ 1152921504606846976 ∧ -1152921504606846976 ≤ a.Num ∧ a.Num ≤ 1152921504606846976 ∧ Nat.gcd a.Num.natAbs a.Den.natAbs = 1)
theorem Div64_0 (lo y : Nat) (h : lo < 18446744073709551616) (hy : 0 < y) : bits_Div64 0 lo y = some (((lo / y : Nat) : Int), ((lo % y : Nat) : Int)) := by
  unfold bits_Div64 bits_Div64_j6 bits_Div64_j5
  rw [show ((y : Int) == 0) = false by simp; omega, cond_false, show decide ((y : Int) ≤ 0) = false by simp; omega, cond_false, show ((0 : Int) == 0) = true by simp, cond_true, req_pos (by omega), tdiv_nat, tmod_nat, wrapU_nat _ (Nat.lt_of_le_of_lt (Nat.div_le_self lo y) h)]
def fitOf (neg : Bool) (n d : Nat) : api_Ratio × Int := if n ≤ 1152921504606846976 ∧ d ≤ 1152921504606846976 then (⟨if neg = true then -(n : Int) else n, d⟩, 0) else (⟨0, 0⟩, 6)
theorem fitted_eq (neg : Bool) (nh n dh d : Nat) (hn : n < 18446744073709551616) (hd : d < 18446744073709551616) : ratio_fitted neg ⟨nh, n⟩ ⟨dh, d⟩ = some (fitOf neg (nh * 18446744073709551616 + n) (dh * 18446744073709551616 + d)) := by
  unfold ratio_fitted ratio_fitted_j1 fitOf
  rcases bcases ((((((nh : Nat) : Int) != (0 : Int)) || (((dh : Nat) : Int) != (0 : Int))) || (decide ((1152921504606846976 : Int) < (n : Int)))) || (decide ((1152921504606846976 : Int) < (d : Int)))) with hc | hc <;> rw [hc]
  · simp only [Bool.or_eq_true, decide_eq_true_eq, bne_iff_ne] at hc
    rw [cond_true, if_neg (by omega)]
  · simp only [Bool.or_eq_false_iff, decide_eq_false_iff_not, bne_eq_false_iff_eq] at hc
    have h1 : nh = 0 := by omega
    have h2 : dh = 0 := by omega
    subst h1 h2
    rw [cond_false, if_pos (by omega)]
    simp only [Nat.zero_mul, Nat.zero_add]
    rw [wrap64 (n := (n : Int)) (by omega) (by omega), wrap64 (n := (d : Int)) (by omega) (by omega)]
    cases neg
    · rfl
    · rw [cond_true, wrap64 (by omega) (by omega)]; simp
def redOf (neg : Bool) (n d : Nat) : api_Ratio × Int := fitOf neg (n / Nat.gcd n d) (d / Nat.gcd n d)
theorem reduced0 (neg : Bool) (n d : Nat) (hn : n < 18446744073709551616) (hd : 0 < d) (hd2 : d < 18446744073709551616) : ratio_reduced ⟨neg, ⟨0, n⟩⟩ d = some (redOf neg n d) := by
  have z : ∀ y : Nat, Int.tmod 0 (y : Int) = 0 := fun y => by simp
  have zd : ∀ y : Nat, Int.tdiv 0 (y : Int) = 0 := fun y => by simp
  have hg : 0 < Nat.gcd n d := Nat.gcd_pos_of_pos_right _ hd
  have hgg : Nat.gcd (n % d) d = Nat.gcd n d := by rw [Nat.gcd_comm n d, Nat.gcd_rec d n]
  have h1 := Nat.div_le_self n (Nat.gcd n d)
  have h2 := Nat.div_le_self d (Nat.gcd n d)
  unfold ratio_reduced ratio_wide_mod bits_Rem64 ratio_wide_over redOf
  simp only [z, zd]
  rw [req_pos (by omega), Div64_0 n d hn hd]
  simp only [Option.bind, gcd_eq, hgg, z, zd]
  rw [req_pos (by omega), Div64_0 n _ hn hg]
  simp only []
  rw [req_pos (by omega), tdiv_nat, wrapU_nat _ (Nat.lt_of_le_of_lt h2 hd2), wrapU_id (n := 0) (by omega) (by omega)]
  have := fitted_eq neg 0 (n / Nat.gcd n d) 0 (d / Nat.gcd n d) (Nat.lt_of_le_of_lt h1 hn) (Nat.lt_of_le_of_lt h2 hd2)
  simp only [Int.natCast_zero, Nat.zero_mul, Nat.zero_add] at this
  rw [this]
def newOf (num den : Int) : api_Ratio × Int := if den = 0 then (⟨0, 0⟩, 2) else redOf (!(decide (num < 0) == decide (den < 0))) num.natAbs den.natAbs
theorem New_eq (num den : Int) (hn : I64 num) (hd : I64 den) : ratio_New num den = some (newOf num den) := by
  unfold ratio_New newOf
  by_cases h : den = 0
  · subst h; rfl
  · rw [if_neg h, show (den == 0) = false by simpa using h, cond_false, mag_eq num hn, mag_eq den hd]
    simp only [Option.bind]
    obtain ⟨h1, h2⟩ := hn
    obtain ⟨h3, h4⟩ := hd
    rw [reduced0 _ num.natAbs den.natAbs (by omega) (by omega) (by omega)]
theorem and32 (x : Nat) (hx : x < 18446744073709551616) : bAnd .u64 (x : Int) 4294967295 = ((x % 4294967296 : Nat) : Int) := by
  unfold bAnd
  have e : (BitVec.ofInt (IntKind.bits .u64) (x : Int)).toNat = x := by simp only [IntKind.bits, BitVec.toNat_ofInt]; omega
  have e2 : (BitVec.ofInt (IntKind.bits .u64) (4294967295 : Int)).toNat = 2 ^ 32 - 1 := by decide
  rw [BitVec.toNat_and, e, e2, Nat.and_two_pow_sub_one_eq_mod, wrapU_id (by omega) (by omega)]
theorem shr32 (x : Nat) : bShr .u64 (x : Int) 32 = ((x / 4294967296 : Nat) : Int) := by
  unfold bShr
  rw [show (2 : Int) ^ (min (Int.toNat 32) (IntKind.bits .u64)) = 4294967296 by decide, Int.fdiv_eq_ediv_of_nonneg _ (by omega)]
  omega
def cmpI (x y : Int) : Int := if x < y then -1 else if y < x then 1 else 0
theorem vR_iff (a : api_Ratio) : vR a = true ↔ 1 ≤ a.Den ∧ a.Den ≤ 1152921504606846976 ∧ -1152921504606846976 ≤ a.Num ∧ a.Num ≤ 1152921504606846976 ∧ Nat.gcd a.Num.natAbs a.Den.natAbs = 1 := by simp [vR]
def cmpR (a b : api_Ratio) : Int := if vR a = true ∧ vR b = true then cmpI (a.Num * b.Den) (b.Num * a.Den) else 0
def sv (neg : Bool) (n : Nat) : Int := if neg = true then -(n : Int) else n
theorem mul_lt {a b : Nat} (ha : a ≤ 1152921504606846976) (hb : b ≤ 1152921504606846976) : a * b ≤ 1329227995784915872903807060280344576 := Nat.mul_le_mul ha hb
theorem redOf_val (neg : Bool) (n d : Nat) (hd : 0 < d) (r : api_Ratio) (h : redOf neg n d = (r, 0)) : vR r = true ∧ r.Num * d = sv neg n * r.Den ∧ (0 < r.Den) := by
  have hg : 0 < Nat.gcd n d := Nat.gcd_pos_of_pos_right _ hd
  obtain ⟨x, hx⟩ := Nat.gcd_dvd_left n d
  obtain ⟨y, hy⟩ := Nat.gcd_dvd_right n d
  have hx' : n / Nat.gcd n d = x := by conv => lhs; lhs; rw [hx]
                                       exact Nat.mul_div_cancel_left x hg
  have hy' : d / Nat.gcd n d = y := by conv => lhs; lhs; rw [hy]
                                       exact Nat.mul_div_cancel_left y hg
  have hcop : Nat.gcd x y = 1 := by rw [← hx', ← hy']; exact Nat.gcd_div_gcd_div_gcd_of_pos_right hd
  have hy0 : 0 < y := by
    rcases Nat.eq_zero_or_pos y with h0 | h0
    · rw [h0, Nat.mul_zero] at hy; omega
    · exact h0
  unfold redOf fitOf at h
  rw [hx', hy'] at h
  split at h
  · rename_i hle
    obtain ⟨rfl⟩ := Prod.mk.inj h
    refine ⟨?_, ?_, by show (0 : Int) < (y : Int); omega⟩
    · rw [vR_iff]
      refine ⟨by show (1 : Int) ≤ (y : Int); omega, by show (y : Int) ≤ _; omega, ?_, ?_, ?_⟩
      · show _ ≤ (if neg = true then -(x : Int) else x); split <;> omega
      · show (if neg = true then -(x : Int) else x) ≤ _; split <;> omega
      · show Nat.gcd (if neg = true then -(x : Int) else x).natAbs ((y : Int)).natAbs = 1
        cases neg <;> simp [hcop]
    · show (if neg = true then -(x : Int) else x) * (d : Int) = sv neg n * (y : Int)
      unfold sv
      have e : (x : Int) * (d : Int) = (n : Int) * (y : Int) := by
        rw [← Int.natCast_mul, ← Int.natCast_mul]
        congr 1
        calc x * d = x * (Nat.gcd n d * y) := by rw [← hy]
          _ = Nat.gcd n d * x * y := by rw [Nat.mul_left_comm, Nat.mul_assoc]
          _ = n * y := by rw [← hx]
      cases neg
      · simpa using e
      · simp only [if_true, Int.neg_mul, e]
  · cases h
theorem some_bind {α β : Type} (x : α) (f : α → Option β) : (some x).bind f = f x := rfl
theorem awake_apportion : ratio_Apportion 3 [5, 3, 0] = some ([2, 1, 0], 0) := by
  unfold ratio_Apportion
  repeat (first | (rfl; done) | (rw [iter_eq]; simp [IntKind.wrap, IntKind.bits, IntKind.signed, ratio_Apportion_l6, ratio_Apportion_j5, ratio_Apportion_l4, ratio_Apportion_j3, ratio_Apportion_l2, ratio_Apportion_j1, req_pos, bindV, ix, setI, rep,
    slices_SortStableFunc_intint_ratio_Apportion_f1, slices_stableCmpFunc_int_ratio_Apportion_f1, slices_stableCmpFunc_int_ratio_Apportion_f1_l6, slices_stableCmpFunc_int_ratio_Apportion_f1_j5, slices_stableCmpFunc_int_ratio_Apportion_f1_l4,
    slices_insertionSortCmpFunc_int_ratio_Apportion_f1, slices_insertionSortCmpFunc_int_ratio_Apportion_f1_l3, slices_insertionSortCmpFunc_int_ratio_Apportion_f1_l2, slices_insertionSortCmpFunc_int_ratio_Apportion_f1_j1, ratio_Apportion_f1, cmp_Compare_int, cmp_isNaN_int]))
theorem awake_eq : law01_awake = some true := by
  unfold law01_awake
  rw [New_eq 6 (-4) ⟨by decide, by decide⟩ ⟨by decide, by decide⟩, awake_apportion]
  simp [newOf, redOf, fitOf, req_pos, ix]
theorem cmpR_vals (a b : api_Ratio) : cmpR a b = -1 ∨ cmpR a b = 0 ∨ cmpR a b = 1 := by
  unfold cmpR cmpI; (repeat' split) <;> simp
theorem less_same (a b : api_Ratio) : (cmpR a b == -1) = decide (cmpR a b < 0) := by
  rcases cmpR_vals a b with h | h | h <;> rw [h] <;> rfl
end Go.LS
