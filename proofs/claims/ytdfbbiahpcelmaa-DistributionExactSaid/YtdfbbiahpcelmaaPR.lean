/-
  Fractions: what the functions of ratio compute, in closed form.
  Conditions: numbers in the ranges of their Go types.
-/
import Derived.Test.YtdfbbiahpcelmaaPA
import Derived.Test.YtdfbbiahpcelmaaD3
namespace Go.LS
set_option linter.all false
set_option linter.unusedSimpArgs false
set_option linter.unusedVariables false
set_option maxRecDepth 20000

theorem wrapU (n : Int) : IntKind.u64.wrap n = n % 18446744073709551616 := by simp [IntKind.wrap, IntKind.bits, IntKind.signed]
theorem wrapU_id {n : Int} (h0 : 0 ≤ n) (h1 : n < 18446744073709551616) : IntKind.u64.wrap n = n := by rw [wrapU]; omega
theorem wrapU_nat (k : Nat) (h : k < 18446744073709551616) : IntKind.u64.wrap (k : Int) = k := wrapU_id (by omega) (by omega)
def I64 (n : Int) : Prop := -9223372036854775808 ≤ n ∧ n < 9223372036854775808
theorem mag_eq (n : Int) (h : I64 n) : ratio_magnitude n = some (n.natAbs : Int) := by
  obtain ⟨h1, h2⟩ := h
  unfold ratio_magnitude
  rcases bcases (decide (n < (0 : Int))) with hc | hc <;> rw [hc]
  · have : n < 0 := by simpa using hc
    simp only [cond_true, wrapU, Option.some.injEq]
    omega
  · have : 0 ≤ n := by simpa using hc
    simp only [cond_false, wrapU, Option.some.injEq]
    omega
theorem tmod_nat (a b : Nat) : Int.tmod (a : Int) (b : Int) = ((a % b : Nat) : Int) := by
  rw [Int.tmod_eq_emod_of_nonneg (by omega)]; exact_mod_cast rfl
theorem tdiv_nat (a b : Nat) : Int.tdiv (a : Int) (b : Int) = ((a / b : Nat) : Int) := by
  rw [Int.tdiv_eq_ediv_of_nonneg (by omega)]; exact_mod_cast rfl
theorem gcd_eq (a b : Nat) : ratio_gcd a b = some ((Nat.gcd a b : Nat) : Int) := by
  have key : ∀ n m : Nat, iter ratio_gcd_l2 ((m : Int), (n : Int)) = some ((Nat.gcd m n : Nat) : Int) := by
    intro n
    induction n using Nat.strongRecOn with
    | _ n ih =>
      intro m
      by_cases hn : n = 0
      · subst hn
        rw [iter_inr (r := (m : Int))]
        · simp
        · simp [ratio_gcd_l2]
      · have hs : ratio_gcd_l2 ((m : Int), (n : Int)) = some (.inl ((n : Int), ((m % n : Nat) : Int))) := by
          simp only [ratio_gcd_l2]
          rw [show ((n : Int) != 0) = true by simp [hn], cond_true, req_pos (by omega), tmod_nat]
        rw [iter_inl hs, ih (m % n) (Nat.mod_lt _ (by omega)) n]
        rw [Nat.gcd_comm m n, Nat.gcd_rec n m, Nat.gcd_comm]
  unfold ratio_gcd ratio_gcd_j1
  rw [key b a]; rfl
def vR (a : api_Ratio) : Bool := decide (1 ≤ a.Den ∧ a.Den ≤ 1152921504606846976 ∧ -1152921504606846976 ≤ a.Num ∧ a.Num ≤ 1152921504606846976 ∧ Nat.gcd a.Num.natAbs a.Den.natAbs = 1)
theorem Valid_eq (a : api_Ratio) : ratio_Valid a = some (vR a) := by
  unfold ratio_Valid vR
  rcases bcases ((((decide (a.Den < (1 : Int))) || (decide ((1152921504606846976 : Int) < a.Den))) || (decide (a.Num < (-1152921504606846976 : Int)))) || (decide ((1152921504606846976 : Int) < a.Num))) with hc | hc <;> rw [hc]
  · simp only [Bool.or_eq_true, decide_eq_true_eq] at hc
    rw [cond_true]
    congr 1
    symm
    rw [decide_eq_false_iff_not]
    omega
  · simp only [Bool.or_eq_false_iff, decide_eq_false_iff_not] at hc
    rw [cond_false, mag_eq a.Num ⟨by omega, by omega⟩]
    simp only [Option.bind]
    rw [wrapU_id (by omega) (by omega), show a.Den = ((a.Den.natAbs : Nat) : Int) by omega, gcd_eq]
    simp only [Int.natAbs_natCast, Option.some.injEq]
    rw [Bool.eq_iff_iff]
    simp only [beq_iff_eq, decide_eq_true_eq]
    omega
theorem Div64_0 (lo y : Nat) (h : lo < 18446744073709551616) (hy : 0 < y) : bits_Div64 0 lo y = some (((lo / y : Nat) : Int), ((lo % y : Nat) : Int)) := by
  unfold bits_Div64 bits_Div64_j6 bits_Div64_j5
  rw [show ((y : Int) == 0) = false by simp; omega, cond_false, show decide ((y : Int) ≤ 0) = false by simp; omega, cond_false, show ((0 : Int) == 0) = true by simp, cond_true, req_pos (by omega), tdiv_nat, tmod_nat, wrapU_nat _ (Nat.lt_of_le_of_lt (Nat.div_le_self lo y) h)]
def fitOf (neg : Bool) (n d : Nat) : api_Ratio × Int := if n ≤ 1152921504606846976 ∧ d ≤ 1152921504606846976 then (⟨if neg = true then -(n : Int) else n, d⟩, 0) else (⟨0, 0⟩, 6)
theorem fitted_eq (neg : Bool) (nh n dh d : Nat) (hn : n < 18446744073709551616) (hd : d < 18446744073709551616) : ratio_fitted neg ⟨nh, n⟩ ⟨dh, d⟩ = some (fitOf neg (nh * 18446744073709551616 + n) (dh * 18446744073709551616 + d)) := by
  unfold ratio_fitted ratio_fitted_j1 fitOf
  rcases bcases ((((((nh : Nat) : Int) != (0 : Int)) || (((dh : Nat) : Int) != (0 : Int))) || (decide ((1152921504606846976 : Int) < (n : Int)))) || (decide ((1152921504606846976 : Int) < (d : Int)))) with hc | hc <;> rw [hc]
  · simp only [Bool.or_eq_true, decide_eq_true_eq, bne_iff_ne] at hc
    rw [cond_true, if_neg (by omega)]
  · simp only [Bool.or_eq_false_iff, decide_eq_false_iff_not, bne_eq_false_iff_eq] at hc
    have h1 : nh = 0 := by omega
    have h2 : dh = 0 := by omega
    subst h1 h2
    rw [cond_false, if_pos (by omega)]
    simp only [Nat.zero_mul, Nat.zero_add]
    rw [wrap64 (n := (n : Int)) (by omega) (by omega), wrap64 (n := (d : Int)) (by omega) (by omega)]
    cases neg
    · rfl
    · rw [cond_true, wrap64 (by omega) (by omega)]; simp
def redOf (neg : Bool) (n d : Nat) : api_Ratio × Int := fitOf neg (n / Nat.gcd n d) (d / Nat.gcd n d)
theorem reduced0 (neg : Bool) (n d : Nat) (hn : n < 18446744073709551616) (hd : 0 < d) (hd2 : d < 18446744073709551616) : ratio_reduced ⟨neg, ⟨0, n⟩⟩ d = some (redOf neg n d) := by
  have z : ∀ y : Nat, Int.tmod 0 (y : Int) = 0 := fun y => by simp
  have zd : ∀ y : Nat, Int.tdiv 0 (y : Int) = 0 := fun y => by simp
  have hg : 0 < Nat.gcd n d := Nat.gcd_pos_of_pos_right _ hd
  have hgg : Nat.gcd (n % d) d = Nat.gcd n d := by rw [Nat.gcd_comm n d, Nat.gcd_rec d n]
  have h1 := Nat.div_le_self n (Nat.gcd n d)
  have h2 := Nat.div_le_self d (Nat.gcd n d)
  unfold ratio_reduced ratio_wide_mod bits_Rem64 ratio_wide_over redOf
  simp only [z, zd]
  rw [req_pos (by omega), Div64_0 n d hn hd]
  simp only [Option.bind, gcd_eq, hgg, z, zd]
  rw [req_pos (by omega), Div64_0 n _ hn hg]
  simp only []
  rw [req_pos (by omega), tdiv_nat, wrapU_nat _ (Nat.lt_of_le_of_lt h2 hd2), wrapU_id (n := 0) (by omega) (by omega)]
  have := fitted_eq neg 0 (n / Nat.gcd n d) 0 (d / Nat.gcd n d) (Nat.lt_of_le_of_lt h1 hn) (Nat.lt_of_le_of_lt h2 hd2)
  simp only [Int.natCast_zero, Nat.zero_mul, Nat.zero_add] at this
  rw [this]
def newOf (num den : Int) : api_Ratio × Int := if den = 0 then (⟨0, 0⟩, 2) else redOf (!(decide (num < 0) == decide (den < 0))) num.natAbs den.natAbs
theorem New_eq (num den : Int) (hn : I64 num) (hd : I64 den) : ratio_New num den = some (newOf num den) := by
  unfold ratio_New newOf
  by_cases h : den = 0
  · subst h; rfl
  · rw [if_neg h, show (den == 0) = false by simpa using h, cond_false, mag_eq num hn, mag_eq den hd]
    simp only [Option.bind]
    obtain ⟨h1, h2⟩ := hn
    obtain ⟨h3, h4⟩ := hd
    rw [reduced0 _ num.natAbs den.natAbs (by omega) (by omega) (by omega)]
/-! ### products of two words -/
theorem and32 (x : Nat) (hx : x < 18446744073709551616) : bAnd .u64 (x : Int) 4294967295 = ((x % 4294967296 : Nat) : Int) := by
  unfold bAnd
  have e : (BitVec.ofInt (IntKind.bits .u64) (x : Int)).toNat = x := by simp only [IntKind.bits, BitVec.toNat_ofInt]; omega
  have e2 : (BitVec.ofInt (IntKind.bits .u64) (4294967295 : Int)).toNat = 2 ^ 32 - 1 := by decide
  rw [BitVec.toNat_and, e, e2, Nat.and_two_pow_sub_one_eq_mod, wrapU_id (by omega) (by omega)]
theorem shr32 (x : Nat) : bShr .u64 (x : Int) 32 = ((x / 4294967296 : Nat) : Int) := by
  unfold bShr
  rw [show (2 : Int) ^ (min (Int.toNat 32) (IntKind.bits .u64)) = 4294967296 by decide, Int.fdiv_eq_ediv_of_nonneg _ (by omega)]
  omega
theorem Mul64_eq (x y : Nat) (hx : x < 18446744073709551616) (hy : y < 18446744073709551616) : bits_Mul64 x y = some (((x * y / 18446744073709551616 : Nat) : Int), ((x * y % 18446744073709551616 : Nat) : Int)) := by
  unfold bits_Mul64 bindV
  simp only [and32 x hx, and32 y hy, shr32]
  generalize hx0 : x % 4294967296 = x0
  generalize hx1 : x / 4294967296 = x1
  generalize hy0 : y % 4294967296 = y0
  generalize hy1 : y / 4294967296 = y1
  have ex : x = x1 * 4294967296 + x0 := by omega
  have ey : y = y1 * 4294967296 + y0 := by omega
  have b0 : x0 ≤ 4294967295 := by omega
  have b1 : x1 ≤ 4294967295 := by omega
  have c0 : y0 ≤ 4294967295 := by omega
  have c1 : y1 ≤ 4294967295 := by omega
  have p00 : x0 * y0 ≤ 4294967295 * 4294967295 := Nat.mul_le_mul b0 c0
  have p01 : x0 * y1 ≤ 4294967295 * 4294967295 := Nat.mul_le_mul b0 c1
  have p10 : x1 * y0 ≤ 4294967295 * 4294967295 := Nat.mul_le_mul b1 c0
  have p11 : x1 * y1 ≤ 4294967295 * 4294967295 := Nat.mul_le_mul b1 c1
  have exy : x * y = x1 * y1 * 18446744073709551616 + (x0 * y1 + x1 * y0) * 4294967296 + x0 * y0 := by
    rw [ex, ey]; grind
  rw [exy]
  have ez : (x : Int) * (y : Int) = ((x1 * y1 * 18446744073709551616 + (x0 * y1 + x1 * y0) * 4294967296 + x0 * y0 : Nat) : Int) := by rw [← exy]; exact (Int.natCast_mul x y).symm
  rw [ez]
  simp only [← Int.natCast_mul]
  generalize x0 * y0 = a at *
  generalize x0 * y1 = b at *
  generalize x1 * y0 = c at *
  generalize x1 * y1 = d at *
  rw [wrapU_id (n := (a : Int)) (by omega) (by omega), wrapU_id (n := (b : Int)) (by omega) (by omega), wrapU_id (n := (c : Int)) (by omega) (by omega), wrapU_id (n := (d : Int)) (by omega) (by omega)]
  simp only [shr32, ← Int.natCast_add]
  rw [wrapU_id (n := ((c + a / 4294967296 : Nat) : Int)) (by omega) (by omega)]
  simp only [shr32, and32 (c + a / 4294967296) (by omega), ← Int.natCast_add]
  rw [wrapU_id (n := (((c + a / 4294967296) % 4294967296 + b : Nat) : Int)) (by omega) (by omega), wrapU_id (n := ((d + (c + a / 4294967296) / 4294967296 : Nat) : Int)) (by omega) (by omega)]
  simp only [shr32, ← Int.natCast_add]
  rw [wrapU_id (by omega) (by omega), wrapU]
  simp only [Option.some.injEq, Prod.mk.injEq]
  constructor <;> omega
/-! ### comparing -/
def cmpI (x y : Int) : Int := if x < y then -1 else if y < x then 1 else 0
theorem cmpU_eq (x y : Int) : cmp_Compare_uint64 x y = some (cmpI x y) := by
  unfold cmp_Compare_uint64 cmp_isNaN_uint64 cmpI
  simp only [bne_self_eq_false, Option.bind, cond_false]
  by_cases h : x < y
  · simp [h]
  · simp [h]
    by_cases h2 : y < x <;> simp [h2]
theorem wideCmp (m n : Nat) : ratio_wide_compare ⟨((m / 18446744073709551616 : Nat) : Int), ((m % 18446744073709551616 : Nat) : Int)⟩ ⟨((n / 18446744073709551616 : Nat) : Int), ((n % 18446744073709551616 : Nat) : Int)⟩ = some (cmpI m n) := by
  unfold ratio_wide_compare
  simp only [cmpU_eq, Option.bind]
  unfold cmpI
  by_cases h1 : m / 18446744073709551616 < n / 18446744073709551616
  · rw [if_pos (by omega), if_pos (show (m : Int) < n by omega)]; rfl
  · by_cases h2 : n / 18446744073709551616 < m / 18446744073709551616
    · rw [if_neg (by omega), if_pos (by omega), if_neg (show ¬ (m : Int) < n by omega), if_pos (show (n : Int) < m by omega)]; rfl
    · rw [if_neg (by omega), if_neg (by omega)]
      simp only [bne_self_eq_false, cond_false]
      by_cases h3 : m % 18446744073709551616 < n % 18446744073709551616
      · rw [if_pos (by omega), if_pos (show (m : Int) < n by omega)]
      · rw [if_neg (by omega), if_neg (show ¬ (m : Int) < n by omega)]
        by_cases h4 : n % 18446744073709551616 < m % 18446744073709551616
        · rw [if_pos (by omega), if_pos (show (n : Int) < m by omega)]
        · rw [if_neg (by omega), if_neg (show ¬ (n : Int) < m by omega)]
theorem signedProduct_eq (num : Int) (f : Nat) (hn : I64 num) (hf : f < 18446744073709551616) : ratio_signedProduct num f = some ⟨decide (num < 0), ⟨((num.natAbs * f / 18446744073709551616 : Nat) : Int), ((num.natAbs * f % 18446744073709551616 : Nat) : Int)⟩⟩ := by
  unfold ratio_signedProduct ratio_product
  rw [mag_eq num hn]
  simp only [Option.bind]
  obtain ⟨h1, h2⟩ := hn
  rw [Mul64_eq num.natAbs f (by omega) hf]
theorem vR_iff (a : api_Ratio) : vR a = true ↔ 1 ≤ a.Den ∧ a.Den ≤ 1152921504606846976 ∧ -1152921504606846976 ≤ a.Num ∧ a.Num ≤ 1152921504606846976 ∧ Nat.gcd a.Num.natAbs a.Den.natAbs = 1 := by simp [vR]
def cmpR (a b : api_Ratio) : Int := if vR a = true ∧ vR b = true then cmpI (a.Num * b.Den) (b.Num * a.Den) else 0
theorem Compare_eq (a b : api_Ratio) : ratio_Compare a b = some (cmpR a b) := by
  unfold ratio_Compare cmpR
  simp only [Valid_eq, Option.bind, Option.isSome_some, Option.getD_some, implies_true, req_true]
  cases ha : vR a
  · simp
  cases hb : vR b
  · simp
  obtain ⟨a1, a2, a3, a4, _⟩ := (vR_iff a).1 ha
  obtain ⟨b1, b2, b3, b4, _⟩ := (vR_iff b).1 hb
  simp only [Bool.not_true, Bool.or_self, cond_false, and_self, if_true]
  rw [wrapU_id (n := b.Den) (by omega) (by omega), wrapU_id (n := a.Den) (by omega) (by omega)]
  obtain ⟨bd, hbd⟩ : ∃ k : Nat, b.Den = k := ⟨b.Den.toNat, by omega⟩
  obtain ⟨ad, had⟩ : ∃ k : Nat, a.Den = k := ⟨a.Den.toNat, by omega⟩
  rw [hbd, had, signedProduct_eq a.Num bd ⟨by omega, by omega⟩ (by omega), signedProduct_eq b.Num ad ⟨by omega, by omega⟩ (by omega)]
  simp only [wideCmp]
  have key1 : ((a.Num.natAbs * bd : Nat) : Int) = (if a.Num < 0 then -(a.Num * bd) else a.Num * bd) := by
    rw [Int.natCast_mul]
    split
    · rw [← Int.neg_mul]; congr 1; omega
    · congr 1; omega
  have key2 : ((b.Num.natAbs * ad : Nat) : Int) = (if b.Num < 0 then -(b.Num * ad) else b.Num * ad) := by
    rw [Int.natCast_mul]
    split
    · rw [← Int.neg_mul]; congr 1; omega
    · congr 1; omega
  have s1 : a.Num < 0 → a.Num * bd < 0 := fun h => Int.mul_neg_of_neg_of_pos h (by omega)
  have s2 : 0 ≤ a.Num → 0 ≤ a.Num * bd := fun h => Int.mul_nonneg h (by omega)
  have s3 : b.Num < 0 → b.Num * ad < 0 := fun h => Int.mul_neg_of_neg_of_pos h (by omega)
  have s4 : 0 ≤ b.Num → 0 ≤ b.Num * ad := fun h => Int.mul_nonneg h (by omega)
  rw [key1, key2]
  generalize a.Num * (bd : Int) = p at *
  generalize b.Num * (ad : Int) = q at *
  by_cases ha0 : a.Num < 0 <;> by_cases hb0 : b.Num < 0 <;> simp only [ha0, hb0, decide_true, decide_false, Bool.and_self, Bool.and_false, Bool.and_true, Bool.false_and, Bool.true_and, cond_true, cond_false, if_true, if_false, Option.some.injEq] <;> unfold cmpI
  · have := s1 ha0; have := s3 hb0
    by_cases h1 : p < q
    · rw [if_pos (by omega), if_pos h1]
    · rw [if_neg (by omega), if_neg h1]
      by_cases h2 : q < p
      · rw [if_pos (by omega), if_pos h2]
      · rw [if_neg (by omega), if_neg h2]
  · have := s1 ha0; have := s4 (by omega)
    rw [if_pos (by omega)]
  · have := s2 (by omega); have := s3 hb0
    rw [if_neg (by omega), if_pos (by omega)]
end Go.LS
