/-
  Plain functions: AggregateExact (what it needs of several texts). Conditions: none.
-/
import Derived.Test.YtogfplnonlpmcaaD3
namespace Go.LS
set_option linter.all false
set_option linter.unusedSimpArgs false
set_option linter.unusedVariables false
set_option maxRecDepth 20000

theorem ix_nat {α : Type} [Inhabited α] (l : List α) (k : Nat) (h : k < l.length) : ix l (k : Int) = l[k] := by simp [ix, List.getD, h]
theorem ix_mem {α : Type} [Inhabited α] (l : List α) (n : Int) (h0 : 0 ≤ n) (h : n < l.length) : ix l n ∈ l := by
  have : n.toNat < l.length := by omega
  simp [ix, List.getD, this]
theorem i64_add1 (k : Nat) (h : k < 4611686018427387904) : IntKind.i64.wrap ((k : Int) + 1) = ((k + 1 : Nat) : Int) := by
  rw [wrap64 (by omega) (by omega)]; omega
theorem iter_scan {α ρ : Type} (l : List α) (f : Int → Option (Int ⊕ ρ)) (p : α → Bool) (hit : α → ρ) (miss : ρ)
    (hstep : ∀ (k : Nat) (hk : k < l.length), f (k : Int) = some (if p l[k] = true then .inr (hit l[k]) else .inl ((k + 1 : Nat) : Int)))
    (hend : f (l.length : Int) = some (.inr miss)) : iter f (0 : Int) = some (match l.find? p with | some a => hit a | none => miss) := by
  have key : ∀ (n k : Nat), l.length - k = n → k ≤ l.length → iter f (k : Int) = some (match (l.drop k).find? p with | some a => hit a | none => miss) := by
    intro n
    induction n with
    | zero =>
      intro k hn hk
      have : k = l.length := by omega
      subst this
      rw [iter_inr hend, List.drop_length]; rfl
    | succ n ih =>
      intro k hn hk
      have hk' : k < l.length := by omega
      have h1 := hstep k hk'
      rw [List.drop_eq_getElem_cons hk', List.find?_cons]
      cases hp : p l[k] with
      | true => rw [hp, if_pos rfl] at h1; rw [iter_inr h1]
      | false => rw [hp, if_neg (by simp)] at h1; rw [iter_inl h1, ih (k + 1) (by omega) (by omega)]
  have := key _ 0 rfl (by omega)
  simpa using this
theorem find_any {α β : Type} (l : List α) (p : α → Bool) (x y : β) : (match l.find? p with | some _ => x | none => y) = if l.any p = true then x else y := by
  cases h : l.find? p with
  | none =>
    rw [List.find?_eq_none] at h
    have : l.any p = false := by rw [List.any_eq_false]; exact h
    simp [this]
  | some a =>
    have : l.any p = true := List.any_eq_true.2 ⟨a, List.mem_of_find?_eq_some h, List.find?_some h⟩
    simp [this]


theorem wrapU (n : Int) : IntKind.u64.wrap n = n % 18446744073709551616 := by simp [IntKind.wrap, IntKind.bits, IntKind.signed]
theorem wrapU_id {n : Int} (h0 : 0 ≤ n) (h1 : n < 18446744073709551616) : IntKind.u64.wrap n = n := by rw [wrapU]; omega
theorem wrapU_nat (k : Nat) (h : k < 18446744073709551616) : IntKind.u64.wrap (k : Int) = k := wrapU_id (by omega) (by omega)
def I64 (n : Int) : Prop := -9223372036854775808 ≤ n ∧ n < 9223372036854775808
theorem mag_eq (n : Int) (h : I64 n) : ratio_magnitude n = some (n.natAbs : Int) := by
  obtain ⟨h1, h2⟩ := h
  unfold ratio_magnitude
  rcases bcases (decide (n < (0 : Int))) with hc | hc <;> rw [hc]
  · have : n < 0 := by simpa using hc
    simp only [cond_true, wrapU, Option.some.injEq]
    omega
  · have : 0 ≤ n := by simpa using hc
    simp only [cond_false, wrapU, Option.some.injEq]
    omega
theorem tmod_nat (a b : Nat) : Int.tmod (a : Int) (b : Int) = ((a % b : Nat) : Int) := by
  rw [Int.tmod_eq_emod_of_nonneg (by omega)]; exact_mod_cast rfl
theorem tdiv_nat (a b : Nat) : Int.tdiv (a : Int) (b : Int) = ((a / b : Nat) : Int) := by
  rw [Int.tdiv_eq_ediv_of_nonneg (by omega)]; exact_mod_cast rfl
theorem gcd_eq (a b : Nat) : ratio_gcd a b = some ((Nat.gcd a b : Nat) : Int) := by
  have key : ∀ n m : Nat, iter ratio_gcd_l2 ((m : Int), (n : Int)) = some ((Nat.gcd m n : Nat) : Int) := by
    intro n
    induction n using Nat.strongRecOn with
    | _ n ih =>
      intro m
      by_cases hn : n = 0
      · subst hn
        rw [iter_inr (r := (m : Int))]
        · simp
        · simp [ratio_gcd_l2]
      · have hs : ratio_gcd_l2 ((m : Int), (n : Int)) = some (.inl ((n : Int), ((m % n : Nat) : Int))) := by
          simp only [ratio_gcd_l2]
          rw [show ((n : Int) != 0) = true by simp [hn], cond_true, req_pos (by omega), tmod_nat]
        rw [iter_inl hs, ih (m % n) (Nat.mod_lt _ (by omega)) n]
        rw [Nat.gcd_comm m n, Nat.gcd_rec n m, Nat.gcd_comm]
  unfold ratio_gcd ratio_gcd_j1
  rw [key b a]; rfl
def vR (a : api_Ratio) : Bool := decide (1 ≤ a.Den ∧ a.Den ≤ 1152921504606846976 ∧ -1152921504606846976 ≤ a.Num ∧ a.Num ≤ 1152921504606846976 ∧ Nat.gcd a.Num.natAbs a.Den.natAbs = 1)
theorem Valid_eq (a : api_Ratio) : ratio_Valid a = some (vR a) := by
  unfold ratio_Valid vR
  rcases bcases ((((decide (a.Den < (1 : Int))) || (decide ((1152921504606846976 : Int) < a.Den))) || (decide (a.Num < (-1152921504606846976 : Int)))) || (decide ((1152921504606846976 : Int) < a.Num))) with hc | hc <;> rw [hc]
  · simp only [Bool.or_eq_true, decide_eq_true_eq] at hc
    rw [cond_true]
    congr 1
    symm
    rw [decide_eq_false_iff_not]
    omega
  · simp only [Bool.or_eq_false_iff, decide_eq_false_iff_not] at hc
    rw [cond_false, mag_eq a.Num ⟨by omega, by omega⟩]
    simp only [Option.bind]
    rw [wrapU_id (by omega) (by omega), show a.Den = ((a.Den.natAbs : Nat) : Int) by omega, gcd_eq]
    simp only [Int.natAbs_natCast, Option.some.injEq]
    rw [Bool.eq_iff_iff]
    simp only [beq_iff_eq, decide_eq_true_eq]
    omega
theorem Div64_0 (lo y : Nat) (h : lo < 18446744073709551616) (hy : 0 < y) : bits_Div64 0 lo y = some (((lo / y : Nat) : Int), ((lo % y : Nat) : Int)) := by
  unfold bits_Div64 bits_Div64_j6 bits_Div64_j5
  rw [show ((y : Int) == 0) = false by simp; omega, cond_false, show decide ((y : Int) ≤ 0) = false by simp; omega, cond_false, show ((0 : Int) == 0) = true by simp, cond_true, req_pos (by omega), tdiv_nat, tmod_nat, wrapU_nat _ (Nat.lt_of_le_of_lt (Nat.div_le_self lo y) h)]
def fitOf (neg : Bool) (n d : Nat) : api_Ratio × Int := if n ≤ 1152921504606846976 ∧ d ≤ 1152921504606846976 then (⟨if neg = true then -(n : Int) else n, d⟩, 0) else (⟨0, 0⟩, 6)
theorem fitted_eq (neg : Bool) (nh n dh d : Nat) (hn : n < 18446744073709551616) (hd : d < 18446744073709551616) : ratio_fitted neg ⟨nh, n⟩ ⟨dh, d⟩ = some (fitOf neg (nh * 18446744073709551616 + n) (dh * 18446744073709551616 + d)) := by
  unfold ratio_fitted ratio_fitted_j1 fitOf
  rcases bcases ((((((nh : Nat) : Int) != (0 : Int)) || (((dh : Nat) : Int) != (0 : Int))) || (decide ((1152921504606846976 : Int) < (n : Int)))) || (decide ((1152921504606846976 : Int) < (d : Int)))) with hc | hc <;> rw [hc]
  · simp only [Bool.or_eq_true, decide_eq_true_eq, bne_iff_ne] at hc
    rw [cond_true, if_neg (by omega)]
  · simp only [Bool.or_eq_false_iff, decide_eq_false_iff_not, bne_eq_false_iff_eq] at hc
    have h1 : nh = 0 := by omega
    have h2 : dh = 0 := by omega
    subst h1 h2
    rw [cond_false, if_pos (by omega)]
    simp only [Nat.zero_mul, Nat.zero_add]
    rw [wrap64 (n := (n : Int)) (by omega) (by omega), wrap64 (n := (d : Int)) (by omega) (by omega)]
    cases neg
    · rfl
    · rw [cond_true, wrap64 (by omega) (by omega)]; simp
def redOf (neg : Bool) (n d : Nat) : api_Ratio × Int := fitOf neg (n / Nat.gcd n d) (d / Nat.gcd n d)
theorem reduced0 (neg : Bool) (n d : Nat) (hn : n < 18446744073709551616) (hd : 0 < d) (hd2 : d < 18446744073709551616) : ratio_reduced ⟨neg, ⟨0, n⟩⟩ d = some (redOf neg n d) := by
  have z : ∀ y : Nat, Int.tmod 0 (y : Int) = 0 := fun y => by simp
  have zd : ∀ y : Nat, Int.tdiv 0 (y : Int) = 0 := fun y => by simp
  have hg : 0 < Nat.gcd n d := Nat.gcd_pos_of_pos_right _ hd
  have hgg : Nat.gcd (n % d) d = Nat.gcd n d := by rw [Nat.gcd_comm n d, Nat.gcd_rec d n]
  have h1 := Nat.div_le_self n (Nat.gcd n d)
  have h2 := Nat.div_le_self d (Nat.gcd n d)
  unfold ratio_reduced ratio_wide_mod bits_Rem64 ratio_wide_over redOf
  simp only [z, zd]
  rw [req_pos (by omega), Div64_0 n d hn hd]
  simp only [Option.bind, gcd_eq, hgg, z, zd]
  rw [req_pos (by omega), Div64_0 n _ hn hg]
  simp only []
  rw [req_pos (by omega), tdiv_nat, wrapU_nat _ (Nat.lt_of_le_of_lt h2 hd2), wrapU_id (n := 0) (by omega) (by omega)]
  have := fitted_eq neg 0 (n / Nat.gcd n d) 0 (d / Nat.gcd n d) (Nat.lt_of_le_of_lt h1 hn) (Nat.lt_of_le_of_lt h2 hd2)
  simp only [Int.natCast_zero, Nat.zero_mul, Nat.zero_add] at this
  rw [this]
def newOf (num den : Int) : api_Ratio × Int := if den = 0 then (⟨0, 0⟩, 2) else redOf (!(decide (num < 0) == decide (den < 0))) num.natAbs den.natAbs
theorem New_eq (num den : Int) (hn : I64 num) (hd : I64 den) : ratio_New num den = some (newOf num den) := by
  unfold ratio_New newOf
  by_cases h : den = 0
  · subst h; rfl
  · rw [if_neg h, show (den == 0) = false by simpa using h, cond_false, mag_eq num hn, mag_eq den hd]
    simp only [Option.bind]
    obtain ⟨h1, h2⟩ := hn
    obtain ⟨h3, h4⟩ := hd
    rw [reduced0 _ num.natAbs den.natAbs (by omega) (by omega) (by omega)]
theorem and32 (x : Nat) (hx : x < 18446744073709551616) : bAnd .u64 (x : Int) 4294967295 = ((x % 4294967296 : Nat) : Int) := by
  unfold bAnd
  have e : (BitVec.ofInt (IntKind.bits .u64) (x : Int)).toNat = x := by simp only [IntKind.bits, BitVec.toNat_ofInt]; omega
  have e2 : (BitVec.ofInt (IntKind.bits .u64) (4294967295 : Int)).toNat = 2 ^ 32 - 1 := by decide
  rw [BitVec.toNat_and, e, e2, Nat.and_two_pow_sub_one_eq_mod, wrapU_id (by omega) (by omega)]
theorem shr32 (x : Nat) : bShr .u64 (x : Int) 32 = ((x / 4294967296 : Nat) : Int) := by
  unfold bShr
  rw [show (2 : Int) ^ (min (Int.toNat 32) (IntKind.bits .u64)) = 4294967296 by decide, Int.fdiv_eq_ediv_of_nonneg _ (by omega)]
  omega
theorem Mul64_eq (x y : Nat) (hx : x < 18446744073709551616) (hy : y < 18446744073709551616) : bits_Mul64 x y = some (((x * y / 18446744073709551616 : Nat) : Int), ((x * y % 18446744073709551616 : Nat) : Int)) := by
  unfold bits_Mul64 bindV
  simp only [and32 x hx, and32 y hy, shr32]
  generalize hx0 : x % 4294967296 = x0
  generalize hx1 : x / 4294967296 = x1
  generalize hy0 : y % 4294967296 = y0
  generalize hy1 : y / 4294967296 = y1
  have ex : x = x1 * 4294967296 + x0 := by omega
  have ey : y = y1 * 4294967296 + y0 := by omega
  have b0 : x0 ≤ 4294967295 := by omega
  have b1 : x1 ≤ 4294967295 := by omega
  have c0 : y0 ≤ 4294967295 := by omega
  have c1 : y1 ≤ 4294967295 := by omega
  have p00 : x0 * y0 ≤ 4294967295 * 4294967295 := Nat.mul_le_mul b0 c0
  have p01 : x0 * y1 ≤ 4294967295 * 4294967295 := Nat.mul_le_mul b0 c1
  have p10 : x1 * y0 ≤ 4294967295 * 4294967295 := Nat.mul_le_mul b1 c0
  have p11 : x1 * y1 ≤ 4294967295 * 4294967295 := Nat.mul_le_mul b1 c1
  have exy : x * y = x1 * y1 * 18446744073709551616 + (x0 * y1 + x1 * y0) * 4294967296 + x0 * y0 := by
    rw [ex, ey]; grind
  rw [exy]
  have ez : (x : Int) * (y : Int) = ((x1 * y1 * 18446744073709551616 + (x0 * y1 + x1 * y0) * 4294967296 + x0 * y0 : Nat) : Int) := by rw [← exy]; exact (Int.natCast_mul x y).symm
  rw [ez]
  simp only [← Int.natCast_mul]
  generalize x0 * y0 = a at *
  generalize x0 * y1 = b at *
  generalize x1 * y0 = c at *
  generalize x1 * y1 = d at *
  rw [wrapU_id (n := (a : Int)) (by omega) (by omega), wrapU_id (n := (b : Int)) (by omega) (by omega), wrapU_id (n := (c : Int)) (by omega) (by omega), wrapU_id (n := (d : Int)) (by omega) (by omega)]
  simp only [shr32, ← Int.natCast_add]
  rw [wrapU_id (n := ((c + a / 4294967296 : Nat) : Int)) (by omega) (by omega)]
  simp only [shr32, and32 (c + a / 4294967296) (by omega), ← Int.natCast_add]
  rw [wrapU_id (n := (((c + a / 4294967296) % 4294967296 + b : Nat) : Int)) (by omega) (by omega), wrapU_id (n := ((d + (c + a / 4294967296) / 4294967296 : Nat) : Int)) (by omega) (by omega)]
  simp only [shr32, ← Int.natCast_add]
  rw [wrapU_id (by omega) (by omega), wrapU]
  simp only [Option.some.injEq, Prod.mk.injEq]
  constructor <;> omega
def cmpI (x y : Int) : Int := if x < y then -1 else if y < x then 1 else 0
theorem cmpU_eq (x y : Int) : cmp_Compare_uint64 x y = some (cmpI x y) := by
  unfold cmp_Compare_uint64 cmp_isNaN_uint64 cmpI
  simp only [bne_self_eq_false, Option.bind, cond_false]
  by_cases h : x < y
  · simp [h]
  · simp [h]
    by_cases h2 : y < x <;> simp [h2]
theorem wideCmp (m n : Nat) : ratio_wide_compare ⟨((m / 18446744073709551616 : Nat) : Int), ((m % 18446744073709551616 : Nat) : Int)⟩ ⟨((n / 18446744073709551616 : Nat) : Int), ((n % 18446744073709551616 : Nat) : Int)⟩ = some (cmpI m n) := by
  unfold ratio_wide_compare
  simp only [cmpU_eq, Option.bind]
  unfold cmpI
  by_cases h1 : m / 18446744073709551616 < n / 18446744073709551616
  · rw [if_pos (by omega), if_pos (show (m : Int) < n by omega)]; rfl
  · by_cases h2 : n / 18446744073709551616 < m / 18446744073709551616
    · rw [if_neg (by omega), if_pos (by omega), if_neg (show ¬ (m : Int) < n by omega), if_pos (show (n : Int) < m by omega)]; rfl
    · rw [if_neg (by omega), if_neg (by omega)]
      simp only [bne_self_eq_false, cond_false]
      by_cases h3 : m % 18446744073709551616 < n % 18446744073709551616
      · rw [if_pos (by omega), if_pos (show (m : Int) < n by omega)]
      · rw [if_neg (by omega), if_neg (show ¬ (m : Int) < n by omega)]
        by_cases h4 : n % 18446744073709551616 < m % 18446744073709551616
        · rw [if_pos (by omega), if_pos (show (n : Int) < m by omega)]
        · rw [if_neg (by omega), if_neg (show ¬ (n : Int) < m by omega)]
theorem signedProduct_eq (num : Int) (f : Nat) (hn : I64 num) (hf : f < 18446744073709551616) : ratio_signedProduct num f = some ⟨decide (num < 0), ⟨((num.natAbs * f / 18446744073709551616 : Nat) : Int), ((num.natAbs * f % 18446744073709551616 : Nat) : Int)⟩⟩ := by
  unfold ratio_signedProduct ratio_product
  rw [mag_eq num hn]
  simp only [Option.bind]
  obtain ⟨h1, h2⟩ := hn
  rw [Mul64_eq num.natAbs f (by omega) hf]
theorem vR_iff (a : api_Ratio) : vR a = true ↔ 1 ≤ a.Den ∧ a.Den ≤ 1152921504606846976 ∧ -1152921504606846976 ≤ a.Num ∧ a.Num ≤ 1152921504606846976 ∧ Nat.gcd a.Num.natAbs a.Den.natAbs = 1 := by simp [vR]
def cmpR (a b : api_Ratio) : Int := if vR a = true ∧ vR b = true then cmpI (a.Num * b.Den) (b.Num * a.Den) else 0
theorem Compare_eq (a b : api_Ratio) : ratio_Compare a b = some (cmpR a b) := by
  unfold ratio_Compare cmpR
  simp only [Valid_eq, Option.bind, Option.isSome_some, Option.getD_some, implies_true, req_true]
  cases ha : vR a
  · simp
  cases hb : vR b
  · simp
  obtain ⟨a1, a2, a3, a4, _⟩ := (vR_iff a).1 ha
  obtain ⟨b1, b2, b3, b4, _⟩ := (vR_iff b).1 hb
  simp only [Bool.not_true, Bool.or_self, cond_false, and_self, if_true]
  rw [wrapU_id (n := b.Den) (by omega) (by omega), wrapU_id (n := a.Den) (by omega) (by omega)]
  obtain ⟨bd, hbd⟩ : ∃ k : Nat, b.Den = k := ⟨b.Den.toNat, by omega⟩
  obtain ⟨ad, had⟩ : ∃ k : Nat, a.Den = k := ⟨a.Den.toNat, by omega⟩
  rw [hbd, had, signedProduct_eq a.Num bd ⟨by omega, by omega⟩ (by omega), signedProduct_eq b.Num ad ⟨by omega, by omega⟩ (by omega)]
  simp only [wideCmp]
  have key1 : ((a.Num.natAbs * bd : Nat) : Int) = (if a.Num < 0 then -(a.Num * bd) else a.Num * bd) := by
    rw [Int.natCast_mul]
    split
    · rw [← Int.neg_mul]; congr 1; omega
    · congr 1; omega
  have key2 : ((b.Num.natAbs * ad : Nat) : Int) = (if b.Num < 0 then -(b.Num * ad) else b.Num * ad) := by
    rw [Int.natCast_mul]
    split
    · rw [← Int.neg_mul]; congr 1; omega
    · congr 1; omega
  have s1 : a.Num < 0 → a.Num * bd < 0 := fun h => Int.mul_neg_of_neg_of_pos h (by omega)
  have s2 : 0 ≤ a.Num → 0 ≤ a.Num * bd := fun h => Int.mul_nonneg h (by omega)
  have s3 : b.Num < 0 → b.Num * ad < 0 := fun h => Int.mul_neg_of_neg_of_pos h (by omega)
  have s4 : 0 ≤ b.Num → 0 ≤ b.Num * ad := fun h => Int.mul_nonneg h (by omega)
  rw [key1, key2]
  generalize a.Num * (bd : Int) = p at *
  generalize b.Num * (ad : Int) = q at *
  by_cases ha0 : a.Num < 0 <;> by_cases hb0 : b.Num < 0 <;> simp only [ha0, hb0, decide_true, decide_false, Bool.and_self, Bool.and_false, Bool.and_true, Bool.false_and, Bool.true_and, cond_true, cond_false, if_true, if_false, Option.some.injEq] <;> unfold cmpI
  · have := s1 ha0; have := s3 hb0
    by_cases h1 : p < q
    · rw [if_pos (by omega), if_pos h1]
    · rw [if_neg (by omega), if_neg h1]
      by_cases h2 : q < p
      · rw [if_pos (by omega), if_pos h2]
      · rw [if_neg (by omega), if_neg h2]
  · have := s1 ha0; have := s4 (by omega)
    rw [if_pos (by omega)]
  · have := s2 (by omega); have := s3 hb0
    rw [if_neg (by omega), if_pos (by omega)]

theorem Size_eq (n : Int) (h : I64 n) : ref01_Size n = some (n.natAbs : Int) := by
  obtain ⟨h1, h2⟩ := h
  unfold ref01_Size bindV
  rcases bcases (decide (n < (0 : Int))) with hc | hc <;> rw [hc]
  · have : n < 0 := by simpa using hc
    rw [cond_true, wrap64 (n := n + 1) (by omega) (by omega), wrap64 (n := 0 - (n + 1)) (by omega) (by omega)]
    simp only [wrapU, Option.some.injEq]
    omega
  · have : 0 ≤ n := by simpa using hc
    simp only [cond_false, wrapU, Option.some.injEq]
    omega
theorem Divide0 (a b : Nat) (ha : a < 18446744073709551616) (hb : 0 < b) : ref01_Divide ⟨0, a⟩ ⟨0, b⟩ = some (⟨0, ((a / b : Nat) : Int)⟩, ⟨0, ((a % b : Nat) : Int)⟩) := by
  unfold ref01_Divide
  simp only [beq_self_eq_true, Bool.and_self, cond_true]
  rw [req_pos (by omega), tdiv_nat, tmod_nat, wrapU_nat _ (Nat.lt_of_le_of_lt (Nat.div_le_self a b) ha)]
theorem Divisor0 (a b : Nat) (ha : a < 18446744073709551616) (hb : b < 18446744073709551616) : ref01_Divisor ⟨0, a⟩ ⟨0, b⟩ = some ⟨0, ((Nat.gcd a b : Nat) : Int)⟩ := by
  have key : ∀ n m : Nat, m < 18446744073709551616 → n < 18446744073709551616 → iter ref01_Divisor_l2 ((0 : Int), (m : Int), (0 : Int), (n : Int)) = some ((0 : Int), ((Nat.gcd m n : Nat) : Int)) := by
    intro n
    induction n using Nat.strongRecOn with
    | _ n ih =>
      intro m hm hn'
      by_cases hn : n = 0
      · subst hn
        rw [iter_inr (r := ((0 : Int), (m : Int)))]
        · simp
        · simp [ref01_Divisor_l2]
      · have hs : ref01_Divisor_l2 ((0 : Int), (m : Int), (0 : Int), (n : Int)) = some (.inl ((0 : Int), (n : Int), (0 : Int), ((m % n : Nat) : Int))) := by
          simp only [ref01_Divisor_l2]
          rw [show (!(((0 : Int) == 0) && ((n : Int) == 0))) = true by simp [hn], cond_true, Divide0 m n hm (by omega)]
          rfl
        have hlt := Nat.mod_lt m (show 0 < n by omega)
        rw [iter_inl hs, ih (m % n) hlt n hn' (by omega)]
        rw [Nat.gcd_comm m n, Nat.gcd_rec n m, Nat.gcd_comm]
  unfold ref01_Divisor ref01_Divisor_j1
  rw [key b a ha hb]; rfl
theorem Reduce0 (neg : Bool) (n d : Nat) (hn : n < 18446744073709551616) (hd : 0 < d) (hd2 : d < 18446744073709551616) : ref01_Reduce neg ⟨0, n⟩ ⟨0, d⟩ = some (redOf neg n d) := by
  have hg : 0 < Nat.gcd n d := Nat.gcd_pos_of_pos_right _ hd
  have h1 := Nat.div_le_self n (Nat.gcd n d)
  have h2 := Nat.div_le_self d (Nat.gcd n d)
  unfold ref01_Reduce ref01_Reduce_j1 redOf fitOf
  rw [Divisor0 n d hn hd2]
  simp only [Option.bind]
  rw [Divide0 n _ hn hg, Divide0 d _ hd2 hg]
  simp only []
  generalize n / Nat.gcd n d = x at *
  generalize d / Nat.gcd n d = y at *
  rcases bcases ((((decide ((0 : Int) < 0)) || (decide ((0 : Int) < 0))) || (decide ((1152921504606846976 : Int) < (x : Int)))) || (decide ((1152921504606846976 : Int) < (y : Int)))) with hc | hc <;> rw [hc]
  · simp only [Bool.or_eq_true, decide_eq_true_eq] at hc
    rw [cond_true, if_neg (by omega)]
  · simp only [Bool.or_eq_false_iff, decide_eq_false_iff_not] at hc
    rw [cond_false, if_pos (by omega), wrap64 (n := (x : Int)) (by omega) (by omega), wrap64 (n := (y : Int)) (by omega) (by omega)]
    cases neg
    · rfl
    · rw [cond_true, wrap64 (by omega) (by omega)]; simp
theorem NewR_eq (num den : Int) (hn : I64 num) (hd : I64 den) : ref01_New num den = some (newOf num den) := by
  unfold ref01_New newOf
  by_cases h : den = 0
  · subst h; rfl
  · rw [if_neg h, show (den == 0) = false by simpa using h, cond_false, Size_eq num hn, Size_eq den hd]
    simp only [Option.bind]
    obtain ⟨h1, h2⟩ := hn
    obtain ⟨h3, h4⟩ := hd
    rw [Reduce0 _ num.natAbs den.natAbs (by omega) (by omega) (by omega)]
theorem ValidR_eq (a : api_Ratio) : ref01_Valid a = some (vR a) := by
  unfold ref01_Valid vR
  rcases bcases ((((decide (a.Den < (1 : Int))) || (decide ((1152921504606846976 : Int) < a.Den))) || (decide (a.Num < (-1152921504606846976 : Int)))) || (decide ((1152921504606846976 : Int) < a.Num))) with hc | hc <;> rw [hc]
  · simp only [Bool.or_eq_true, decide_eq_true_eq] at hc
    rw [cond_true]
    congr 1
    symm
    rw [decide_eq_false_iff_not]
    omega
  · simp only [Bool.or_eq_false_iff, decide_eq_false_iff_not] at hc
    rw [cond_false, Size_eq a.Num ⟨by omega, by omega⟩, Size_eq a.Den ⟨by omega, by omega⟩]
    simp only [Option.bind]
    rw [Divisor0 _ _ (by omega) (by omega)]
    simp only [beq_self_eq_true, Bool.true_and, Option.some.injEq]
    rw [Bool.eq_iff_iff]
    simp only [beq_iff_eq, decide_eq_true_eq]
    omega
def WR (n : Nat) : ref01_Wide := ⟨((n / 18446744073709551616 : Nat) : Int), ((n % 18446744073709551616 : Nat) : Int)⟩
theorem Product_eq (x y : Nat) (hx : x < 18446744073709551616) (hy : y < 18446744073709551616) : ref01_Product x y = some (WR (x * y)) := by
  unfold ref01_Product
  rw [Mul64_eq x y hx hy]; rfl
theorem Plus_eq (m n : Nat) (h : m + n < 340282366920938463463374607431768211456) : ref01_Plus (WR m) (WR n) = some (WR (m + n)) := by
  unfold ref01_Plus bits_Add64 WR
  dsimp only
  rw [req_pos (by omega)]
  simp only [Option.bind]
  rw [req_pos (by omega)]
  simp only [Option.some.injEq, ref01_Wide.mk.injEq]
  constructor <;> omega
theorem Minus_eq (m n : Nat) (h : n ≤ m) (hm : m < 340282366920938463463374607431768211456) : ref01_Minus (WR m) (WR n) = some (WR (m - n)) := by
  unfold ref01_Minus bits_Sub64 WR
  dsimp only
  rw [req_pos (by omega)]
  simp only [Option.bind]
  by_cases hlt : ((m % 18446744073709551616 : Nat) : Int) < ((n % 18446744073709551616 : Nat) : Int) + 0
  · rw [if_pos hlt, req_pos (by omega)]
    simp only [Option.some.injEq, ref01_Wide.mk.injEq]
    constructor <;> omega
  · rw [if_neg hlt, req_pos (by omega)]
    simp only [Option.some.injEq, ref01_Wide.mk.injEq]
    constructor <;> omega
theorem Order_eq (m n : Nat) : ref01_Order (WR m) (WR n) = some (cmpI m n) := by
  unfold ref01_Order WR cmpI
  rcases bcases ((decide (((m / 18446744073709551616 : Nat) : Int) < ((n / 18446744073709551616 : Nat) : Int))) || ((((m / 18446744073709551616 : Nat) : Int) == ((n / 18446744073709551616 : Nat) : Int)) && (decide (((m % 18446744073709551616 : Nat) : Int) < ((n % 18446744073709551616 : Nat) : Int))))) with hc | hc <;> simp only [hc]
  · simp only [Bool.or_eq_true, Bool.and_eq_true, decide_eq_true_eq, beq_iff_eq] at hc
    rw [cond_true, if_pos (by omega)]
  · simp only [Bool.or_eq_false_iff, Bool.and_eq_false_iff, decide_eq_false_iff_not, beq_eq_false_iff_ne] at hc
    rw [cond_false, if_neg (by omega)]
    rcases bcases ((((m / 18446744073709551616 : Nat) : Int) == ((n / 18446744073709551616 : Nat) : Int)) && (((m % 18446744073709551616 : Nat) : Int) == ((n % 18446744073709551616 : Nat) : Int))) with hd | hd <;> simp only [hd]
    · simp only [Bool.and_eq_true, beq_iff_eq] at hd
      rw [cond_true, if_neg (by omega)]
    · simp only [Bool.and_eq_false_iff, beq_eq_false_iff_ne] at hd
      rw [cond_false, if_pos (by omega)]
def sv (neg : Bool) (n : Nat) : Int := if neg = true then -(n : Int) else n
theorem total_eq (x : Bool) (m : Nat) (y : Bool) (n : Nat) (h : m + n < 340282366920938463463374607431768211456) : ∃ s k, ref01_total x (WR m) y (WR n) = some (s, WR k) ∧ sv s k = sv x m + sv y n ∧ k ≤ m + n ∧ ((x = y → s = x)) := by
  unfold ref01_total
  by_cases hxy : x = y
  · subst hxy
    rw [show (x == x) = true by simp, cond_true, Plus_eq m n h]
    exact ⟨x, m + n, rfl, by unfold sv; cases x <;> simp <;> omega, by omega, fun _ => rfl⟩
  · rw [show (x == y) = false by simpa using hxy, cond_false, Order_eq]
    simp only [Option.bind]
    have hy : y = !x := by cases x <;> cases y <;> simp_all
    subst hy
    by_cases hmn : n ≤ m
    · rw [show decide ((0 : Int) ≤ cmpI m n) = true by unfold cmpI; rw [if_neg (by omega)]; split <;> simp, cond_true, Minus_eq m n hmn (by omega)]
      exact ⟨x, m - n, rfl, by unfold sv; cases x <;> simp <;> omega, by omega, fun h => absurd h hxy⟩
    · rw [show decide ((0 : Int) ≤ cmpI m n) = false by unfold cmpI; rw [if_pos (by omega)]; simp, cond_false, Minus_eq n m (by omega) (by omega)]
      exact ⟨!x, n - m, rfl, by unfold sv; cases x <;> simp <;> omega, by omega, fun h => absurd h hxy⟩
theorem WR_zero (k : Nat) (hk : k < 340282366920938463463374607431768211456) : (((WR k).Hi == 0) && ((WR k).Lo == 0)) = decide (k = 0) := by
  rw [Bool.eq_iff_iff]
  simp only [WR, Bool.and_eq_true, beq_iff_eq, decide_eq_true_eq]
  omega
theorem mul_lt {a b : Nat} (ha : a ≤ 1152921504606846976) (hb : b ≤ 1152921504606846976) : a * b ≤ 1329227995784915872903807060280344576 := Nat.mul_le_mul ha hb
theorem CompareR_eq (a b : api_Ratio) : ref01_Compare a b = some (cmpR a b) := by
  unfold ref01_Compare cmpR
  simp only [ValidR_eq, Option.bind, Option.isSome_some, Option.getD_some, implies_true, req_true]
  cases ha : vR a
  · simp
  cases hb : vR b
  · simp
  obtain ⟨a1, a2, a3, a4, _⟩ := (vR_iff a).1 ha
  obtain ⟨b1, b2, b3, b4, _⟩ := (vR_iff b).1 hb
  simp only [Bool.not_true, Bool.or_self, cond_false, and_self, if_true]
  rw [Size_eq a.Num ⟨by omega, by omega⟩, Size_eq b.Den ⟨by omega, by omega⟩, Size_eq b.Num ⟨by omega, by omega⟩, Size_eq a.Den ⟨by omega, by omega⟩]
  simp only []
  rw [Product_eq _ _ (by omega) (by omega)]
  simp only []
  rw [Product_eq _ _ (by omega) (by omega)]
  simp only []
  have m1 := mul_lt (a := a.Num.natAbs) (b := b.Den.natAbs) (by omega) (by omega)
  have m2 := mul_lt (a := b.Num.natAbs) (b := a.Den.natAbs) (by omega) (by omega)
  obtain ⟨s, k, e, hs, hk, _⟩ := total_eq (decide (a.Num < (0 : Int))) (a.Num.natAbs * b.Den.natAbs) (decide ((0 : Int) < b.Num)) (b.Num.natAbs * a.Den.natAbs) (by omega)
  rw [e]
  simp only []
  rw [WR_zero k (by omega)]
  have k1 : sv (decide (a.Num < (0 : Int))) (a.Num.natAbs * b.Den.natAbs) = a.Num * b.Den := by
    unfold sv
    rw [Int.natCast_mul, show ((b.Den.natAbs : Nat) : Int) = b.Den by omega]
    by_cases h : a.Num < 0
    · simp only [h, decide_true, if_true]; rw [← Int.neg_mul]; congr 1; omega
    · simp only [h, decide_false, Bool.false_eq_true, if_false]; congr 1; omega
  have k2 : sv (decide ((0 : Int) < b.Num)) (b.Num.natAbs * a.Den.natAbs) = -(b.Num * a.Den) := by
    unfold sv
    rw [Int.natCast_mul, show ((a.Den.natAbs : Nat) : Int) = a.Den by omega]
    by_cases h : 0 < b.Num
    · simp only [h, decide_true, if_true]; congr 2; omega
    · simp only [h, decide_false, Bool.false_eq_true, if_false]; rw [← Int.neg_mul]; congr 1; omega
  rw [k1, k2] at hs
  generalize a.Num * b.Den = p at *
  generalize b.Num * a.Den = q at *
  unfold sv at hs
  unfold cmpI
  by_cases hk0 : k = 0
  · rw [show decide (k = 0) = true by simp [hk0], cond_true]
    have : p = q := by subst hk0; cases s <;> simp at hs <;> omega
    rw [if_neg (by omega), if_neg (by omega)]
  · rw [show decide (k = 0) = false by simp [hk0], cond_false]
    cases s
    · simp at hs
      rw [cond_false, if_neg (by omega), if_pos (by omega)]
    · simp at hs
      rw [cond_true, if_pos (by omega)]
theorem LessR_eq (a b : api_Ratio) : ref01_Less a b = some (decide (cmpR a b < 0)) := by
  unfold ref01_Less; rw [CompareR_eq]; rfl
theorem redOf_val (neg : Bool) (n d : Nat) (hd : 0 < d) (r : api_Ratio) (h : redOf neg n d = (r, 0)) : vR r = true ∧ r.Num * d = sv neg n * r.Den ∧ (0 < r.Den) := by
  have hg : 0 < Nat.gcd n d := Nat.gcd_pos_of_pos_right _ hd
  obtain ⟨x, hx⟩ := Nat.gcd_dvd_left n d
  obtain ⟨y, hy⟩ := Nat.gcd_dvd_right n d
  have hx' : n / Nat.gcd n d = x := by conv => lhs; lhs; rw [hx]
                                       exact Nat.mul_div_cancel_left x hg
  have hy' : d / Nat.gcd n d = y := by conv => lhs; lhs; rw [hy]
                                       exact Nat.mul_div_cancel_left y hg
  have hcop : Nat.gcd x y = 1 := by rw [← hx', ← hy']; exact Nat.gcd_div_gcd_div_gcd_of_pos_right hd
  have hy0 : 0 < y := by
    rcases Nat.eq_zero_or_pos y with h0 | h0
    · rw [h0, Nat.mul_zero] at hy; omega
    · exact h0
  unfold redOf fitOf at h
  rw [hx', hy'] at h
  split at h
  · rename_i hle
    obtain ⟨rfl⟩ := Prod.mk.inj h
    refine ⟨?_, ?_, by show (0 : Int) < (y : Int); omega⟩
    · rw [vR_iff]
      refine ⟨by show (1 : Int) ≤ (y : Int); omega, by show (y : Int) ≤ _; omega, ?_, ?_, ?_⟩
      · show _ ≤ (if neg = true then -(x : Int) else x); split <;> omega
      · show (if neg = true then -(x : Int) else x) ≤ _; split <;> omega
      · show Nat.gcd (if neg = true then -(x : Int) else x).natAbs ((y : Int)).natAbs = 1
        cases neg <;> simp [hcop]
    · show (if neg = true then -(x : Int) else x) * (d : Int) = sv neg n * (y : Int)
      unfold sv
      have e : (x : Int) * (d : Int) = (n : Int) * (y : Int) := by
        rw [← Int.natCast_mul, ← Int.natCast_mul]
        congr 1
        calc x * d = x * (Nat.gcd n d * y) := by rw [← hy]
          _ = Nat.gcd n d * x * y := by rw [Nat.mul_left_comm, Nat.mul_assoc]
          _ = n * y := by rw [← hx]
      cases neg
      · simpa using e
      · simp only [if_true, Int.neg_mul, e]
  · cases h

theorem some_bind {α β : Type} (x : α) (f : α → Option β) : (some x).bind f = f x := rfl
theorem Less_eq (a b : api_Ratio) : ratio_Less a b = some (cmpR a b == -1) := by
  unfold ratio_Less; rw [Compare_eq]; rfl

theorem div_is {n d q r : Int} (hd : 0 < d) (h : n = d * q + r) (h0 : 0 ≤ r) (h1 : r < d) : n / d = q ∧ n % d = r :=
  (Int.ediv_emod_unique hd).2 ⟨by rw [h]; omega, h0, h1⟩
theorem quot_neg (n d : Int) (hd : 0 < d) (h : Int.tmod n d < 0) : Int.tdiv n d - 1 = n / d ∧ Int.tmod n d + d = n % d := by
  have e : d * Int.tdiv n d + Int.tmod n d = n := Int.mul_tdiv_add_tmod n d
  have h4 : -d < n.tmod d := Int.lt_tmod_of_pos n hd
  have h2 := div_is (n := n) (d := d) (q := Int.tdiv n d - 1) (r := Int.tmod n d + d) hd (by rw [Int.mul_sub]; omega) (by omega) (by omega)
  exact ⟨h2.1.symm, h2.2.symm⟩
theorem quot_pos (n d : Int) (hd : 0 < d) (h : ¬ Int.tmod n d < 0) : Int.tdiv n d = n / d ∧ Int.tmod n d = n % d := by
  have e : d * Int.tdiv n d + Int.tmod n d = n := Int.mul_tdiv_add_tmod n d
  have h4 := Int.tmod_lt_of_pos n hd
  have h2 := div_is (n := n) (d := d) (q := Int.tdiv n d) (r := Int.tmod n d) hd (by omega) (by omega) h4
  exact ⟨h2.1.symm, h2.2.symm⟩
theorem div_between (n d M : Int) (hd : 0 < d) (h1 : -M ≤ n) (h2 : n ≤ M) (hM : 0 ≤ M) : -M ≤ n / d ∧ n / d ≤ M := by
  constructor
  · rw [Int.le_ediv_iff_mul_le hd]
    have : M * 1 ≤ M * d := Int.mul_le_mul_of_nonneg_left (by omega) hM
    rw [Int.neg_mul]; omega
  · have := Int.ediv_le_ediv hd h2
    have h3 : M / d ≤ M := Int.ediv_le_self _ hM
    omega
def flR (a : api_Ratio) : Int := a.Num / a.Den
def rsR (a : api_Ratio) : Int := a.Num % a.Den
structure Vd (a : api_Ratio) : Prop where
  d0 : 1 ≤ a.Den
  d1 : a.Den ≤ 1152921504606846976
  n0 : -1152921504606846976 ≤ a.Num
  n1 : a.Num ≤ 1152921504606846976
theorem vd_of {a : api_Ratio} (h : vR a = true) : Vd a := by
  obtain ⟨h1, h2, h3, h4, _⟩ := (vR_iff a).1 h
  exact ⟨h1, h2, h3, h4⟩
theorem Vd.fl {a : api_Ratio} (h : Vd a) : -1152921504606846976 ≤ flR a ∧ flR a ≤ 1152921504606846976 := div_between _ _ _ (by have := h.d0; omega) h.n0 h.n1 (by decide)
theorem Vd.rs {a : api_Ratio} (h : Vd a) : 0 ≤ rsR a ∧ rsR a < a.Den := ⟨Int.emod_nonneg _ (by have := h.d0; omega), Int.emod_lt_of_pos _ (by have := h.d0; omega)⟩
theorem Vd.eq {a : api_Ratio} (h : Vd a) : a.Num = a.Den * flR a + rsR a := (Int.mul_ediv_add_emod a.Num a.Den).symm
theorem rounded_core {a : api_Ratio} (h : Vd a) (f : Int → Int → Option Int) :
    (req (a.Den ≠ 0) <| bif (decide ((Int.tmod a.Num a.Den) < (0 : Int))) then
      bindV (IntKind.i64.wrap ((IntKind.i64.wrap (Int.tdiv a.Num a.Den)) - (1 : Int))) fun floor1 => f floor1 (IntKind.i64.wrap ((Int.tmod a.Num a.Den) + a.Den))
    else f (IntKind.i64.wrap (Int.tdiv a.Num a.Den)) (Int.tmod a.Num a.Den)) = f (flR a) (rsR a) := by
  have hd : 0 < a.Den := by have := h.d0; omega
  have hf := h.fl
  have hr := h.rs
  have hd1 := h.d1
  rw [req_pos (by omega)]
  rcases bcases (decide ((Int.tmod a.Num a.Den) < (0 : Int))) with hc | hc <;> rw [hc]
  · have hc' : Int.tmod a.Num a.Den < 0 := by simpa using hc
    obtain ⟨e1, e2⟩ := quot_neg a.Num a.Den hd hc'
    rw [cond_true, bindV, wrap64 (n := Int.tdiv a.Num a.Den) (by unfold flR at hf; omega) (by unfold flR at hf; omega), e1, e2, wrap64 (n := a.Num / a.Den) (by unfold flR at hf; omega) (by unfold flR at hf; omega), wrap64 (by unfold rsR at hr; omega) (by unfold rsR at hr; omega)]
    rfl
  · have hc' : ¬ Int.tmod a.Num a.Den < 0 := by simpa using hc
    obtain ⟨e1, e2⟩ := quot_pos a.Num a.Den hd hc'
    rw [cond_false, e1, e2, wrap64 (n := a.Num / a.Den) (by unfold flR at hf; omega) (by unfold flR at hf; omega)]
    rfl
def up (b : Bool) : Int := if b = true then 1 else 0
def roundR (a : api_Ratio) : Int := flR a + up (decide (a.Den ≤ 2 * rsR a))
theorem Round_eq (a : api_Ratio) : ratio_Round a = some (if vR a = true then roundR a else 0) := by
  unfold ratio_Round ratio_rounded_ratio_toRound
  rw [Valid_eq]
  cases hv : vR a with
  | false => rfl
  | true =>
    simp only [Option.bind, Bool.not_true, cond_false]
    rw [rounded_core (vd_of hv) (ratio_rounded_ratio_toRound_j1 a)]
    have hf := (vd_of hv).fl
    have hr := (vd_of hv).rs
    have hd := (vd_of hv).d1
    unfold ratio_rounded_ratio_toRound_j1 ratio_toRound roundR up
    rw [wrap64 (n := a.Den - rsR a) (by omega) (by omega), show decide (a.Den - rsR a ≤ rsR a) = decide (a.Den ≤ 2 * rsR a) by rw [Bool.eq_iff_iff]; simp; omega]
    rcases bcases (decide (a.Den ≤ 2 * rsR a)) with hc | hc <;> rw [hc]
    · simp [wrap64 (n := flR a + 1) (by omega) (by omega)]
    · simp
theorem floor_eq (n d : Int) (hd : 0 < d) (h1 : -4611686018427387904 ≤ n) (h2 : n ≤ 4611686018427387904) : ref01_floor n d = some (n / d) := by
  obtain ⟨b1, b2⟩ := div_between n d 4611686018427387904 hd h1 h2 (by decide)
  unfold ref01_floor ref01_floor_j1
  rw [req_pos (by omega), req_pos (by omega)]
  rcases bcases (decide ((Int.tmod n d) < (0 : Int))) with hc | hc <;> rw [hc]
  · have hc' : Int.tmod n d < 0 := by simpa using hc
    obtain ⟨e1, e2⟩ := quot_neg n d hd hc'
    rw [cond_true, wrap64 (n := Int.tdiv n d) (by omega) (by omega), e1, wrap64 (by omega) (by omega)]
  · have hc' : ¬ Int.tmod n d < 0 := by simpa using hc
    obtain ⟨e1, e2⟩ := quot_pos n d hd hc'
    rw [cond_false, e1, wrap64 (by omega) (by omega)]
theorem RoundR_eq (a : api_Ratio) : ref01_Round a = some (if vR a = true then roundR a else 0) := by
  unfold ref01_Round
  rw [ValidR_eq]
  cases hv : vR a with
  | false => rfl
  | true =>
    have h := vd_of hv
    have h0 := h.d0; have := h.d1; have := h.n0; have := h.n1; have hr := h.rs; have hf := h.fl
    simp only [Option.bind, Bool.not_true, cond_false]
    rw [wrap64 (n := 2 * a.Num) (by omega) (by omega), wrap64 (n := 2 * a.Den) (by omega) (by omega), wrap64 (n := 2 * a.Num + a.Den) (by omega) (by omega), floor_eq _ _ (by omega) (by omega) (by omega)]
    simp only [if_true]
    have e := h.eq
    have e2 : 2 * a.Den * flR a = 2 * (a.Den * flR a) := Int.mul_assoc ..
    have e3 : 2 * a.Den * (flR a + 1) = 2 * (a.Den * flR a) + 2 * a.Den := by rw [Int.mul_add, e2]; omega
    unfold roundR up
    by_cases hz : a.Den ≤ 2 * rsR a
    · rw [(div_is (n := 2 * a.Num + a.Den) (d := 2 * a.Den) (q := flR a + 1) (r := 2 * rsR a - a.Den) (by omega) (by omega) (by omega) (by omega)).1]; simp [hz]
    · rw [(div_is (n := 2 * a.Num + a.Den) (d := 2 * a.Den) (q := flR a) (r := 2 * rsR a + a.Den) (by omega) (by omega) (by omega) (by omega)).1]; simp [hz]

theorem shrN (x j : Nat) (hj : j ≤ 64) : bShr .u64 (x : Int) (j : Int) = ((x / 2 ^ j : Nat) : Int) := by
  unfold bShr
  rw [show min (Int.toNat (j : Int)) (IntKind.bits .u64) = j by simp only [Int.toNat_natCast, IntKind.bits]; omega, Int.fdiv_eq_ediv_of_nonneg _ (by exact_mod_cast Nat.zero_le _)]
  norm_cast
theorem shlN (x j : Nat) (hj : j ≤ 64) : bShl .u64 (x : Int) (j : Int) = ((x * 2 ^ j % 18446744073709551616 : Nat) : Int) := by
  unfold bShl
  rw [show min (Int.toNat (j : Int)) (IntKind.bits .u64) = j by simp only [Int.toNat_natCast, IntKind.bits]; omega, wrapU, Int.natCast_emod, Int.natCast_mul, Int.natCast_pow]
  rfl
theorem ofU (x : Nat) (hx : x < 18446744073709551616) : (BitVec.ofInt (IntKind.bits .u64) (x : Int)).toNat = x := by simp only [IntKind.bits, BitVec.toNat_ofInt]; omega
theorem and1 (x : Nat) (hx : x < 18446744073709551616) : bAnd .u64 (x : Int) 1 = ((x % 2 : Nat) : Int) := by
  unfold bAnd
  have e2 : (BitVec.ofInt (IntKind.bits .u64) (1 : Int)).toNat = 2 ^ 1 - 1 := by decide
  rw [BitVec.toNat_and, ofU x hx, e2, Nat.and_two_pow_sub_one_eq_mod, wrapU_id (by omega) (by omega)]
theorem or_even (y b : Nat) (hy : 2 * y + b < 18446744073709551616) (hb : b ≤ 1) : bOr .u64 ((2 * y : Nat) : Int) (b : Int) = ((2 * y + b : Nat) : Int) := by
  unfold bOr
  have := Nat.two_pow_add_eq_or_of_lt (i := 1) (b := b) (by omega) y
  rw [Nat.pow_one] at this
  rw [BitVec.toNat_or, ofU _ (by omega), ofU _ (by omega), ← this, wrapU_id (by omega) (by omega)]
theorem Twice_eq (r : Nat) (h : r < 340282366920938463463374607431768211456) : ref01_Twice (WR r) = some (WR (2 * r % 340282366920938463463374607431768211456)) := by
  unfold ref01_Twice WR
  dsimp only
  rw [show (1 : Int) = ((1 : Nat) : Int) by rfl, show (63 : Int) = ((63 : Nat) : Int) by rfl, shlN _ 1 (by omega), shlN _ 1 (by omega), shrN _ 63 (by omega),
    show (r / 18446744073709551616 * 2 ^ 1 % 18446744073709551616) = 2 * (r / 18446744073709551616 % 9223372036854775808) by omega, or_even _ _ (by omega) (by omega)]
  simp only [Option.some.injEq, ref01_Wide.mk.injEq]
  constructor <;> omega
theorem Minus_mod (m n : Nat) (hm : m < 340282366920938463463374607431768211456) (hn : n < 340282366920938463463374607431768211456) :
    ref01_Minus (WR m) (WR n) = some (WR ((m + 340282366920938463463374607431768211456 - n) % 340282366920938463463374607431768211456)) := by
  unfold ref01_Minus bits_Sub64 WR
  dsimp only
  rw [req_pos (by omega)]
  simp only [Option.bind]
  by_cases hlt : ((m % 18446744073709551616 : Nat) : Int) < ((n % 18446744073709551616 : Nat) : Int) + 0
  · rw [if_pos hlt, req_pos (by omega)]
    simp only [Option.some.injEq, ref01_Wide.mk.injEq]
    constructor <;> omega
  · rw [if_neg hlt, req_pos (by omega)]
    simp only [Option.some.injEq, ref01_Wide.mk.injEq]
    constructor <;> omega
theorem bit_lo (a i : Nat) (hi : i < 64) : a % 18446744073709551616 / 2 ^ i % 2 = a / 2 ^ i % 2 := by
  have h1 : (18446744073709551616 : Nat) = 2 ^ i * (2 * 2 ^ (63 - i)) := by
    rw [← Nat.pow_succ', ← Nat.pow_add, show i + (63 - i).succ = 64 by omega]
  have h2 := Nat.div_add_mod a 18446744073709551616
  have h3 : a / 2 ^ i = 2 * (2 ^ (63 - i) * (a / 18446744073709551616)) + a % 18446744073709551616 / 2 ^ i := by
    conv => lhs; rw [← h2]
    conv => lhs; arg 1; arg 1; arg 1; rw [h1]
    rw [Nat.mul_assoc, Nat.mul_add_div (Nat.two_pow_pos i), Nat.mul_assoc]
  omega
theorem bit_hi (a i : Nat) (hi : 64 ≤ i) : a / 18446744073709551616 / 2 ^ (i - 64) = a / 2 ^ i := by
  rw [Nat.div_div_eq_div_mul, show (18446744073709551616 : Nat) = 2 ^ 64 by decide, ← Nat.pow_add, show 64 + (i - 64) = i by omega]
abbrev hiW (n : Nat) : Int := ((n / 18446744073709551616 : Nat) : Int)
abbrev loW (n : Nat) : Int := ((n % 18446744073709551616 : Nat) : Int)
theorem round_eq (b q r bit : Nat) (i : Int) (hb : b < 340282366920938463463374607431768211456) (hr : r < b) (hq : 2 * q + 1 < 340282366920938463463374607431768211456) (hbit : bit ≤ 1) :
    ref01_Divide_j3 (WR b) i (hiW q) (loW q) (hiW r) (loW r) bit = (if b ≤ 2 * r + bit then ref01_Divide_j2 i (hiW (2 * q + 1)) (loW (2 * q + 1)) (hiW (2 * r + bit - b)) (loW (2 * r + bit - b))
      else ref01_Divide_j2 i (hiW (2 * q)) (loW (2 * q)) (hiW (2 * r + bit)) (loW (2 * r + bit))) := by
  unfold ref01_Divide_j3
  have t1 := Twice_eq r (by omega)
  have t2 := Twice_eq q (by omega)
  have u1 : (⟨hiW r, loW r⟩ : ref01_Wide) = WR r := rfl
  have u2 : (⟨hiW q, loW q⟩ : ref01_Wide) = WR q := rfl
  rw [u1, u2, t1, t2]
  simp only [Option.bind]
  have eq1 : 2 * q % 340282366920938463463374607431768211456 = 2 * q := by omega
  rw [eq1]
  have e1 : bOr .u64 (WR (2 * r % 340282366920938463463374607431768211456)).Lo (bit : Int) = loW (2 * r % 340282366920938463463374607431768211456 + bit) := by
    show bOr .u64 ((2 * r % 340282366920938463463374607431768211456 % 18446744073709551616 : Nat) : Int) (bit : Int) = _
    rw [show 2 * r % 340282366920938463463374607431768211456 % 18446744073709551616 = 2 * (r % 9223372036854775808) by omega, or_even _ _ (by omega) hbit]
    simp only [loW]; omega
  have e2 : (WR (2 * r % 340282366920938463463374607431768211456)).Hi = hiW (2 * r % 340282366920938463463374607431768211456 + bit) := by
    simp only [WR, hiW]; omega
  have e3 : bOr .u64 (WR (2 * q)).Lo 1 = loW (2 * q + 1) := by
    show bOr .u64 ((2 * q % 18446744073709551616 : Nat) : Int) ((1 : Nat) : Int) = _
    rw [show 2 * q % 18446744073709551616 = 2 * (q % 9223372036854775808) by omega, or_even _ _ (by omega) (by omega)]
    simp only [loW]; omega
  have e4 : (WR (2 * q)).Hi = hiW (2 * q + 1) := by simp only [WR, hiW]; omega
  rw [e1, e2, e3]
  have u3 : (⟨hiW (2 * r % 340282366920938463463374607431768211456 + bit), loW (2 * r % 340282366920938463463374607431768211456 + bit)⟩ : ref01_Wide) = WR (2 * r % 340282366920938463463374607431768211456 + bit) := rfl
  rw [u3, Order_eq, req_pos (by intro _; rfl)]
  have e5 : (bShr .u64 (hiW r) 63 == 1) = decide (170141183460469231731687303715884105728 ≤ r) := by
    rw [show (63 : Int) = ((63 : Nat) : Int) by rfl]
    simp only [hiW]
    rw [shrN _ 63 (by omega), Bool.eq_iff_iff]
    simp only [beq_iff_eq, decide_eq_true_eq]
    omega
  rw [e5]
  simp only [Option.getD_some]
  by_cases hc : b ≤ 2 * r + bit
  · rw [if_pos hc]
    have e6 : (decide (170141183460469231731687303715884105728 ≤ r) || decide (0 ≤ cmpI ((2 * r % 340282366920938463463374607431768211456 + bit : Nat) : Int) (b : Int))) = true := by
      simp only [Bool.or_eq_true, decide_eq_true_eq]
      by_cases h1 : 170141183460469231731687303715884105728 ≤ r
      · exact .inl h1
      · right
        unfold cmpI
        rw [if_neg (by omega)]
        split <;> decide
    rw [e6, cond_true, Minus_mod _ _ (by omega) hb]
    simp only
    rw [e4]
    rw [show (2 * r % 340282366920938463463374607431768211456 + bit + 340282366920938463463374607431768211456 - b) % 340282366920938463463374607431768211456 = 2 * r + bit - b by omega]
    rfl
  · rw [if_neg hc]
    have e6 : (decide (170141183460469231731687303715884105728 ≤ r) || decide (0 ≤ cmpI ((2 * r % 340282366920938463463374607431768211456 + bit : Nat) : Int) (b : Int))) = false := by
      simp only [Bool.or_eq_false_iff, decide_eq_false_iff_not]
      refine ⟨by omega, ?_⟩
      unfold cmpI
      rw [if_pos (by omega)]; decide
    rw [e6, cond_false, show 2 * r % 340282366920938463463374607431768211456 + bit = 2 * r + bit by omega]
    rfl
theorem step_div (A b bit : Nat) (hb : 0 < b) (hbit : bit ≤ 1) : (if b ≤ 2 * (A % b) + bit then (2 * (A / b) + 1, 2 * (A % b) + bit - b) else (2 * (A / b), 2 * (A % b) + bit)) = ((2 * A + bit) / b, (2 * A + bit) % b) := by
  have h1 := Nat.div_add_mod A b
  have h2 := Nat.mod_lt A hb
  split
  · rename_i hc
    have := (Nat.div_mod_unique (a := 2 * A + bit) (b := b) (c := 2 * (A % b) + bit - b) (d := 2 * (A / b) + 1) hb).2 ⟨by rw [Nat.mul_add, Nat.mul_left_comm]; omega, by omega⟩
    rw [this.1, this.2]
  · rename_i hc
    have := (Nat.div_mod_unique (a := 2 * A + bit) (b := b) (c := 2 * (A % b) + bit) (d := 2 * (A / b)) hb).2 ⟨by rw [Nat.mul_left_comm]; omega, by omega⟩
    rw [this.1, this.2]
theorem loop_eq (a b : Nat) (ha : a < 340282366920938463463374607431768211456) (hb0 : 0 < b) (hb : b < 340282366920938463463374607431768211456) : ∀ k : Nat, k ≤ 128 →
    iter (ref01_Divide_l4 (WR a) (WR b)) ((k : Int) - 1, hiW (a / 2 ^ k / b), loW (a / 2 ^ k / b), hiW (a / 2 ^ k % b), loW (a / 2 ^ k % b)) = some (hiW (a / b), loW (a / b), hiW (a % b), loW (a % b)) := by
  intro k
  induction k with
  | zero =>
    intro _
    refine iter_inr ?_
    simp [ref01_Divide_l4]
  | succ k ih =>
    intro hk
    have hA : a / 2 ^ k = 2 * (a / 2 ^ (k + 1)) + a / 2 ^ k % 2 := by
      rw [Nat.pow_succ, ← Nat.div_div_eq_div_mul]; omega
    have hq : 2 * (a / 2 ^ (k + 1) / b) + 1 < 340282366920938463463374607431768211456 := by
      have h1 : a / 2 ^ (k + 1) ≤ a / 2 := by
        rw [Nat.pow_succ', ← Nat.div_div_eq_div_mul]; exact Nat.div_le_self _ _
      have h2 := Nat.div_le_self (a / 2 ^ (k + 1)) b
      omega
    have hr := Nat.mod_lt (a / 2 ^ (k + 1)) hb0
    have hs : ref01_Divide_l4 (WR a) (WR b) (((k + 1 : Nat) : Int) - 1, hiW (a / 2 ^ (k + 1) / b), loW (a / 2 ^ (k + 1) / b), hiW (a / 2 ^ (k + 1) % b), loW (a / 2 ^ (k + 1) % b))
        = some (.inl ((k : Int) - 1, hiW (a / 2 ^ k / b), loW (a / 2 ^ k / b), hiW (a / 2 ^ k % b), loW (a / 2 ^ k % b))) := by
      simp only [ref01_Divide_l4]
      have ek : (((k + 1 : Nat) : Int) - 1) = (k : Int) := by omega
      rw [ek, show decide ((0 : Int) ≤ (k : Int)) = true by simp, cond_true, show (64 : Int) = ((64 : Nat) : Int) by rfl, tmod_nat, wrapU_nat _ (by omega), req_pos (by omega)]
      have fin : ∀ bit : Nat, bit = a / 2 ^ k % 2 → ref01_Divide_j3 (WR b) (k : Int) (hiW (a / 2 ^ (k + 1) / b)) (loW (a / 2 ^ (k + 1) / b)) (hiW (a / 2 ^ (k + 1) % b)) (loW (a / 2 ^ (k + 1) % b)) (bit : Int) = some (.inl ((k : Int) - 1, hiW (a / 2 ^ k / b), loW (a / 2 ^ k / b), hiW (a / 2 ^ k % b), loW (a / 2 ^ k % b))) := by
        rintro bit rfl
        rw [round_eq b _ _ _ _ hb hr hq (by omega)]
        have hst := step_div (a / 2 ^ (k + 1)) b (a / 2 ^ k % 2) hb0 (by omega)
        rw [← hA] at hst
        unfold ref01_Divide_j2
        rw [wrap64 (n := (k : Int) - 1) (by omega) (by omega)]
        split at hst
        · rename_i hc
          rw [if_pos hc]
          have := Prod.mk.inj hst
          rw [this.1, this.2]
        · rename_i hc
          rw [if_neg hc]
          have := Prod.mk.inj hst
          rw [this.1, this.2]
      unfold bindV
      dsimp only
      by_cases h64 : 64 ≤ k
      · rw [show decide (((64 : Nat) : Int) ≤ (k : Int)) = true by simp only [decide_eq_true_eq]; omega, cond_true, wrap64 (n := (k : Int) - ((64 : Nat) : Int)) (by omega) (by omega), show (k : Int) - ((64 : Nat) : Int) = ((k - 64 : Nat) : Int) by omega, wrapU_nat _ (by omega), req_pos (by omega)]
        rw [show (WR a).Hi = ((a / 18446744073709551616 : Nat) : Int) by rfl, shrN _ _ (by omega), and1 _ (Nat.lt_of_le_of_lt (Nat.div_le_self _ _) (by omega)), bit_hi a k h64]
        exact fin _ rfl
      · rw [show decide (((64 : Nat) : Int) ≤ (k : Int)) = false by simp only [decide_eq_false_iff_not]; omega, cond_false]
        rw [show (WR a).Lo = ((a % 18446744073709551616 : Nat) : Int) by rfl, show k % 64 = k by omega, shrN _ _ (by omega), and1 _ (Nat.lt_of_le_of_lt (Nat.div_le_self _ _) (by omega)), bit_lo a k (by omega)]
        exact fin _ rfl
    rw [iter_inl hs]
    exact ih (by omega)
theorem Divide_eq (a b : Nat) (ha : a < 340282366920938463463374607431768211456) (hb0 : 0 < b) (hb : b < 340282366920938463463374607431768211456) : ref01_Divide (WR a) (WR b) = some (WR (a / b), WR (a % b)) := by
  by_cases hs : a < 18446744073709551616 ∧ b < 18446744073709551616
  · have := Divide0 a b hs.1 hb0
    have e : ∀ n : Nat, n < 18446744073709551616 → WR n = ⟨0, (n : Int)⟩ := fun n hn => by simp only [WR, ref01_Wide.mk.injEq]; omega
    rw [e a hs.1, e b hs.2, e (a / b) (Nat.lt_of_le_of_lt (Nat.div_le_self _ _) hs.1), e (a % b) (Nat.lt_trans (Nat.mod_lt _ hb0) hs.2)]
    exact this
  · unfold ref01_Divide ref01_Divide_j1
    have hc : (((WR a).Hi == (0 : Int)) && ((WR b).Hi == (0 : Int))) = false := by
      simp only [WR, Bool.and_eq_false_iff, beq_eq_false_iff_ne]; omega
    rw [hc, cond_false]
    have := loop_eq a b ha hb0 hb 128 (by omega)
    have h0 : a / 2 ^ 128 = 0 := Nat.div_eq_of_lt (by simpa using ha)
    rw [h0, Nat.zero_div, Nat.zero_mod] at this
    have e : ((((128 : Nat) : Int) - 1, hiW 0, loW 0, hiW 0, loW 0) : Int × Int × Int × Int × Int) = ((127 : Int), (0 : Int), (0 : Int), (0 : Int), (0 : Int)) := by rfl
    rw [e] at this
    rw [this]; rfl
theorem Divisor_eq (a b : Nat) (ha : a < 340282366920938463463374607431768211456) (hb : b < 340282366920938463463374607431768211456) : ref01_Divisor (WR a) (WR b) = some (WR (Nat.gcd a b)) := by
  have key : ∀ n m : Nat, m < 340282366920938463463374607431768211456 → n < 340282366920938463463374607431768211456 → iter ref01_Divisor_l2 (hiW m, loW m, hiW n, loW n) = some (hiW (Nat.gcd m n), loW (Nat.gcd m n)) := by
    intro n
    induction n using Nat.strongRecOn with
    | _ n ih =>
      intro m hm hn'
      by_cases hn : n = 0
      · subst hn
        refine iter_inr ?_
        simp [ref01_Divisor_l2]
      · have hs : ref01_Divisor_l2 (hiW m, loW m, hiW n, loW n) = some (.inl (hiW n, loW n, hiW (m % n), loW (m % n))) := by
          simp only [ref01_Divisor_l2]
          rw [show (!((hiW n == 0) && (loW n == 0))) = true by
            simp only [hiW, loW, Bool.not_eq_true', Bool.and_eq_false_iff, beq_eq_false_iff_ne]; omega, cond_true]
          rw [show (⟨hiW m, loW m⟩ : ref01_Wide) = WR m by rfl, show (⟨hiW n, loW n⟩ : ref01_Wide) = WR n by rfl, Divide_eq m n hm (by omega) hn']
          rfl
        have hlt := Nat.mod_lt m (show 0 < n by omega)
        rw [iter_inl hs, ih (m % n) hlt n hn' (by omega)]
        rw [Nat.gcd_comm m n, Nat.gcd_rec n m, Nat.gcd_comm]
  unfold ref01_Divisor ref01_Divisor_j1
  have := key b a ha hb
  rw [show ((WR a).Hi, (WR a).Lo, (WR b).Hi, (WR b).Lo) = (hiW a, loW a, hiW b, loW b) by rfl, this]; rfl
theorem redTail (neg : Bool) (x y : Nat) :
    (bif ((((decide ((0 : Int) < (WR x).Hi)) || (decide ((0 : Int) < (WR y).Hi))) || (decide ((1152921504606846976 : Int) < (WR x).Lo))) || (decide ((1152921504606846976 : Int) < (WR y).Lo))) then
      some ((api_Ratio.mk (0 : Int) (0 : Int)), (6 : Int))
    else
      bif neg then some ((api_Ratio.mk (IntKind.i64.wrap (0 - (IntKind.i64.wrap (WR x).Lo))) (IntKind.i64.wrap (WR y).Lo)), (0 : Int))
      else some ((api_Ratio.mk (IntKind.i64.wrap (WR x).Lo) (IntKind.i64.wrap (WR y).Lo)), (0 : Int))) = some (fitOf neg x y) := by
  unfold fitOf
  have e1 : (WR x).Hi = ((x / 18446744073709551616 : Nat) : Int) := rfl
  have e2 : (WR x).Lo = ((x % 18446744073709551616 : Nat) : Int) := rfl
  have e3 : (WR y).Hi = ((y / 18446744073709551616 : Nat) : Int) := rfl
  have e4 : (WR y).Lo = ((y % 18446744073709551616 : Nat) : Int) := rfl
  rw [e1, e2, e3, e4]
  by_cases hc : x ≤ 1152921504606846976 ∧ y ≤ 1152921504606846976
  · rw [show ((((decide ((0 : Int) < ((x / 18446744073709551616 : Nat) : Int))) || (decide ((0 : Int) < ((y / 18446744073709551616 : Nat) : Int)))) || (decide ((1152921504606846976 : Int) < ((x % 18446744073709551616 : Nat) : Int)))) || (decide ((1152921504606846976 : Int) < ((y % 18446744073709551616 : Nat) : Int)))) = false by
      simp only [Bool.or_eq_false_iff, decide_eq_false_iff_not]; omega]
    rw [cond_false, if_pos hc, show x % 18446744073709551616 = x by omega, show y % 18446744073709551616 = y by omega, wrap64 (n := (x : Int)) (by omega) (by omega), wrap64 (n := (y : Int)) (by omega) (by omega)]
    cases neg
    · rfl
    · rw [cond_true, wrap64 (by omega) (by omega)]; simp
  · rw [show ((((decide ((0 : Int) < ((x / 18446744073709551616 : Nat) : Int))) || (decide ((0 : Int) < ((y / 18446744073709551616 : Nat) : Int)))) || (decide ((1152921504606846976 : Int) < ((x % 18446744073709551616 : Nat) : Int)))) || (decide ((1152921504606846976 : Int) < ((y % 18446744073709551616 : Nat) : Int)))) = true by
      simp only [Bool.or_eq_true, decide_eq_true_eq]; omega]
    rw [cond_true, if_neg hc]
theorem Reduce_eq (neg : Bool) (n d : Nat) (hn : n < 340282366920938463463374607431768211456) (hd : 0 < d) (hd2 : d < 340282366920938463463374607431768211456) : ref01_Reduce neg (WR n) (WR d) = some (redOf neg n d) := by
  have hg : 0 < Nat.gcd n d := Nat.gcd_pos_of_pos_right _ hd
  have hgd : Nat.gcd n d ≤ d := Nat.gcd_le_right _ hd
  unfold ref01_Reduce ref01_Reduce_j1 redOf
  rw [Divisor_eq n d hn hd2]
  simp only [Option.bind]
  rw [Divide_eq n _ hn hg (by omega), Divide_eq d _ hd2 hg (by omega)]
  exact redTail neg (n / Nat.gcd n d) (d / Nat.gcd n d)

theorem red_unique (neg : Bool) (n d p q k : Nat) (hk : 0 < k) (hn : n = p * k) (hd : d = q * k) (hc : Nat.gcd p q = 1) : redOf neg n d = fitOf neg p q := by
  unfold redOf
  have hg : Nat.gcd n d = k := by rw [hn, hd, Nat.gcd_mul_right, hc, Nat.one_mul]
  rw [hg, hn, hd, Nat.mul_div_cancel _ hk, Nat.mul_div_cancel _ hk]
theorem product_eq (x y : Nat) (hx : x < 18446744073709551616) (hy : y < 18446744073709551616) : ratio_product x y = some ⟨hiW (x * y), loW (x * y)⟩ := by
  unfold ratio_product
  rw [Mul64_eq x y hx hy]; rfl
theorem fittedW (neg : Bool) (n d : Nat) : ratio_fitted neg ⟨hiW n, loW n⟩ ⟨hiW d, loW d⟩ = some (fitOf neg n d) := by
  have h := fitted_eq neg (n / 18446744073709551616) (n % 18446744073709551616) (d / 18446744073709551616) (d % 18446744073709551616) (by omega) (by omega)
  rw [show n / 18446744073709551616 * 18446744073709551616 + n % 18446744073709551616 = n by omega, show d / 18446744073709551616 * 18446744073709551616 + d % 18446744073709551616 = d by omega] at h
  exact h
structure VN (a : api_Ratio) : Prop where
  i1 : I64 a.Num
  i2 : I64 a.Den
  n1 : a.Num.natAbs ≤ 1152921504606846976
  d0 : 1 ≤ a.Den.natAbs
  d1 : a.Den.natAbs ≤ 1152921504606846976
  de : (a.Den.natAbs : Int) = a.Den
  cop : Nat.gcd a.Num.natAbs a.Den.natAbs = 1
theorem vn_of {a : api_Ratio} (h : vR a = true) : VN a := by
  obtain ⟨h1, h2, h3, h4, h5⟩ := (vR_iff a).1 h
  exact ⟨⟨by omega, by omega⟩, ⟨by omega, by omega⟩, by omega, by omega, by omega, by omega, h5⟩
theorem wrapU_den {a : api_Ratio} (h : VN a) : IntKind.u64.wrap a.Den = (a.Den.natAbs : Int) := by
  have h1 := h.d0; have h2 := h.d1; have h3 := h.de
  rw [wrapU_id (by omega) (by omega)]; omega
def sgn (a b : api_Ratio) : Bool := !((decide (a.Num < (0 : Int))) == (decide (b.Num < (0 : Int))))
def mulOf (a b : api_Ratio) : api_Ratio × Int := if vR a = true ∧ vR b = true then redOf (sgn a b) (a.Num.natAbs * b.Num.natAbs) (a.Den.natAbs * b.Den.natAbs) else (⟨0, 0⟩, 1)
theorem mul_lowest (na nb da db : Nat) (ha : Nat.gcd na da = 1) (hb : Nat.gcd nb db = 1) (h1 : 0 < da) (h2 : 0 < db) (neg : Bool) :
    redOf neg (na * nb) (da * db) = fitOf neg (na / Nat.gcd na db * (nb / Nat.gcd nb da)) (da / Nat.gcd nb da * (db / Nat.gcd na db)) := by
  have g1 : 0 < Nat.gcd na db := Nat.gcd_pos_of_pos_right _ h2
  have g2 : 0 < Nat.gcd nb da := Nat.gcd_pos_of_pos_right _ h1
  have e1 := Nat.div_mul_cancel (Nat.gcd_dvd_left na db)
  have e2 := Nat.div_mul_cancel (Nat.gcd_dvd_right na db)
  have e3 := Nat.div_mul_cancel (Nat.gcd_dvd_left nb da)
  have e4 := Nat.div_mul_cancel (Nat.gcd_dvd_right nb da)
  refine red_unique neg _ _ _ _ (Nat.gcd na db * Nat.gcd nb da) (Nat.mul_pos g1 g2) ?_ ?_ ?_
  · conv => lhs; rw [← e1, ← e3]
    simp only [Nat.mul_assoc, Nat.mul_left_comm, Nat.mul_comm]
  · conv => lhs; rw [← e4, ← e2]
    simp only [Nat.mul_assoc, Nat.mul_left_comm, Nat.mul_comm]
  · have c1 : Nat.Coprime na da := ha
    have c2 : Nat.Coprime nb db := hb
    have d1 : na / Nat.gcd na db ∣ na := ⟨_, e1.symm⟩
    have d2 : db / Nat.gcd na db ∣ db := ⟨_, e2.symm⟩
    have d3 : nb / Nat.gcd nb da ∣ nb := ⟨_, e3.symm⟩
    have d4 : da / Nat.gcd nb da ∣ da := ⟨_, e4.symm⟩
    have k1 : Nat.Coprime (na / Nat.gcd na db) (da / Nat.gcd nb da) := (c1.coprime_dvd_left d1).coprime_dvd_right d4
    have k2 : Nat.Coprime (na / Nat.gcd na db) (db / Nat.gcd na db) := Nat.coprime_div_gcd_div_gcd g1
    have k3 : Nat.Coprime (nb / Nat.gcd nb da) (da / Nat.gcd nb da) := Nat.coprime_div_gcd_div_gcd g2
    have k4 : Nat.Coprime (nb / Nat.gcd nb da) (db / Nat.gcd na db) := (c2.coprime_dvd_left d3).coprime_dvd_right d2
    exact Nat.Coprime.mul_left (k1.mul_right k2) (k3.mul_right k4)
theorem Mul_eq (a b : api_Ratio) : ratio_Mul a b = some (mulOf a b) := by
  unfold ratio_Mul mulOf
  rw [Valid_eq, Valid_eq]
  simp only [Option.bind]
  rw [req_pos (by intro _; rfl)]
  simp only [Option.getD_some]
  cases ha : vR a with
  | false => simp
  | true =>
    cases hb : vR b with
    | false => simp
    | true =>
      have va := vn_of ha
      have vb := vn_of hb
      simp only [Bool.not_true, Bool.or_self, cond_false, and_self, if_true]
      rw [mag_eq _ va.i1, mag_eq _ vb.i1]
      simp only
      rw [wrapU_den va, wrapU_den vb, gcd_eq, gcd_eq]
      simp only
      have g1 : 0 < Nat.gcd a.Num.natAbs b.Den.natAbs := Nat.gcd_pos_of_pos_right _ vb.d0
      have g2 : 0 < Nat.gcd b.Num.natAbs a.Den.natAbs := Nat.gcd_pos_of_pos_right _ va.d0
      have n1 := va.n1; have n2 := vb.n1; have d1 := va.d1; have d2 := vb.d1
      have q1 := Nat.div_le_self a.Num.natAbs (Nat.gcd a.Num.natAbs b.Den.natAbs)
      have q2 := Nat.div_le_self b.Num.natAbs (Nat.gcd b.Num.natAbs a.Den.natAbs)
      have q3 := Nat.div_le_self a.Den.natAbs (Nat.gcd b.Num.natAbs a.Den.natAbs)
      have q4 := Nat.div_le_self b.Den.natAbs (Nat.gcd a.Num.natAbs b.Den.natAbs)
      rw [req_pos (by omega)]
      simp only [tdiv_nat]
      rw [wrapU_nat _ (by omega), wrapU_nat _ (by omega), wrapU_nat _ (by omega), wrapU_nat _ (by omega), product_eq _ _ (by omega) (by omega)]
      simp only
      rw [req_pos (by omega), product_eq _ _ (by omega) (by omega)]
      simp only
      rw [fittedW, mul_lowest _ _ _ _ va.cop vb.cop va.d0 vb.d0]
      rfl
theorem MulR_eq (a b : api_Ratio) : ref01_Mul a b = some (mulOf a b) := by
  unfold ref01_Mul mulOf
  rw [ValidR_eq, ValidR_eq]
  simp only [Option.bind]
  rw [req_pos (by intro _; rfl)]
  simp only [Option.getD_some]
  cases ha : vR a with
  | false => simp
  | true =>
    cases hb : vR b with
    | false => simp
    | true =>
      have va := vn_of ha
      have vb := vn_of hb
      have n1 := va.n1; have n2 := vb.n1; have d1 := va.d1; have d2 := vb.d1
      have m1 := mul_lt n1 n2
      have m2 := mul_lt d1 d2
      simp only [Bool.not_true, Bool.or_self, cond_false, and_self, if_true]
      rw [Size_eq _ va.i1, Size_eq _ vb.i1]
      simp only
      rw [Product_eq _ _ (by omega) (by omega)]
      simp only
      rw [Size_eq _ va.i2, Size_eq _ vb.i2]
      simp only
      rw [Product_eq _ _ (by omega) (by omega)]
      simp only
      rw [Reduce_eq _ _ _ (by omega) (Nat.mul_pos va.d0 vb.d0) (by omega)]
      rfl

def tab8 : Str := ((List.append (List.append [0, 1, 2, 2, 3, 3, 3, 3, 4, 4, 4, 4, 4, 4, 4, 4, 5, 5, 5, 5, 5, 5, 5, 5, 5, 5, 5, 5, 5, 5, 5, 5, 6, 6, 6, 6, 6, 6, 6, 6, 6, 6, 6, 6, 6, 6, 6, 6, 6, 6, 6, 6, 6, 6, 6, 6, 6, 6, 6, 6, 6, 6, 6, 6] [7, 7, 7, 7, 7, 7, 7, 7, 7, 7, 7, 7, 7, 7, 7, 7, 7, 7, 7, 7, 7, 7, 7, 7, 7, 7, 7, 7, 7, 7, 7, 7, 7, 7, 7, 7, 7, 7, 7, 7, 7, 7, 7, 7, 7, 7, 7, 7, 7, 7, 7, 7, 7, 7, 7, 7, 7, 7, 7, 7, 7, 7, 7, 7]) (List.append [8, 8, 8, 8, 8, 8, 8, 8, 8, 8, 8, 8, 8, 8, 8, 8, 8, 8, 8, 8, 8, 8, 8, 8, 8, 8, 8, 8, 8, 8, 8, 8, 8, 8, 8, 8, 8, 8, 8, 8, 8, 8, 8, 8, 8, 8, 8, 8, 8, 8, 8, 8, 8, 8, 8, 8, 8, 8, 8, 8, 8, 8, 8, 8] [8, 8, 8, 8, 8, 8, 8, 8, 8, 8, 8, 8, 8, 8, 8, 8, 8, 8, 8, 8, 8, 8, 8, 8, 8, 8, 8, 8, 8, 8, 8, 8, 8, 8, 8, 8, 8, 8, 8, 8, 8, 8, 8, 8, 8, 8, 8, 8, 8, 8, 8, 8, 8, 8, 8, 8, 8, 8, 8, 8, 8, 8, 8, 8])) : Str)
theorem tab8_ok : ∀ x : _root_.Fin 256, x.val = 0 ∨ (1 ≤ (tab8.getD x.val 0).toNat ∧ (tab8.getD x.val 0).toNat ≤ 8 ∧ 2 ^ ((tab8.getD x.val 0).toNat - 1) ≤ x.val ∧ x.val < 2 ^ (tab8.getD x.val 0).toNat) := by decide +kernel
theorem len1 (y x n : Nat) (hx0 : 0 < x) (hx : x < 256) (hn : n ≤ 56) (he : y / 2 ^ n = x) : ∃ L : Nat, 1 ≤ L ∧ L ≤ n + 8 ∧ bits_Len64_j1 (x : Int) (n : Int) = some (L : Int) ∧ 2 ^ (L - 1) ≤ y ∧ y < 2 ^ L := by
  have h := tab8_ok ⟨x, hx⟩
  simp only at h
  generalize ht : (tab8.getD x 0).toNat = t at h
  rcases h with h | ⟨h1, h2, h3, h4⟩
  · omega
  have ew : IntKind.u8.wrap (x : Int) = (x : Int) := by
    simp only [IntKind.wrap, IntKind.bits, IntKind.signed]; simp; omega
  refine ⟨n + t, by omega, by omega, ?_, ?_, ?_⟩
  · show (req ((0 ≤ IntKind.u8.wrap (x : Int) ∧ IntKind.u8.wrap (x : Int) < (tab8.length : Int))) <| bindV (IntKind.i64.wrap ((n : Int) + (IntKind.i64.wrap (sx tab8 (IntKind.u8.wrap (x : Int)))))) fun n3 => some n3) = _
    rw [ew, req_pos ⟨by omega, by rw [show tab8.length = 256 by decide]; omega⟩]
    have e2 : sx tab8 (x : Int) = (t : Int) := by unfold sx; rw [Int.toNat_natCast, ht]
    rw [e2]
    unfold bindV
    rw [wrap64 (n := (t : Int)) (by omega) (by omega), wrap64 (by omega) (by omega)]
    simp
  · rw [show n + t - 1 = (t - 1) + n by omega, Nat.pow_add]
    rw [← he] at h3
    exact (Nat.le_div_iff_mul_le (Nat.two_pow_pos n)).1 h3
  · rw [Nat.add_comm n t, Nat.pow_add]
    rw [← he] at h4
    exact (Nat.div_lt_iff_lt_mul (Nat.two_pow_pos n)).1 h4
theorem shr_lit (x j : Nat) (J : Int) (hJ : J = (j : Int)) (hj : j ≤ 64) : bShr .u64 (x : Int) J = ((x / 2 ^ j : Nat) : Int) := by rw [hJ]; exact shrN x j hj
theorem len2 (y x n : Nat) (hx0 : 0 < x) (hx : x < 65536) (hn : n ≤ 48) (he : y / 2 ^ n = x) : ∃ L : Nat, 1 ≤ L ∧ L ≤ n + 16 ∧ bits_Len64_j2 (x : Int) (n : Int) = some (L : Int) ∧ 2 ^ (L - 1) ≤ y ∧ y < 2 ^ L := by
  unfold bits_Len64_j2
  by_cases hc : 256 ≤ x
  · rw [show decide ((256 : Int) ≤ (x : Int)) = true by simp only [decide_eq_true_eq]; omega, cond_true, shr_lit x 8 8 rfl (by omega), wrap64 (by omega) (by omega), show (n : Int) + 8 = ((n + 8 : Nat) : Int) by omega]
    obtain ⟨L, h1, h2, h3⟩ := len1 y (x / 2 ^ 8) (n + 8) (by omega) (by omega) (by omega) (by rw [Nat.pow_add, ← Nat.div_div_eq_div_mul, he])
    exact ⟨L, h1, by omega, h3⟩
  · rw [show decide ((256 : Int) ≤ (x : Int)) = false by simp only [decide_eq_false_iff_not]; omega, cond_false]
    obtain ⟨L, h1, h2, h3⟩ := len1 y x n hx0 (by omega) (by omega) he
    exact ⟨L, h1, by omega, h3⟩
theorem len3 (y x n : Nat) (hx0 : 0 < x) (hx : x < 4294967296) (hn : n ≤ 32) (he : y / 2 ^ n = x) : ∃ L : Nat, 1 ≤ L ∧ L ≤ n + 32 ∧ bits_Len64_j3 (x : Int) (n : Int) = some (L : Int) ∧ 2 ^ (L - 1) ≤ y ∧ y < 2 ^ L := by
  unfold bits_Len64_j3
  by_cases hc : 65536 ≤ x
  · rw [show decide ((65536 : Int) ≤ (x : Int)) = true by simp only [decide_eq_true_eq]; omega, cond_true, shr_lit x 16 16 rfl (by omega), wrap64 (by omega) (by omega), show (n : Int) + 16 = ((n + 16 : Nat) : Int) by omega]
    obtain ⟨L, h1, h2, h3⟩ := len2 y (x / 2 ^ 16) (n + 16) (by omega) (by omega) (by omega) (by rw [Nat.pow_add, ← Nat.div_div_eq_div_mul, he])
    exact ⟨L, h1, by omega, h3⟩
  · rw [show decide ((65536 : Int) ≤ (x : Int)) = false by simp only [decide_eq_false_iff_not]; omega, cond_false]
    obtain ⟨L, h1, h2, h3⟩ := len2 y x n hx0 (by omega) (by omega) he
    exact ⟨L, h1, by omega, h3⟩
theorem Len64_eq (y : Nat) (h0 : 0 < y) (h : y < 18446744073709551616) : ∃ L : Nat, 1 ≤ L ∧ L ≤ 64 ∧ bits_Len64 (y : Int) = some (L : Int) ∧ 2 ^ (L - 1) ≤ y ∧ y < 2 ^ L := by
  unfold bits_Len64
  by_cases hc : 4294967296 ≤ y
  · rw [show decide ((4294967296 : Int) ≤ (y : Int)) = true by simp only [decide_eq_true_eq]; omega, cond_true, shr_lit y 32 32 rfl (by omega), show (32 : Int) = ((32 : Nat) : Int) by rfl]
    exact len3 y (y / 2 ^ 32) 32 (by omega) (by omega) (by omega) rfl
  · rw [show decide ((4294967296 : Int) ≤ (y : Int)) = false by simp only [decide_eq_false_iff_not]; omega, cond_false]
    obtain ⟨L, h1, h2, h3⟩ := len3 y y 0 h0 (by omega) (by omega) (by simp)
    exact ⟨L, h1, by omega, h3⟩
theorem Lead_eq (y : Nat) (h0 : 0 < y) (h : y < 18446744073709551616) : ∃ s : Nat, s ≤ 63 ∧ bits_LeadingZeros64 (y : Int) = some (s : Int) ∧ 9223372036854775808 ≤ y * 2 ^ s ∧ y * 2 ^ s < 18446744073709551616 := by
  obtain ⟨L, h1, h2, h3, h4, h5⟩ := Len64_eq y h0 h
  refine ⟨64 - L, by omega, ?_, ?_, ?_⟩
  · unfold bits_LeadingZeros64
    rw [h3]
    simp only [Option.bind]
    rw [wrap64 (by omega) (by omega), show (64 : Int) - (L : Int) = ((64 - L : Nat) : Int) by omega]
  · have := Nat.mul_le_mul_right (2 ^ (64 - L)) h4
    rw [← Nat.pow_add, show L - 1 + (64 - L) = 63 by omega] at this
    simpa using this
  · have := Nat.mul_lt_mul_of_pos_right h5 (Nat.two_pow_pos (64 - L))
    rw [← Nat.pow_add, show L + (64 - L) = 64 by omega] at this
    simpa using this
theorem knuth {σ : Type} {f : σ → Option (σ ⊕ Int)} (en : Nat → Nat → σ) (v1 v0 d u : Nat) (hv1 : 2147483648 ≤ v1) (hv1' : v1 < 4294967296) (hv0 : v0 < 4294967296) (hd : d < 4294967296) (hu : u < v1 * 4294967296 + v0)
    (hf : ∀ q r, q ≤ 4294967297 → r < 4294967296 → f (en q r) = some (if 4294967296 ≤ q ∨ 4294967296 * r + d < q * v0 then (if 4294967296 ≤ r + v1 then .inr ((q - 1 : Nat) : Int) else .inl (en (q - 1) (r + v1))) else .inr (q : Int))) :
    ∀ q r, q * v1 + r = u → q ≤ 4294967297 → r < 4294967296 → (u * 4294967296 + d) / (v1 * 4294967296 + v0) ≤ q → iter f (en q r) = some (((u * 4294967296 + d) / (v1 * 4294967296 + v0) : Nat) : Int) := by
  have hy : 0 < v1 * 4294967296 + v0 := by omega
  have hQ : (u * 4294967296 + d) / (v1 * 4294967296 + v0) < 4294967296 := by
    rw [Nat.div_lt_iff_lt_mul hy]; omega
  -- what a candidate says
  have cand : ∀ q r, q * v1 + r = u → (q * v0 ≤ 4294967296 * r + d ↔ q ≤ (u * 4294967296 + d) / (v1 * 4294967296 + v0)) := by
    intro q r he
    rw [Nat.le_div_iff_mul_le hy, Nat.mul_add, ← Nat.mul_assoc]
    omega
  intro q
  induction q with
  | zero =>
    intro r he hq hr hle
    have h1 := hf 0 r hq hr
    rw [if_neg (by omega)] at h1
    rw [iter_inr h1]
    congr 1
    have : (u * 4294967296 + d) / (v1 * 4294967296 + v0) = 0 := Nat.le_zero.1 hle
    rw [this]
  | succ q ih =>
    intro r he hq hr hle
    have h1 := hf (q + 1) r hq hr
    have hc := cand (q + 1) r he
    by_cases hb : 4294967296 ≤ q + 1 ∨ 4294967296 * r + d < (q + 1) * v0
    · rw [if_pos hb] at h1
      have hlt : (u * 4294967296 + d) / (v1 * 4294967296 + v0) ≤ q := by
        rcases hb with hb | hb
        · omega
        · have : ¬ (q + 1 ≤ (u * 4294967296 + d) / (v1 * 4294967296 + v0)) := fun h => by have := hc.2 h; omega
          omega
      have he' : q * v1 + (r + v1) = u := by rw [Nat.add_mul] at he; omega
      by_cases hs : 4294967296 ≤ r + v1
      · rw [if_pos hs] at h1
        rw [iter_inr h1]
        congr 1
        have h2 : q * v0 ≤ 4294967296 * 4294967296 := Nat.mul_le_mul (by omega) (by omega)
        have h3 := (cand q (r + v1) he').1 (by omega)
        have : q = (u * 4294967296 + d) / (v1 * 4294967296 + v0) := by omega
        simp only [Nat.add_sub_cancel]
        rw [← this]
      · rw [if_neg hs] at h1
        rw [iter_inl h1]
        exact ih (r + v1) he' (by omega) (by omega) hlt
    · rw [if_neg hb] at h1
      rw [iter_inr h1]
      congr 1
      have h3 := hc.1 (by omega)
      have : q + 1 = (u * 4294967296 + d) / (v1 * 4294967296 + v0) := by omega
      rw [← this]
theorem knuth_first (v1 v0 d u : Nat) (hv1 : 2147483648 ≤ v1) (hv0 : v0 < 4294967296) (hd : d < 4294967296) (hu : u < v1 * 4294967296 + v0) :
    u / v1 * v1 + u % v1 = u ∧ u / v1 ≤ 4294967297 ∧ u % v1 < v1 ∧ (u * 4294967296 + d) / (v1 * 4294967296 + v0) ≤ u / v1 := by
  have h0 : 0 < v1 := by omega
  refine ⟨by rw [Nat.mul_comm]; exact Nat.div_add_mod u v1, ?_, Nat.mod_lt _ h0, ?_⟩
  · have : u / v1 < 4294967298 := by
      rw [Nat.div_lt_iff_lt_mul h0]; omega
    omega
  · have h1 := Nat.div_add_mod u v1
    have h2 := Nat.mod_lt u h0
    have : (u * 4294967296 + d) / (v1 * 4294967296 + v0) < u / v1 + 1 := by
      rw [Nat.div_lt_iff_lt_mul (by omega)]
      have e : (u / v1 + 1) * (v1 * 4294967296 + v0) = (v1 * (u / v1)) * 4294967296 + v1 * 4294967296 + (u / v1 + 1) * v0 := by
        rw [Nat.mul_add, Nat.add_mul, ← Nat.mul_assoc, Nat.mul_comm (u / v1) v1]; omega
      omega
    omega
theorem wrap3 (u d P R : Nat) (h : P + R = u * 4294967296 + d) (hR : R < 18446744073709551616) : IntKind.u64.wrap (IntKind.u64.wrap (IntKind.u64.wrap ((u : Int) * 4294967296) + (d : Int)) - IntKind.u64.wrap (P : Int)) = (R : Int) := by
  rw [wrapU, wrapU, wrapU, wrapU]
  omega
theorem wrap2 (q x : Nat) (hq : q < 4294967296) (hx : x < 4294967296) : IntKind.u64.wrap (IntKind.u64.wrap ((q : Int) * 4294967296) + (x : Int)) = ((q * 4294967296 + x : Nat) : Int) := by
  rw [wrapU, wrapU]
  omega
noncomputable def kl4 (Y d : Nat) : Int × Int → Option ((Int × Int) ⊕ Int) :=
  fun (q12, rhat4) =>
    bif ((decide ((4294967296 : Int) ≤ q12)) || (decide ((IntKind.u64.wrap ((IntKind.u64.wrap ((4294967296 : Int) * rhat4)) + (d : Int))) < (IntKind.u64.wrap (q12 * ((Y % 4294967296 : Nat) : Int)))))) then
      bindV (IntKind.u64.wrap (rhat4 + ((Y / 4294967296 : Nat) : Int))) fun rhat5 =>
      bif (decide ((4294967296 : Int) ≤ rhat5)) then
        some (.inr (IntKind.u64.wrap (q12 - (1 : Int))))
      else
        some (.inl ((IntKind.u64.wrap (q12 - (1 : Int))), rhat5))
    else
      some (.inr q12)
noncomputable def kl2 (Y d : Nat) : Int × Int → Option ((Int × Int) ⊕ Int) :=
  fun (rhat2, q02) =>
    bif ((decide ((4294967296 : Int) ≤ q02)) || (decide ((IntKind.u64.wrap ((IntKind.u64.wrap ((4294967296 : Int) * rhat2)) + (d : Int))) < (IntKind.u64.wrap (q02 * ((Y % 4294967296 : Nat) : Int)))))) then
      bindV (IntKind.u64.wrap (rhat2 + ((Y / 4294967296 : Nat) : Int))) fun rhat3 =>
      bif (decide ((4294967296 : Int) ≤ rhat3)) then
        some (.inr (IntKind.u64.wrap (q02 - (1 : Int))))
      else
        some (.inl (rhat3, (IntKind.u64.wrap (q02 - (1 : Int)))))
    else
      some (.inr q02)
theorem Div64_eq (hi lo y : Nat) (hh : hi < y) (hl : lo < 18446744073709551616) (hy : y < 18446744073709551616) : bits_Div64 (hi : Int) (lo : Int) (y : Int) = some ((((hi * 18446744073709551616 + lo) / y : Nat) : Int), (((hi * 18446744073709551616 + lo) % y : Nat) : Int)) := by
  have hy0 : 0 < y := by omega
  by_cases h0 : hi = 0
  · subst h0
    have := Div64_0 lo y hl hy0
    simpa using this
  unfold bits_Div64 bits_Div64_j6 bits_Div64_j5
  rw [show ((y : Int) == 0) = false by simp; omega, cond_false, show decide ((y : Int) ≤ (hi : Int)) = false by simp only [decide_eq_false_iff_not]; omega, cond_false, show ((hi : Int) == 0) = false by simp; omega, cond_false]
  obtain ⟨s, hs, e1, n1, n2⟩ := Lead_eq y hy0 hy
  rw [e1, some_bind]
  rw [wrapU_nat s (by omega), wrapU_id (n := (64 : Int) - (s : Int)) (by omega) (by omega), req_pos (by omega), req_pos (by omega)]
  have hsp := Nat.two_pow_pos s
  have hB : 2 ^ (64 - s) * 2 ^ s = 18446744073709551616 := by rw [← Nat.pow_add, show 64 - s + s = 64 by omega]
  -- the divisor, shifted
  have ey : bShl .u64 (y : Int) (s : Int) = ((y * 2 ^ s : Nat) : Int) := by rw [shlN y s (by omega), Nat.mod_eq_of_lt n2]
  -- the dividend, shifted
  have hhs : hi * 2 ^ s + 2 ^ s ≤ y * 2 ^ s := by
    have := Nat.mul_le_mul_right (2 ^ s) (show hi + 1 ≤ y by omega)
    rw [Nat.add_mul, Nat.one_mul] at this; exact this
  have hlo : lo / 2 ^ (64 - s) < 2 ^ s := by
    rw [Nat.div_lt_iff_lt_mul (Nat.two_pow_pos _), Nat.mul_comm, hB]; exact hl
  have eu : bOr .u64 (bShl .u64 (hi : Int) (s : Int)) (bShr .u64 (lo : Int) ((64 : Int) - (s : Int))) = ((hi * 2 ^ s + lo / 2 ^ (64 - s) : Nat) : Int) := by
    rw [shlN hi s (by omega), Nat.mod_eq_of_lt (by omega), shr_lit lo (64 - s) _ (by omega) (by omega)]
    unfold bOr
    have := Nat.two_pow_add_eq_or_of_lt (i := s) (b := lo / 2 ^ (64 - s)) hlo hi
    rw [Nat.mul_comm _ hi] at this
    rw [BitVec.toNat_or, ofU _ (by omega), ofU _ (by omega), ← this, wrapU_id (by omega) (by omega)]
  have el : bShl .u64 (lo : Int) (s : Int) = ((lo * 2 ^ s % 18446744073709551616 : Nat) : Int) := shlN lo s (by omega)
  have hU : (hi * 18446744073709551616 + lo) * 2 ^ s = (hi * 2 ^ s + lo / 2 ^ (64 - s)) * 18446744073709551616 + lo * 2 ^ s % 18446744073709551616 := by
    have h1 : lo * 2 ^ s / 18446744073709551616 = lo / 2 ^ (64 - s) := by
      rw [← hB, Nat.mul_div_mul_right _ _ hsp]
    have h2 := Nat.div_add_mod (lo * 2 ^ s) 18446744073709551616
    rw [h1] at h2
    rw [Nat.add_mul, Nat.add_mul, Nat.mul_right_comm]; omega
  have hMy : (hi * 18446744073709551616 + lo) / y = (hi * 18446744073709551616 + lo) * 2 ^ s / (y * 2 ^ s) := (Nat.mul_div_mul_right _ _ hsp).symm
  have hMm : (hi * 18446744073709551616 + lo) % y = (hi * 18446744073709551616 + lo) * 2 ^ s % (y * 2 ^ s) / 2 ^ s := by
    rw [Nat.mul_mod_mul_right, Nat.mul_div_cancel _ hsp]
  rw [hMy, hMm, hU]
  have hun : hi * 2 ^ s + lo / 2 ^ (64 - s) < y * 2 ^ s := by omega
  have hul : lo * 2 ^ s % 18446744073709551616 < 18446744073709551616 := Nat.mod_lt _ (by omega)
  unfold bits_Div64_j3 bits_Div64_j1 bindV
  dsimp only
  have fl4 : bits_Div64_l4 (lo : Int) (y : Int) (s : Int) = kl4 (y * 2 ^ s) (lo * 2 ^ s % 18446744073709551616 / 4294967296) := by
    funext ⟨q, r⟩
    simp only [bits_Div64_l4, kl4]
    rw [wrapU_nat s (by omega), ey, el, shr32, shr32, and32 _ n2]
  have fl2 : bits_Div64_l2 (lo : Int) (y : Int) (s : Int) = kl2 (y * 2 ^ s) (lo * 2 ^ s % 18446744073709551616 % 4294967296) := by
    funext ⟨r, q⟩
    simp only [bits_Div64_l2, kl2]
    rw [wrapU_nat s (by omega), ey, el, shr32, and32 _ n2, and32 _ hul]
  rw [fl4, fl2, req_pos (by omega)]
  simp only [wrapU_nat s (by omega)]
  rw [ey, eu, el]
  simp only [shr32]
  rw [and32 _ hul]
  generalize hYdef : y * 2 ^ s = Y at *
  generalize hUdef : hi * 2 ^ s + lo / 2 ^ (64 - s) = u at *
  generalize hLdef : lo * 2 ^ s % 18446744073709551616 = l at *
  have hv1 : 2147483648 ≤ Y / 4294967296 := by omega
  have hv1' : Y / 4294967296 < 4294967296 := by omega
  have hv0 : Y % 4294967296 < 4294967296 := by omega
  have hYe : Y / 4294967296 * 4294967296 + Y % 4294967296 = Y := by omega
  rw [req_pos (by omega)]
  have step : ∀ (d q r : Nat), d < 4294967296 → q ≤ 4294967297 → r < 4294967296 →
      (((decide ((4294967296 : Int) ≤ (q : Int))) || (decide ((IntKind.u64.wrap ((IntKind.u64.wrap ((4294967296 : Int) * (r : Int))) + (d : Int))) < (IntKind.u64.wrap ((q : Int) * ((Y % 4294967296 : Nat) : Int)))))) = decide (4294967296 ≤ q ∨ 4294967296 * r + d < q * (Y % 4294967296))) ∧ IntKind.u64.wrap ((r : Int) + ((Y / 4294967296 : Nat) : Int)) = ((r + Y / 4294967296 : Nat) : Int) := by
    intro d q r hd hq hr
    have hm : q * (Y % 4294967296) ≤ 4294967297 * 4294967295 := Nat.mul_le_mul hq (by omega)
    have e1 : (q : Int) * ((Y % 4294967296 : Nat) : Int) = ((q * (Y % 4294967296) : Nat) : Int) := by rw [Int.natCast_mul]
    rw [e1, wrapU_id (n := (4294967296 : Int) * (r : Int)) (by omega) (by omega), wrapU_id (n := (4294967296 : Int) * (r : Int) + (d : Int)) (by omega) (by omega), wrapU_id (n := ((q * (Y % 4294967296) : Nat) : Int)) (by omega) (by omega), wrapU_id (n := (r : Int) + ((Y / 4294967296 : Nat) : Int)) (by omega) (by omega)]
    refine ⟨?_, by omega⟩
    rw [Bool.eq_iff_iff]
    simp only [Bool.or_eq_true, decide_eq_true_eq]
    omega
  -- the first digit
  obtain ⟨f1, f2, f3, f4⟩ := knuth_first (Y / 4294967296) (Y % 4294967296) (l / 4294967296) u hv1 hv0 (by omega) (by omega)
  have k1 := knuth (f := kl4 Y (l / 4294967296)) (fun q r => ((q : Int), (r : Int))) (Y / 4294967296) (Y % 4294967296) (l / 4294967296) u hv1 hv1' hv0 (by omega) (by omega) (by
    intro q r hq hr
    obtain ⟨s1, s2⟩ := step (l / 4294967296) q r (by omega) hq hr
    simp only [kl4]
    rw [s1, s2]
    unfold bindV
    dsimp only
    by_cases hc : 4294967296 ≤ q ∨ 4294967296 * r + l / 4294967296 < q * (Y % 4294967296)
    · rw [if_pos hc, show decide (4294967296 ≤ q ∨ 4294967296 * r + l / 4294967296 < q * (Y % 4294967296)) = true by simpa using hc, cond_true]
      have hq1 : 1 ≤ q := by
        rcases hc with hc | hc
        · omega
        · rcases Nat.eq_zero_or_pos q with h | h
          · subst h; omega
          · exact h
      rw [wrapU_id (n := (q : Int) - 1) (by omega) (by omega), show (q : Int) - 1 = ((q - 1 : Nat) : Int) by omega]
      by_cases hd : 4294967296 ≤ r + Y / 4294967296
      · rw [if_pos hd, show decide ((4294967296 : Int) ≤ ((r + Y / 4294967296 : Nat) : Int)) = true by simp only [decide_eq_true_eq]; omega, cond_true]
      · rw [if_neg hd, show decide ((4294967296 : Int) ≤ ((r + Y / 4294967296 : Nat) : Int)) = false by simp only [decide_eq_false_iff_not]; omega, cond_false]
    · rw [if_neg hc, show decide (4294967296 ≤ q ∨ 4294967296 * r + l / 4294967296 < q * (Y % 4294967296)) = false by simpa using hc, cond_false]) (u / (Y / 4294967296)) (u % (Y / 4294967296)) f1 f2 (by omega) f4
  rw [hYe] at k1
  have hQ1 : (u * 4294967296 + l / 4294967296) / Y < 4294967296 := by
    rw [Nat.div_lt_iff_lt_mul (by omega)]; omega
  have r1 := Nat.div_add_mod (u * 4294967296 + l / 4294967296) Y
  have r1' := Nat.mod_lt (u * 4294967296 + l / 4294967296) (show 0 < Y by omega)
  have eq1 : IntKind.u64.wrap (Int.tdiv (u : Int) ((Y / 4294967296 : Nat) : Int)) = ((u / (Y / 4294967296) : Nat) : Int) := by rw [tdiv_nat, wrapU_nat _ (by omega)]
  have er1 : IntKind.u64.wrap ((u : Int) - IntKind.u64.wrap (((u / (Y / 4294967296) : Nat) : Int) * ((Y / 4294967296 : Nat) : Int))) = ((u % (Y / 4294967296) : Nat) : Int) := by
    rw [← Int.natCast_mul, wrapU_nat _ (by omega), wrapU_id (by omega) (by omega)]; omega
  try dsimp only at k1
  rw [eq1, er1, k1, some_bind]
  -- what is left of the first digit
  have e21 : IntKind.u64.wrap (IntKind.u64.wrap (IntKind.u64.wrap ((u : Int) * 4294967296) + ((l / 4294967296 : Nat) : Int)) - IntKind.u64.wrap ((((u * 4294967296 + l / 4294967296) / Y : Nat) : Int) * (Y : Int))) = (((u * 4294967296 + l / 4294967296) % Y : Nat) : Int) := by
    rw [← Int.natCast_mul, Nat.mul_comm _ Y]
    exact wrap3 u (l / 4294967296) _ _ r1 (by omega)
  rw [e21, req_pos (by omega)]
  obtain ⟨R1, hR1⟩ : ∃ R1, (u * 4294967296 + l / 4294967296) % Y = R1 := ⟨_, rfl⟩
  obtain ⟨Q1, hQ1d⟩ : ∃ Q1, (u * 4294967296 + l / 4294967296) / Y = Q1 := ⟨_, rfl⟩
  rw [hR1, hQ1d] at r1
  rw [hR1] at r1'
  rw [hQ1d] at hQ1
  rw [hR1, hQ1d]
  clear k1 e21 f1 f2 f3 f4 eq1 er1
  -- the second digit
  obtain ⟨g1, g2, g3, g4⟩ := knuth_first (Y / 4294967296) (Y % 4294967296) (l % 4294967296) R1 hv1 hv0 (by omega) (by omega)
  have k2 := knuth (f := kl2 Y (l % 4294967296)) (fun q r => ((r : Int), (q : Int))) (Y / 4294967296) (Y % 4294967296) (l % 4294967296) R1 hv1 hv1' hv0 (by omega) (by omega) (by
    intro q r hq hr
    obtain ⟨s1, s2⟩ := step (l % 4294967296) q r (by omega) hq hr
    simp only [kl2]
    rw [s1, s2]
    unfold bindV
    dsimp only
    by_cases hc : 4294967296 ≤ q ∨ 4294967296 * r + l % 4294967296 < q * (Y % 4294967296)
    · rw [if_pos hc, show decide (4294967296 ≤ q ∨ 4294967296 * r + l % 4294967296 < q * (Y % 4294967296)) = true by simpa using hc, cond_true]
      have hq1 : 1 ≤ q := by
        rcases hc with hc | hc
        · omega
        · rcases Nat.eq_zero_or_pos q with h | h
          · subst h; omega
          · exact h
      rw [wrapU_id (n := (q : Int) - 1) (by omega) (by omega), show (q : Int) - 1 = ((q - 1 : Nat) : Int) by omega]
      by_cases hd : 4294967296 ≤ r + Y / 4294967296
      · rw [if_pos hd, show decide ((4294967296 : Int) ≤ ((r + Y / 4294967296 : Nat) : Int)) = true by simp only [decide_eq_true_eq]; omega, cond_true]
      · rw [if_neg hd, show decide ((4294967296 : Int) ≤ ((r + Y / 4294967296 : Nat) : Int)) = false by simp only [decide_eq_false_iff_not]; omega, cond_false]
    · rw [if_neg hc, show decide (4294967296 ≤ q ∨ 4294967296 * r + l % 4294967296 < q * (Y % 4294967296)) = false by simpa using hc, cond_false]) (R1 / (Y / 4294967296)) (R1 % (Y / 4294967296)) g1 g2 (by omega) g4
  rw [hYe] at k2
  have hQ2 : (R1 * 4294967296 + l % 4294967296) / Y < 4294967296 := by
    rw [Nat.div_lt_iff_lt_mul (by omega)]; omega
  have r2 := Nat.div_add_mod (R1 * 4294967296 + l % 4294967296) Y
  have r2' := Nat.mod_lt (R1 * 4294967296 + l % 4294967296) (show 0 < Y by omega)
  have eq2 : IntKind.u64.wrap (Int.tdiv (R1 : Int) ((Y / 4294967296 : Nat) : Int)) = ((R1 / (Y / 4294967296) : Nat) : Int) := by rw [tdiv_nat, wrapU_nat _ (by omega)]
  have er2 : IntKind.u64.wrap ((R1 : Int) - IntKind.u64.wrap (((R1 / (Y / 4294967296) : Nat) : Int) * ((Y / 4294967296 : Nat) : Int))) = ((R1 % (Y / 4294967296) : Nat) : Int) := by
    rw [← Int.natCast_mul, wrapU_nat _ (by omega), wrapU_id (by omega) (by omega)]; omega
  try dsimp only at k2
  rw [eq2, er2, k2, some_bind]
  have e22 : IntKind.u64.wrap (IntKind.u64.wrap (IntKind.u64.wrap ((R1 : Int) * 4294967296) + ((l % 4294967296 : Nat) : Int)) - IntKind.u64.wrap ((((R1 * 4294967296 + l % 4294967296) / Y : Nat) : Int) * (Y : Int))) = (((R1 * 4294967296 + l % 4294967296) % Y : Nat) : Int) := by
    rw [← Int.natCast_mul, Nat.mul_comm _ Y]
    exact wrap3 R1 (l % 4294967296) _ _ r2 (by omega)
  rw [req_pos (by omega), e22, shrN _ s (by omega)]
  -- together
  have hfin := (Nat.div_mod_unique (a := u * 18446744073709551616 + l) (b := Y) (c := (R1 * 4294967296 + l % 4294967296) % Y) (d := Q1 * 4294967296 + (R1 * 4294967296 + l % 4294967296) / Y) (by omega)).2 ⟨by
    rw [Nat.mul_add, ← Nat.mul_assoc]; omega, r2'⟩
  rw [hfin.1, hfin.2, wrap2 _ _ hQ1 hQ2]

abbrev WW (n : Nat) : ratio_wide := ⟨hiW n, loW n⟩
theorem rem_core (hi lo d : Nat) (hd : 0 < d) : (hi * 18446744073709551616 + lo) % d = (hi % d * 18446744073709551616 + lo) % d := by
  have h := Nat.div_add_mod hi d
  conv => lhs; rw [← h]
  rw [Nat.add_mul, Nat.mul_assoc, Nat.add_assoc, Nat.mul_add_mod]
theorem quo_core (hi lo d : Nat) (hd : 0 < d) : (hi * 18446744073709551616 + lo) / d = hi / d * 18446744073709551616 + (hi % d * 18446744073709551616 + lo) / d := by
  have h := Nat.div_add_mod hi d
  conv => lhs; rw [← h]
  rw [Nat.add_mul, Nat.mul_assoc, Nat.add_assoc, Nat.mul_add_div hd]
theorem modW (n d : Nat) (hn : n < 340282366920938463463374607431768211456) (hd : 0 < d) (hd2 : d < 18446744073709551616) : ratio_wide_mod (WW n) (d : Int) = some ((n % d : Nat) : Int) := by
  unfold ratio_wide_mod bits_Rem64
  dsimp only [WW]
  rw [req_pos (by omega), tmod_nat, Div64_eq _ _ d (Nat.mod_lt _ hd) (by omega) hd2]
  simp only [Option.bind]
  rw [← rem_core _ _ d hd, show n / 18446744073709551616 * 18446744073709551616 + n % 18446744073709551616 = n by omega]
theorem overW (n d : Nat) (hn : n < 340282366920938463463374607431768211456) (hd : 0 < d) (hd2 : d < 18446744073709551616) : ratio_wide_over (WW n) (d : Int) = some (WW (n / d)) := by
  unfold ratio_wide_over
  dsimp only [WW]
  have h1 := Nat.div_le_self (n / 18446744073709551616) d
  rw [req_pos (by omega), tmod_nat, tdiv_nat, Div64_eq _ _ d (Nat.mod_lt _ hd) (by omega) hd2, wrapU_nat _ (by omega)]
  simp only [Option.bind]
  have e := quo_core (n / 18446744073709551616) (n % 18446744073709551616) d hd
  rw [show n / 18446744073709551616 * 18446744073709551616 + n % 18446744073709551616 = n by omega] at e
  have hlt : (n / 18446744073709551616 % d * 18446744073709551616 + n % 18446744073709551616) / d < 18446744073709551616 := by
    rw [Nat.div_lt_iff_lt_mul hd]
    have := Nat.mod_lt (n / 18446744073709551616) hd
    have h2 : n / 18446744073709551616 % d * 18446744073709551616 + 18446744073709551616 ≤ 18446744073709551616 * d := by omega
    omega
  rw [e]
  generalize (n / 18446744073709551616 % d * 18446744073709551616 + n % 18446744073709551616) / d = x at *
  generalize n / 18446744073709551616 / d = z at *
  simp only [Option.some.injEq, hiW, loW, ratio_wide.mk.injEq]
  constructor <;> omega
theorem plusW (m n : Nat) (h : m + n < 340282366920938463463374607431768211456) : ratio_wide_plus (WW m) (WW n) = some (WW (m + n)) := by
  unfold ratio_wide_plus bits_Add64
  dsimp only [WW, hiW, loW]
  rw [req_pos (by omega)]
  simp only [Option.bind]
  rw [req_pos (by omega)]
  simp only [Option.some.injEq, ratio_wide.mk.injEq]
  constructor <;> omega
theorem minusW (m n : Nat) (h : n ≤ m) (hm : m < 340282366920938463463374607431768211456) : ratio_wide_minus (WW m) (WW n) = some (WW (m - n)) := by
  unfold ratio_wide_minus bits_Sub64
  dsimp only [WW, hiW, loW]
  rw [req_pos (by omega)]
  simp only [Option.bind]
  by_cases hlt : ((m % 18446744073709551616 : Nat) : Int) < ((n % 18446744073709551616 : Nat) : Int) + 0
  · rw [if_pos hlt, req_pos (by omega)]
    simp only [Option.some.injEq, ratio_wide.mk.injEq]
    constructor <;> omega
  · rw [if_neg hlt, req_pos (by omega)]
    simp only [Option.some.injEq, ratio_wide.mk.injEq]
    constructor <;> omega
def addS (x : Bool) (m : Nat) (y : Bool) (n : Nat) : Bool × Nat := if x = y then (x, m + n) else if n ≤ m then (x, m - n) else (y, n - m)
theorem addS_le (x : Bool) (m : Nat) (y : Bool) (n : Nat) : (addS x m y n).2 ≤ m + n := by
  unfold addS; (repeat' split) <;> simp <;> omega
theorem addS_val (x : Bool) (m : Nat) (y : Bool) (n : Nat) : sv (addS x m y n).1 (addS x m y n).2 = sv x m + sv y n := by
  unfold addS
  split
  · rename_i h; subst h; cases x <;> simp [sv] <;> omega
  · rename_i h
    have hy : y = !x := by cases x <;> cases y <;> simp_all
    subst hy
    split <;> cases x <;> simp [sv] <;> omega
theorem addS_scale (x : Bool) (m : Nat) (y : Bool) (n g : Nat) (hg : 0 < g) : addS x (m * g) y (n * g) = ((addS x m y n).1, (addS x m y n).2 * g) := by
  unfold addS
  split
  · rw [Nat.add_mul]
  · by_cases h : n ≤ m
    · rw [if_pos h, if_pos (Nat.mul_le_mul_right g h), Nat.sub_mul]
    · rw [if_neg h, if_neg (fun h2 => h (Nat.le_of_mul_le_mul_right h2 hg)), Nat.sub_mul]
theorem cmpI_le (m n : Nat) : decide ((0 : Int) ≤ cmpI m n) = decide (n ≤ m) := by
  unfold cmpI
  rw [Bool.eq_iff_iff]
  simp only [decide_eq_true_eq]
  split
  · omega
  · split <;> omega
theorem plusS (x : Bool) (m : Nat) (y : Bool) (n : Nat) (h : m + n < 340282366920938463463374607431768211456) :
    ratio_signed_plus ⟨x, WW m⟩ ⟨y, WW n⟩ = some ⟨(addS x m y n).1, WW (addS x m y n).2⟩ := by
  unfold ratio_signed_plus addS
  dsimp only
  by_cases hxy : x = y
  · subst hxy
    rw [if_pos rfl, show (x == x) = true by simp, cond_true, plusW m n h]
    rfl
  · rw [if_neg hxy, show (x == y) = false by simpa using hxy, cond_false]
    have hc : ratio_wide_compare (WW m) (WW n) = some (cmpI m n) := wideCmp m n
    rw [hc, some_bind, cmpI_le]
    by_cases hmn : n ≤ m
    · rw [if_pos hmn, show decide (n ≤ m) = true by simpa using hmn, cond_true, minusW m n hmn (by omega)]; rfl
    · rw [if_neg hmn, show decide (n ≤ m) = false by simpa using hmn, cond_false, minusW n m (by omega) (by omega)]; rfl
theorem totalS (x : Bool) (m : Nat) (y : Bool) (n : Nat) (h : m + n < 340282366920938463463374607431768211456) :
    ref01_total x (WR m) y (WR n) = some ((addS x m y n).1, WR (addS x m y n).2) := by
  unfold ref01_total addS
  by_cases hxy : x = y
  · subst hxy
    rw [if_pos rfl, show (x == x) = true by simp, cond_true, Plus_eq m n h]
    rfl
  · rw [if_neg hxy, show (x == y) = false by simpa using hxy, cond_false, Order_eq, some_bind, cmpI_le]
    by_cases hmn : n ≤ m
    · rw [if_pos hmn, show decide (n ≤ m) = true by simpa using hmn, cond_true, Minus_eq m n hmn (by omega)]; rfl
    · rw [if_neg hmn, show decide (n ≤ m) = false by simpa using hmn, cond_false, Minus_eq n m (by omega) (by omega)]; rfl
theorem addS_cop (x : Bool) (m : Nat) (y : Bool) (n d : Nat) (hm : Nat.Coprime m d) (hn : d ∣ n) : Nat.Coprime (addS x m y n).2 d := by
  have key : ∀ k, Nat.gcd k d ∣ m → Nat.Coprime k d := fun k hk => by
    have := Nat.dvd_gcd hk (Nat.gcd_dvd_right k d)
    rw [hm] at this
    exact Nat.dvd_one.1 this
  apply key
  have h1 := Nat.gcd_dvd_left (addS x m y n).2 d
  have h2 : Nat.gcd (addS x m y n).2 d ∣ n := Nat.dvd_trans (Nat.gcd_dvd_right _ d) hn
  have h3 : (addS x m y n).2 = m + n ∨ (addS x m y n).2 + n = m ∨ (addS x m y n).2 + m = n := by
    unfold addS; (repeat' split) <;> simp <;> omega
  generalize (addS x m y n).2 = k at *
  generalize Nat.gcd k d = g at *
  rcases h3 with h3 | h3 | h3
  · rw [h3] at h1
    exact (Nat.dvd_add_iff_left h2).2 h1
  · have := Nat.dvd_add h1 h2
    rwa [h3] at this
  · rw [← h3] at h2
    exact (Nat.dvd_add_iff_right h1).2 h2
theorem addS_swap (x : Bool) (m : Nat) (y : Bool) (n : Nat) : (addS x m y n).2 = (addS y n x m).2 := by
  unfold addS
  by_cases h : x = y
  · subst h; simp; omega
  · have h' : ¬ y = x := fun e => h e.symm
    simp only [if_neg h, if_neg h']
    split <;> split <;> simp <;> omega
def addOf2 (a b : api_Ratio) : api_Ratio × Int :=
  if vR a = true ∧ vR b = true then redOf (addS (decide (a.Num < 0)) (a.Num.natAbs * b.Den.natAbs) (decide (b.Num < 0)) (b.Num.natAbs * a.Den.natAbs)).1 (addS (decide (a.Num < 0)) (a.Num.natAbs * b.Den.natAbs) (decide (b.Num < 0)) (b.Num.natAbs * a.Den.natAbs)).2 (a.Den.natAbs * b.Den.natAbs) else (⟨0, 0⟩, 1)
theorem add_lowest (x y : Bool) (na nb da db : Nat) (ha : Nat.gcd na da = 1) (hb : Nat.gcd nb db = 1) (h1 : 0 < da) (h2 : 0 < db) :
    redOf (addS x (na * db) y (nb * da)).1 (addS x (na * db) y (nb * da)).2 (da * db) =
      fitOf (addS x (na * (db / Nat.gcd da db)) y (nb * (da / Nat.gcd da db))).1 ((addS x (na * (db / Nat.gcd da db)) y (nb * (da / Nat.gcd da db))).2 / Nat.gcd (addS x (na * (db / Nat.gcd da db)) y (nb * (da / Nat.gcd da db))).2 (Nat.gcd da db))
        (da / Nat.gcd da db * (db / Nat.gcd (addS x (na * (db / Nat.gcd da db)) y (nb * (da / Nat.gcd da db))).2 (Nat.gcd da db))) := by
  have hg : 0 < Nat.gcd da db := Nat.gcd_pos_of_pos_left _ h1
  have ea := Nat.div_mul_cancel (Nat.gcd_dvd_left da db)
  have eb := Nat.div_mul_cancel (Nat.gcd_dvd_right da db)
  have hcop : Nat.Coprime (da / Nat.gcd da db) (db / Nat.gcd da db) := Nat.coprime_div_gcd_div_gcd hg
  generalize Nat.gcd da db = g at *
  generalize hd1 : da / g = d1 at *
  generalize hd2 : db / g = d2 at *
  have hs : addS x (na * db) y (nb * da) = ((addS x (na * d2) y (nb * d1)).1, (addS x (na * d2) y (nb * d1)).2 * g) := by
    rw [← addS_scale _ _ _ _ _ hg, Nat.mul_assoc, Nat.mul_assoc, ea, eb]
  rw [hs]
  have c1 : Nat.Coprime (addS x (na * d2) y (nb * d1)).2 d1 := addS_cop _ _ _ _ _ (Nat.Coprime.mul_left (Nat.Coprime.coprime_dvd_right ⟨g, ea.symm⟩ ha) hcop.symm) ⟨nb, Nat.mul_comm _ _⟩
  have c2 : Nat.Coprime (addS x (na * d2) y (nb * d1)).2 d2 := by
    rw [addS_swap]
    exact addS_cop _ _ _ _ _ (Nat.Coprime.mul_left (Nat.Coprime.coprime_dvd_right ⟨g, eb.symm⟩ hb) hcop) ⟨na, Nat.mul_comm _ _⟩
  generalize addS x (na * d2) y (nb * d1) = sk at *
  obtain ⟨s, k⟩ := sk
  dsimp only at *
  have hc : 0 < Nat.gcd k g := Nat.gcd_pos_of_pos_right _ hg
  have ek := Nat.div_mul_cancel (Nat.gcd_dvd_left k g)
  have eg := Nat.div_mul_cancel (Nat.gcd_dvd_right k g)
  have hcg : Nat.Coprime (k / Nat.gcd k g) (g / Nat.gcd k g) := Nat.coprime_div_gcd_div_gcd hc
  generalize Nat.gcd k g = c at *
  have hdb : db / c = d2 * (g / c) := by
    rw [← eb]
    conv => lhs; rw [← eg]
    rw [← Nat.mul_assoc, Nat.mul_div_cancel _ hc]
  rw [hdb]
  have hkk : k / c ∣ k := ⟨c, ek.symm⟩
  refine red_unique s _ _ _ _ (g * c) (Nat.mul_pos hg hc) ?_ ?_ ?_
  · conv => lhs; rw [← ek]
    rw [Nat.mul_assoc, Nat.mul_comm c g]
  · rw [← ea, ← eb]
    have : d1 * (d2 * (g / c)) * (g * c) = d1 * g * (d2 * (g / c * c)) := by
      simp only [Nat.mul_assoc, Nat.mul_left_comm, Nat.mul_comm]
    rw [this, eg]
  · exact (Nat.Coprime.mul_right (c1.coprime_dvd_left hkk) ((c2.coprime_dvd_left hkk).mul_right hcg))
theorem Add_eq (a b : api_Ratio) : ratio_Add a b = some (addOf2 a b) := by
  unfold ratio_Add addOf2
  rw [Valid_eq, Valid_eq]
  simp only [Option.bind]
  rw [req_pos (by intro _; rfl)]
  simp only [Option.getD_some]
  cases ha : vR a with
  | false => simp
  | true =>
    cases hb : vR b with
    | false => simp
    | true =>
      have va := vn_of ha
      have vb := vn_of hb
      simp only [Bool.not_true, Bool.or_self, cond_false, and_self, if_true]
      have n1 := va.n1; have n2 := vb.n1; have d1 := va.d1; have d2 := vb.d1; have d3 := va.d0; have d4 := vb.d0
      have hg : 0 < Nat.gcd a.Den.natAbs b.Den.natAbs := Nat.gcd_pos_of_pos_left _ va.d0
      have hg2 : Nat.gcd a.Den.natAbs b.Den.natAbs ≤ a.Den.natAbs := Nat.gcd_le_left _ va.d0
      have q3 := Nat.div_le_self a.Den.natAbs (Nat.gcd a.Den.natAbs b.Den.natAbs)
      have q4 := Nat.div_le_self b.Den.natAbs (Nat.gcd a.Den.natAbs b.Den.natAbs)
      rw [wrapU_den va, wrapU_den vb, gcd_eq]
      simp only
      rw [req_pos (by omega)]
      simp only [tdiv_nat]
      rw [wrapU_nat _ (by omega), wrapU_nat _ (by omega), signedProduct_eq _ _ va.i1 (by omega)]
      simp only
      rw [req_pos (by omega), signedProduct_eq _ _ vb.i1 (by omega)]
      simp only
      have m1 := mul_lt n1 (show b.Den.natAbs / Nat.gcd a.Den.natAbs b.Den.natAbs ≤ 1152921504606846976 by omega)
      have m2 := mul_lt n2 (show a.Den.natAbs / Nat.gcd a.Den.natAbs b.Den.natAbs ≤ 1152921504606846976 by omega)
      have hp := plusS (decide (a.Num < 0)) (a.Num.natAbs * (b.Den.natAbs / Nat.gcd a.Den.natAbs b.Den.natAbs)) (decide (b.Num < 0)) (b.Num.natAbs * (a.Den.natAbs / Nat.gcd a.Den.natAbs b.Den.natAbs)) (by omega)
      have hle := addS_le (decide (a.Num < 0)) (a.Num.natAbs * (b.Den.natAbs / Nat.gcd a.Den.natAbs b.Den.natAbs)) (decide (b.Num < 0)) (b.Num.natAbs * (a.Den.natAbs / Nat.gcd a.Den.natAbs b.Den.natAbs))
      rw [hp]
      simp only
      rw [add_lowest _ _ _ _ _ _ va.cop vb.cop va.d0 vb.d0]
      generalize addS (decide (a.Num < 0)) (a.Num.natAbs * (b.Den.natAbs / Nat.gcd a.Den.natAbs b.Den.natAbs)) (decide (b.Num < 0)) (b.Num.natAbs * (a.Den.natAbs / Nat.gcd a.Den.natAbs b.Den.natAbs)) = sk at *
      obtain ⟨s, k⟩ := sk
      dsimp only at *
      rw [modW k _ (by omega) hg (by omega)]
      simp only
      rw [gcd_eq, show Nat.gcd (k % Nat.gcd a.Den.natAbs b.Den.natAbs) (Nat.gcd a.Den.natAbs b.Den.natAbs) = Nat.gcd k (Nat.gcd a.Den.natAbs b.Den.natAbs) by rw [Nat.gcd_comm, Nat.gcd_comm k, Nat.gcd_rec (Nat.gcd a.Den.natAbs b.Den.natAbs) k, Nat.gcd_comm]]
      simp only
      have hc : 0 < Nat.gcd k (Nat.gcd a.Den.natAbs b.Den.natAbs) := Nat.gcd_pos_of_pos_right _ hg
      have hc2 : Nat.gcd k (Nat.gcd a.Den.natAbs b.Den.natAbs) ≤ Nat.gcd a.Den.natAbs b.Den.natAbs := Nat.gcd_le_right _ hg
      have q5 := Nat.div_le_self b.Den.natAbs (Nat.gcd k (Nat.gcd a.Den.natAbs b.Den.natAbs))
      rw [overW k _ (by omega) hc (by omega)]
      simp only
      rw [req_pos (by omega), tdiv_nat, wrapU_nat _ (by omega), product_eq _ _ (by omega) (by omega)]
      simp only
      rw [fittedW]
theorem AddR_eq (a b : api_Ratio) : ref01_Add a b = some (addOf2 a b) := by
  unfold ref01_Add addOf2
  rw [ValidR_eq, ValidR_eq]
  simp only [Option.bind]
  rw [req_pos (by intro _; rfl)]
  simp only [Option.getD_some]
  cases ha : vR a with
  | false => simp
  | true =>
    cases hb : vR b with
    | false => simp
    | true =>
      have va := vn_of ha
      have vb := vn_of hb
      have n1 := va.n1; have n2 := vb.n1; have d1 := va.d1; have d2 := vb.d1
      have m1 := mul_lt n1 d2
      have m2 := mul_lt n2 d1
      have m3 := mul_lt d1 d2
      simp only [Bool.not_true, Bool.or_self, cond_false, and_self, if_true]
      rw [Size_eq _ va.i1, Size_eq _ vb.i2]
      simp only
      rw [Product_eq _ _ (by omega) (by omega)]
      simp only
      rw [Size_eq _ vb.i1, Size_eq _ va.i2]
      simp only
      rw [Product_eq _ _ (by omega) (by omega)]
      simp only
      rw [totalS _ _ _ _ (by omega)]
      have hle := addS_le (decide (a.Num < 0)) (a.Num.natAbs * b.Den.natAbs) (decide (b.Num < 0)) (b.Num.natAbs * a.Den.natAbs)
      simp only
      rw [Product_eq _ _ (by omega) (by omega)]
      simp only
      rw [Reduce_eq _ _ _ (by omega) (Nat.mul_pos va.d0 vb.d0) (by omega)]

theorem WR_small (x : Nat) (h : x < 18446744073709551616) : WR x = ⟨0, (x : Int)⟩ := by
  simp only [WR, ref01_Wide.mk.injEq]; omega
theorem WW_small (x : Nat) (h : x < 18446744073709551616) : WW x = ⟨0, (x : Int)⟩ := by
  simp only [WW, hiW, loW, ratio_wide.mk.injEq]; omega
theorem over60 (x : Nat) : (decide ((0 : Int) < (WR x).Hi) || decide ((1152921504606846976 : Int) < (WR x).Lo)) = decide (1152921504606846976 < x) := by
  have e1 : (WR x).Hi = ((x / 18446744073709551616 : Nat) : Int) := rfl
  have e2 : (WR x).Lo = ((x % 18446744073709551616 : Nat) : Int) := rfl
  rw [e1, e2, Bool.eq_iff_iff]
  simp only [Bool.or_eq_true, decide_eq_true_eq]
  omega
theorem reducedW (neg : Bool) (n d : Nat) (hn : n < 340282366920938463463374607431768211456) (hd : 0 < d) (hd2 : d < 18446744073709551616) : ratio_reduced ⟨neg, WW n⟩ (d : Int) = some (redOf neg n d) := by
  have hg : 0 < Nat.gcd n d := Nat.gcd_pos_of_pos_right _ hd
  have hg2 : Nat.gcd n d ≤ d := Nat.gcd_le_right _ hd
  have h2 := Nat.div_le_self d (Nat.gcd n d)
  unfold ratio_reduced redOf
  dsimp only
  rw [modW n d hn hd hd2, some_bind, gcd_eq, some_bind, show Nat.gcd (n % d) d = Nat.gcd n d by rw [Nat.gcd_comm, Nat.gcd_comm n, Nat.gcd_rec d n, Nat.gcd_comm], overW n _ hn hg (by omega), some_bind, req_pos (by omega), tdiv_nat, wrapU_nat _ (by omega)]
  have e : (⟨(0 : Int), ((d / Nat.gcd n d : Nat) : Int)⟩ : ratio_wide) = WW (d / Nat.gcd n d) := (WW_small _ (by omega)).symm
  rw [e, fittedW]
  rfl
abbrev MX : Nat := 1152921504606846976
def lcmF : List api_Ratio → Nat → Option Nat
  | [], c => some c
  | a :: l, c => if Nat.lcm c a.Den.natAbs ≤ 1152921504606846976 then lcmF l (Nat.lcm c a.Den.natAbs) else none
def sumF (C : Nat) (l : List api_Ratio) (p : Bool × Nat) : Bool × Nat := l.foldl (fun p a => addS p.1 p.2 (decide (a.Num < 0)) (a.Num.natAbs * (C / a.Den.natAbs))) p
def sumOf (l : List api_Ratio) : api_Ratio × Int :=
  if 100 < l.length then (⟨0, 0⟩, 3)
  else if (l.all fun a => vR a) = true then (match lcmF l 1 with | some C => redOf (sumF C l (false, 0)).1 (sumF C l (false, 0)).2 C | none => (⟨0, 0⟩, 6))
  else (⟨0, 0⟩, 1)
theorem lcm_mul (c d : Nat) : c * (d / Nat.gcd c d) = Nat.lcm c d := by
  unfold Nat.lcm
  rw [Nat.mul_div_assoc _ (Nat.gcd_dvd_right c d)]
theorem drop_cons {α : Type} (l : List α) (k : Nat) (h : k < l.length) : l.drop k = l[k] :: l.drop (k + 1) := List.drop_eq_getElem_cons h
theorem lcm_pos' {c d : Nat} (hc : 0 < c) (hd : 0 < d) : 0 < Nat.lcm c d := Nat.lcm_pos hc hd
theorem lcmF_pos : ∀ (l : List api_Ratio) (c C : Nat), 0 < c → c ≤ MX → (∀ a ∈ l, vR a = true) → lcmF l c = some C → 0 < C ∧ C ≤ MX ∧ c ∣ C ∧ ∀ a ∈ l, a.Den.natAbs ∣ C
  | [], c, C, h0, h1, _, h => by
    simp only [lcmF, Option.some.injEq] at h
    subst h
    exact ⟨h0, h1, Nat.dvd_refl c, by simp⟩
  | a :: l, c, C, h0, h1, hv, h => by
    simp only [lcmF] at h
    split at h
    · rename_i hle
      obtain ⟨g1, g2, g3, g4⟩ := lcmF_pos l _ C (lcm_pos' h0 (vn_of (hv a (by simp))).d0) hle (fun x hx => hv x (by simp [hx])) h
      refine ⟨g1, g2, Nat.dvd_trans (Nat.dvd_lcm_left _ _) g3, fun x hx => ?_⟩
      rcases List.mem_cons.1 hx with rfl | hx
      · exact Nat.dvd_trans (Nat.dvd_lcm_right _ _) g3
      · exact g4 x hx
    · cases h
theorem loop4 (l : List api_Ratio) (hl : l.length ≤ 100) (hv : ∀ a ∈ l, vR a = true) : ∀ (n k c : Nat), l.length - k = n → k ≤ l.length → 0 < c → c ≤ MX →
    iter (ratio_Sum_l4 l) ((c : Int), (k : Int)) = some (match lcmF (l.drop k) c with | some C => .inl (C : Int) | none => .inr (⟨0, 0⟩, 6)) := by
  intro n
  induction n with
  | zero =>
    intro k c hn hk h0 h1
    have : k = l.length := by omega
    subst this
    rw [List.drop_length]
    refine iter_inr ?_
    simp [ratio_Sum_l4, lcmF]
  | succ n ih =>
    intro k c hn hk h0 h1
    have hk' : k < l.length := by omega
    have va := vn_of (hv l[k] (List.getElem_mem hk'))
    have hg : 0 < Nat.gcd c l[k].Den.natAbs := Nat.gcd_pos_of_pos_left _ h0
    have d1 := va.d1
    have q1 := Nat.div_le_self l[k].Den.natAbs (Nat.gcd c l[k].Den.natAbs)
    have hm := mul_lt h1 (show l[k].Den.natAbs / Nat.gcd c l[k].Den.natAbs ≤ 1152921504606846976 by omega)
    have hf : ratio_Sum_l4 l ((c : Int), (k : Int)) = some (if Nat.lcm c l[k].Den.natAbs ≤ 1152921504606846976 then .inl (((Nat.lcm c l[k].Den.natAbs : Nat) : Int), ((k + 1 : Nat) : Int)) else .inr (.inr (⟨0, 0⟩, 6))) := by
      simp only [ratio_Sum_l4]
      rw [show decide ((k : Int) < (l.length : Int)) = true by simp; exact hk', cond_true, req_pos (by omega), ix_nat l k hk', wrapU_den va, gcd_eq, some_bind, req_pos (by omega), tdiv_nat, wrapU_nat _ (by omega), product_eq _ _ (by unfold MX at h1; omega) (by omega), some_bind, lcm_mul]
      rw [lcm_mul] at hm
      generalize Nat.lcm c l[k].Den.natAbs = x at *
      by_cases hx : x ≤ 1152921504606846976
      · rw [if_pos hx, show ((hiW x != 0) || decide ((1152921504606846976 : Int) < loW x)) = false by simp only [hiW, loW, Bool.or_eq_false_iff, bne_eq_false_iff_eq, decide_eq_false_iff_not]; omega, cond_false, i64_add1 k (by omega)]
        simp only [loW, Nat.mod_eq_of_lt (show x < 18446744073709551616 by omega)]
      · rw [if_neg hx, show ((hiW x != 0) || decide ((1152921504606846976 : Int) < loW x)) = true by simp only [hiW, loW, Bool.or_eq_true, bne_iff_ne, ne_eq, decide_eq_true_eq]; omega, cond_true]
    rw [drop_cons l k hk']
    simp only [lcmF]
    by_cases hx : Nat.lcm c l[k].Den.natAbs ≤ 1152921504606846976
    · rw [if_pos hx] at hf ⊢
      rw [iter_inl hf]
      exact ih (k + 1) _ (by omega) (by omega) (lcm_pos' h0 va.d0) hx
    · rw [if_neg hx] at hf ⊢
      rw [iter_inr hf]
theorem loop4R (l : List api_Ratio) (hl : l.length ≤ 100) (hv : ∀ a ∈ l, vR a = true) : ∀ (n k c : Nat), l.length - k = n → k ≤ l.length → 0 < c → c ≤ MX →
    iter (ref01_Sum_l4 l) ((k : Int), hiW c, loW c) = some (match lcmF (l.drop k) c with | some C => .inl (hiW C, loW C) | none => .inr (⟨0, 0⟩, 6)) := by
  intro n
  induction n with
  | zero =>
    intro k c hn hk h0 h1
    have : k = l.length := by omega
    subst this
    rw [List.drop_length]
    refine iter_inr ?_
    simp [ref01_Sum_l4, lcmF]
  | succ n ih =>
    intro k c hn hk h0 h1
    have hk' : k < l.length := by omega
    have va := vn_of (hv l[k] (List.getElem_mem hk'))
    have hg : 0 < Nat.gcd c l[k].Den.natAbs := Nat.gcd_pos_of_pos_left _ h0
    have hg2 : Nat.gcd c l[k].Den.natAbs ≤ c := Nat.gcd_le_left _ h0
    have d1 := va.d1
    have q1 := Nat.div_le_self l[k].Den.natAbs (Nat.gcd c l[k].Den.natAbs)
    have hm := mul_lt h1 (show l[k].Den.natAbs / Nat.gcd c l[k].Den.natAbs ≤ 1152921504606846976 by omega)
    have e0 : (⟨(0 : Int), ((l[k].Den.natAbs : Nat) : Int)⟩ : ref01_Wide) = WR l[k].Den.natAbs := by simp only [WR, ref01_Wide.mk.injEq]; omega
    have hf : ref01_Sum_l4 l ((k : Int), hiW c, loW c) = some (if Nat.lcm c l[k].Den.natAbs ≤ 1152921504606846976 then .inl (((k + 1 : Nat) : Int), hiW (Nat.lcm c l[k].Den.natAbs), loW (Nat.lcm c l[k].Den.natAbs)) else .inr (.inr (⟨0, 0⟩, 6))) := by
      simp only [ref01_Sum_l4]
      rw [show decide ((k : Int) < (l.length : Int)) = true by simp; exact hk', cond_true, req_pos (by omega), ix_nat l k hk', Size_eq _ va.i2, some_bind, e0, show (⟨hiW c, loW c⟩ : ref01_Wide) = WR c by rfl, Divisor_eq _ _ (by unfold MX at h1; omega) (by omega), some_bind, Divide_eq _ _ (by omega) hg (by unfold MX at h1; omega), some_bind]
      simp only
      rw [show loW c = (c : Int) by simp only [loW]; unfold MX at h1; omega, WR_small (l[k].Den.natAbs / Nat.gcd c l[k].Den.natAbs) (by omega), Product_eq _ _ (by unfold MX at h1; omega) (by omega), some_bind, lcm_mul]
      rw [lcm_mul] at hm
      generalize Nat.lcm c l[k].Den.natAbs = x at *
      by_cases hx : x ≤ 1152921504606846976
      · rw [if_pos hx, over60, show decide (1152921504606846976 < x) = false by simp only [decide_eq_false_iff_not]; omega, cond_false, i64_add1 k (by omega)]
        rfl
      · rw [if_neg hx, over60, show decide (1152921504606846976 < x) = true by simp only [decide_eq_true_eq]; omega, cond_true]
    rw [drop_cons l k hk']
    simp only [lcmF]
    by_cases hx : Nat.lcm c l[k].Den.natAbs ≤ 1152921504606846976
    · rw [if_pos hx] at hf ⊢
      rw [iter_inl hf]
      exact ih (k + 1) _ (by omega) (by omega) (lcm_pos' h0 va.d0) hx
    · rw [if_neg hx] at hf ⊢
      rw [iter_inr hf]
theorem term_le {a : api_Ratio} (va : VN a) {C : Nat} (hC : C ≤ MX) : a.Num.natAbs * (C / a.Den.natAbs) ≤ 1329227995784915872903807060280344576 :=
  mul_lt va.n1 (Nat.le_trans (Nat.div_le_self _ _) hC)
theorem loop2 (l : List api_Ratio) (C : Nat) (hC : C ≤ MX) (hl : l.length ≤ 100) (hv : ∀ a ∈ l, vR a = true) : ∀ (n k : Nat) (s : Bool) (m : Nat), l.length - k = n → k ≤ l.length → m ≤ k * 1329227995784915872903807060280344576 →
    iter (ratio_Sum_l2 l (C : Int)) ((k : Int), s, hiW m, loW m) = some ((sumF C (l.drop k) (s, m)).1, hiW (sumF C (l.drop k) (s, m)).2, loW (sumF C (l.drop k) (s, m)).2) ∧ (sumF C (l.drop k) (s, m)).2 ≤ 100 * 1329227995784915872903807060280344576 := by
  intro n
  induction n with
  | zero =>
    intro k s m hn hk hm
    have : k = l.length := by omega
    subst this
    rw [List.drop_length]
    refine ⟨iter_inr ?_, ?_⟩
    · simp [ratio_Sum_l2, sumF]
    · exact Nat.le_trans hm (Nat.mul_le_mul_right _ hl)
  | succ n ih =>
    intro k s m hn hk hm
    have hk' : k < l.length := by omega
    have va := vn_of (hv l[k] (List.getElem_mem hk'))
    have ht := term_le va hC
    have q1 := Nat.div_le_self C l[k].Den.natAbs
    have d0 := va.d0
    have hf : ratio_Sum_l2 l (C : Int) ((k : Int), s, hiW m, loW m) = some (.inl (((k + 1 : Nat) : Int), (addS s m (decide (l[k].Num < 0)) (l[k].Num.natAbs * (C / l[k].Den.natAbs))).1, hiW (addS s m (decide (l[k].Num < 0)) (l[k].Num.natAbs * (C / l[k].Den.natAbs))).2, loW (addS s m (decide (l[k].Num < 0)) (l[k].Num.natAbs * (C / l[k].Den.natAbs))).2)) := by
      simp only [ratio_Sum_l2]
      have hp := plusS s m (decide (l[k].Num < 0)) (l[k].Num.natAbs * (C / l[k].Den.natAbs)) (by omega)
      rw [show decide ((k : Int) < (l.length : Int)) = true by simp; exact hk', cond_true, req_pos (by omega), ix_nat l k hk', wrapU_den va, req_pos (by omega), tdiv_nat, wrapU_nat _ (by unfold MX at hC; omega), signedProduct_eq _ _ va.i1 (by unfold MX at hC; omega), some_bind, hp, some_bind, i64_add1 k (by omega)]
    have hle := addS_le s m (decide (l[k].Num < 0)) (l[k].Num.natAbs * (C / l[k].Den.natAbs))
    have := ih (k + 1) (addS s m (decide (l[k].Num < 0)) (l[k].Num.natAbs * (C / l[k].Den.natAbs))).1 (addS s m (decide (l[k].Num < 0)) (l[k].Num.natAbs * (C / l[k].Den.natAbs))).2 (by omega) (by omega) (by omega)
    rw [iter_inl hf, drop_cons l k hk']
    exact this
theorem loop2R (l : List api_Ratio) (C : Nat) (hC : C ≤ MX) (hl : l.length ≤ 100) (hv : ∀ a ∈ l, vR a = true) : ∀ (n k : Nat) (s : Bool) (m : Nat), l.length - k = n → k ≤ l.length → m ≤ k * 1329227995784915872903807060280344576 →
    iter (ref01_Sum_l2 l (hiW C) (loW C)) (s, (k : Int), hiW m, loW m) = some ((sumF C (l.drop k) (s, m)).1, hiW (sumF C (l.drop k) (s, m)).2, loW (sumF C (l.drop k) (s, m)).2) := by
  intro n
  induction n with
  | zero =>
    intro k s m hn hk hm
    have : k = l.length := by omega
    subst this
    rw [List.drop_length]
    refine iter_inr ?_
    simp [ref01_Sum_l2, sumF]
  | succ n ih =>
    intro k s m hn hk hm
    have hk' : k < l.length := by omega
    have va := vn_of (hv l[k] (List.getElem_mem hk'))
    have ht := term_le va hC
    have q1 := Nat.div_le_self C l[k].Den.natAbs
    have d0 := va.d0; have d1 := va.d1; have n1 := va.n1
    have e0 : (⟨(0 : Int), ((l[k].Den.natAbs : Nat) : Int)⟩ : ref01_Wide) = WR l[k].Den.natAbs := by simp only [WR, ref01_Wide.mk.injEq]; omega
    have hf : ref01_Sum_l2 l (hiW C) (loW C) (s, (k : Int), hiW m, loW m) = some (.inl ((addS s m (decide (l[k].Num < 0)) (l[k].Num.natAbs * (C / l[k].Den.natAbs))).1, ((k + 1 : Nat) : Int), hiW (addS s m (decide (l[k].Num < 0)) (l[k].Num.natAbs * (C / l[k].Den.natAbs))).2, loW (addS s m (decide (l[k].Num < 0)) (l[k].Num.natAbs * (C / l[k].Den.natAbs))).2)) := by
      simp only [ref01_Sum_l2]
      have hp := totalS s m (decide (l[k].Num < 0)) (l[k].Num.natAbs * (C / l[k].Den.natAbs)) (by omega)
      rw [show decide ((k : Int) < (l.length : Int)) = true by simp; exact hk', cond_true, req_pos (by omega), ix_nat l k hk', Size_eq _ va.i2, some_bind, e0, show (⟨hiW C, loW C⟩ : ref01_Wide) = WR C by rfl, Divide_eq _ _ (by unfold MX at hC; omega) (by omega) (by omega), some_bind]
      simp only
      rw [req_pos (by omega), Size_eq _ va.i1, some_bind, WR_small (C / l[k].Den.natAbs) (by unfold MX at hC; omega), Product_eq _ _ (by omega) (by unfold MX at hC; omega), some_bind, show (⟨hiW m, loW m⟩ : ref01_Wide) = WR m by rfl, hp, some_bind, i64_add1 k (by omega)]
      rfl
    have hle := addS_le s m (decide (l[k].Num < 0)) (l[k].Num.natAbs * (C / l[k].Den.natAbs))
    have := ih (k + 1) (addS s m (decide (l[k].Num < 0)) (l[k].Num.natAbs * (C / l[k].Den.natAbs))).1 (addS s m (decide (l[k].Num < 0)) (l[k].Num.natAbs * (C / l[k].Den.natAbs))).2 (by omega) (by omega) (by omega)
    rw [iter_inl hf, drop_cons l k hk']
    exact this
theorem red_zero (neg : Bool) (C : Nat) : redOf neg 0 C = redOf false 0 C := by
  unfold redOf fitOf
  cases neg <;> simp
theorem all_valid {l : List api_Ratio} (h : (l.all fun a => vR a) = true) : ∀ a ∈ l, vR a = true := List.all_eq_true.1 h
theorem Sum_eq (l : List api_Ratio) : ratio_Sum l = some (sumOf l) := by
  unfold ratio_Sum sumOf
  by_cases hl : 100 < l.length
  · rw [if_pos hl, show decide ((100 : Int) < (l.length : Int)) = true by simp only [decide_eq_true_eq]; omega]; rfl
  · rw [if_neg hl, show decide ((100 : Int) < (l.length : Int)) = false by simp only [decide_eq_false_iff_not]; omega, cond_false]
    have hs := iter_scan (ρ := Unit ⊕ (api_Ratio × Int)) l (ratio_Sum_l6 l) (fun a => !vR a) (fun _ => .inr (⟨0, 0⟩, 1)) (.inl ()) (fun k hk => by
      simp only [ratio_Sum_l6]
      rw [show decide ((k : Int) < (l.length : Int)) = true by simp; exact hk, cond_true, req_pos (by omega), ix_nat l k hk, Valid_eq, some_bind, i64_add1 k (by omega)]
      cases vR l[k] <;> rfl) (by simp [ratio_Sum_l6])
    rw [hs, some_bind, find_any]
    by_cases ha : (l.all fun a => vR a) = true
    · have hn : (l.any fun a => !vR a) = false := by
        rw [List.any_eq_false]; intro a hm; simp [all_valid ha a hm]
      rw [if_pos ha, if_neg (by rw [hn]; simp)]
      have hv := all_valid ha
      simp only [ratio_Sum_j5]
      have h4 := loop4 l (by omega) hv l.length 0 1 (by omega) (by omega) (by omega) (by decide)
      rw [List.drop_zero] at h4
      rw [show ((1 : Int), (0 : Int)) = (((1 : Nat) : Int), ((0 : Nat) : Int)) by rfl, h4, some_bind]
      cases hc : lcmF l 1 with
      | none => rfl
      | some C =>
        obtain ⟨g1, g2, g3, g4⟩ := lcmF_pos l 1 C (by omega) (by decide) hv hc
        simp only [ratio_Sum_j3, ratio_Sum_j1]
        obtain ⟨h2, hb⟩ := loop2 l C g2 (by omega) hv l.length 0 false 0 (by omega) (by omega) (by omega)
        rw [List.drop_zero] at h2 hb
        rw [show ((0 : Int), false, (0 : Int), (0 : Int)) = (((0 : Nat) : Int), false, hiW 0, loW 0) by rfl, h2, some_bind]
        simp only
        rw [reducedW _ _ _ (by omega) g1 (by unfold MX at g2; omega)]
        rfl
    · have hn : (l.any fun a => !vR a) = true := by
        rw [List.any_eq_true]
        rw [List.all_eq_true] at ha
        by_cases hex : ∃ x, x ∈ l ∧ (!vR x) = true
        · exact hex
        · exact absurd (fun x hx => by
            have : ¬ ((!vR x) = true) := fun h => hex ⟨x, hx, h⟩
            simpa using this) ha
      rw [if_neg ha, if_pos hn]
theorem SumR_eq (l : List api_Ratio) : ref01_Sum l = some (sumOf l) := by
  unfold ref01_Sum sumOf
  by_cases hl : 100 < l.length
  · rw [if_pos hl, show decide ((100 : Int) < (l.length : Int)) = true by simp only [decide_eq_true_eq]; omega]; rfl
  · rw [if_neg hl, show decide ((100 : Int) < (l.length : Int)) = false by simp only [decide_eq_false_iff_not]; omega, cond_false]
    have hs := iter_scan (ρ := Unit ⊕ (api_Ratio × Int)) l (ref01_Sum_l6 l) (fun a => !vR a) (fun _ => .inr (⟨0, 0⟩, 1)) (.inl ()) (fun k hk => by
      simp only [ref01_Sum_l6]
      rw [show decide ((k : Int) < (l.length : Int)) = true by simp; exact hk, cond_true, req_pos (by omega), ix_nat l k hk, ValidR_eq, some_bind, i64_add1 k (by omega)]
      cases vR l[k] <;> rfl) (by simp [ref01_Sum_l6])
    rw [hs, some_bind, find_any]
    by_cases ha : (l.all fun a => vR a) = true
    · have hn : (l.any fun a => !vR a) = false := by
        rw [List.any_eq_false]; intro a hm; simp [all_valid ha a hm]
      rw [if_pos ha, if_neg (by rw [hn]; simp)]
      have hv := all_valid ha
      simp only [ref01_Sum_j5]
      have h4 := loop4R l (by omega) hv l.length 0 1 (by omega) (by omega) (by omega) (by decide)
      rw [List.drop_zero] at h4
      rw [show ((0 : Int), (0 : Int), (1 : Int)) = (((0 : Nat) : Int), hiW 1, loW 1) by rfl, h4, some_bind]
      cases hc : lcmF l 1 with
      | none => rfl
      | some C =>
        obtain ⟨g1, g2, g3, g4⟩ := lcmF_pos l 1 C (by omega) (by decide) hv hc
        simp only [ref01_Sum_j3, ref01_Sum_j1]
        have h2 := loop2R l C g2 (by omega) hv l.length 0 false 0 (by omega) (by omega) (by omega)
        obtain ⟨_, hb⟩ := loop2 l C g2 (by omega) hv l.length 0 false 0 (by omega) (by omega) (by omega)
        rw [List.drop_zero] at h2 hb
        rw [show (false, (0 : Int), (0 : Int), (0 : Int)) = (false, ((0 : Nat) : Int), hiW 0, loW 0) by rfl, h2, some_bind]
        simp only
        have hz : ((hiW (sumF C l (false, 0)).2 == 0) && (loW (sumF C l (false, 0)).2 == 0)) = decide ((sumF C l (false, 0)).2 = 0) := WR_zero _ (by omega)
        rw [hz, show (⟨hiW (sumF C l (false, 0)).2, loW (sumF C l (false, 0)).2⟩ : ref01_Wide) = WR (sumF C l (false, 0)).2 by rfl, show (⟨hiW C, loW C⟩ : ref01_Wide) = WR C by rfl, Reduce_eq _ _ _ (by omega) g1 (by unfold MX at g2; omega), some_bind]
        by_cases h0 : (sumF C l (false, 0)).2 = 0
        · rw [h0, red_zero, red_zero (sumF C l (false, 0)).1]
        · simp [h0]
    · have hn : (l.any fun a => !vR a) = true := by
        rw [List.any_eq_true]
        rw [List.all_eq_true] at ha
        by_cases hex : ∃ x, x ∈ l ∧ (!vR x) = true
        · exact hex
        · exact absurd (fun x hx => by
            have : ¬ ((!vR x) = true) := fun h => hex ⟨x, hx, h⟩
            simpa using this) ha
      rw [if_neg ha, if_pos hn]

theorem newOf_ok' (a N : Int) (h1 : -1152921504606846976 ≤ a) (h2 : a ≤ 1152921504606846976) (h3 : 0 < N) (h4 : N ≤ 1152921504606846976) : ∃ r, newOf a N = (r, 0) ∧ vR r = true ∧ r.Num * N = a * r.Den ∧ 0 < r.Den := by
  unfold newOf
  rw [if_neg (by omega)]
  have e : ∃ r, redOf (!(decide (a < 0) == decide (N < 0))) a.natAbs N.natAbs = (r, 0) := by
    unfold redOf fitOf
    have k1 := Nat.div_le_self a.natAbs (Nat.gcd a.natAbs N.natAbs)
    have k2 := Nat.div_le_self N.natAbs (Nat.gcd a.natAbs N.natAbs)
    rw [if_pos ⟨by omega, by omega⟩]
    exact ⟨_, rfl⟩
  obtain ⟨r, hr⟩ := e
  obtain ⟨g1, g2, g3⟩ := redOf_val _ _ _ (by omega) r hr
  refine ⟨r, hr, g1, ?_, g3⟩
  rw [show ((N.natAbs : Nat) : Int) = N by omega] at g2
  rw [g2]
  congr 1
  unfold sv
  rw [show decide (N < 0) = false by simp; omega]
  by_cases h : a < 0
  · simp [h]; omega
  · simp [h]; omega
def lcmL : List api_Ratio → Nat
  | [] => 1
  | a :: l => Nat.lcm a.Den.natAbs (lcmL l)
theorem lcmL_pos : ∀ (l : List api_Ratio), (∀ a ∈ l, vR a = true) → 0 < lcmL l
  | [], _ => by simp [lcmL]
  | a :: l, h => lcm_pos' (vn_of (h a (by simp))).d0 (lcmL_pos l fun x hx => h x (by simp [hx]))
theorem lcmF_eq : ∀ (l : List api_Ratio) (c : Nat), 0 < c → c ≤ MX → (∀ a ∈ l, vR a = true) → lcmF l c = if Nat.lcm c (lcmL l) ≤ MX then some (Nat.lcm c (lcmL l)) else none
  | [], c, h0, h1, _ => by simp [lcmF, lcmL, h1]
  | a :: l, c, h0, h1, hv => by
    have hd := (vn_of (hv a (by simp))).d0
    have hv' : ∀ x ∈ l, vR x = true := fun x hx => hv x (by simp [hx])
    have eL : Nat.lcm c (lcmL (a :: l)) = Nat.lcm (Nat.lcm c a.Den.natAbs) (lcmL l) := (Nat.lcm_assoc _ _ _).symm
    rw [eL]
    simp only [lcmF]
    by_cases hc : Nat.lcm c a.Den.natAbs ≤ 1152921504606846976
    · rw [if_pos hc]
      exact lcmF_eq l _ (lcm_pos' h0 hd) hc hv'
    · rw [if_neg hc]
      have h2 : Nat.lcm c a.Den.natAbs ≤ Nat.lcm (Nat.lcm c a.Den.natAbs) (lcmL l) := Nat.le_of_dvd (lcm_pos' (lcm_pos' h0 hd) (lcmL_pos l hv')) (Nat.dvd_lcm_left _ _)
      rw [if_neg (by unfold MX; omega)]
def sumT (C : Nat) : List api_Ratio → Int
  | [] => 0
  | a :: l => a.Num * ((C / a.Den.natAbs : Nat) : Int) + sumT C l
theorem sv_num (a : Int) (n : Nat) : sv (decide (a < 0)) (a.natAbs * n) = a * (n : Int) := by
  unfold sv
  by_cases h : a < 0
  · rw [if_pos (by simpa using h), Int.natCast_mul, show ((a.natAbs : Nat) : Int) = -a by omega, Int.neg_mul, Int.neg_neg]
  · rw [if_neg (by simpa using h), Int.natCast_mul, show ((a.natAbs : Nat) : Int) = a by omega]
theorem sumF_val (C : Nat) : ∀ (l : List api_Ratio) (p : Bool × Nat), sv (sumF C l p).1 (sumF C l p).2 = sv p.1 p.2 + sumT C l
  | [], p => by simp [sumF, sumT]
  | a :: l, p => by
    have := sumF_val C l (addS p.1 p.2 (decide (a.Num < 0)) (a.Num.natAbs * (C / a.Den.natAbs)))
    rw [addS_val, sv_num] at this
    simp only [sumT]
    show sv (sumF C l (addS p.1 p.2 (decide (a.Num < 0)) (a.Num.natAbs * (C / a.Den.natAbs)))).1 _ = _
    rw [show sumF C (a :: l) p = sumF C l (addS p.1 p.2 (decide (a.Num < 0)) (a.Num.natAbs * (C / a.Den.natAbs))) from rfl, this]
    omega
def redV (v : Int) (C : Nat) : api_Ratio × Int := redOf (decide (v < 0)) v.natAbs C
theorem red_val (s : Bool) (k C : Nat) : redOf s k C = redV (sv s k) C := by
  unfold redV sv
  cases s with
  | false => simp [show ¬ ((k : Int) < 0) by omega]
  | true =>
    rcases Nat.eq_zero_or_pos k with h | h
    · subst h; simp; exact red_zero true C
    · simp [h]
theorem sumOf_eq (l : List api_Ratio) : sumOf l = if 100 < l.length then (⟨0, 0⟩, 3) else if (l.all fun a => vR a) = true then (if lcmL l ≤ MX then redV (sumT (lcmL l) l) (lcmL l) else (⟨0, 0⟩, 6)) else (⟨0, 0⟩, 1) := by
  unfold sumOf
  split
  · rfl
  · split
    · rename_i h1 h2
      rw [lcmF_eq l 1 (by omega) (by decide) (all_valid h2), show Nat.lcm 1 (lcmL l) = lcmL l by simp [Nat.lcm]]
      by_cases hc : lcmL l ≤ MX
      · rw [if_pos hc, if_pos hc]
        dsimp only
        rw [red_val, sumF_val]
        simp [sv]
      · rw [if_neg hc, if_neg hc]
    · rfl
theorem cmpI_pos (x y : Int) : 0 < cmpI x y ↔ y < x := by
  unfold cmpI; (repeat' split) <;> omega
theorem cmpR_v {a b : api_Ratio} (ha : vR a = true) (hb : vR b = true) : cmpR a b = cmpI (a.Num * b.Den) (b.Num * a.Den) := by unfold cmpR; rw [if_pos ⟨ha, hb⟩]
theorem lowest_eq {a b : api_Ratio} (ha : vR a = true) (hb : vR b = true) (h : a.Num * b.Den = b.Num * a.Den) : a = b := by
  have va := vn_of ha
  have vb := vn_of hb
  have hn : a.Num.natAbs * b.Den.natAbs = b.Num.natAbs * a.Den.natAbs := by
    rw [← Int.natAbs_mul, ← Int.natAbs_mul, h]
  have d1 : a.Den.natAbs ∣ b.Den.natAbs := Nat.Coprime.dvd_of_dvd_mul_left (Nat.Coprime.symm va.cop) ⟨b.Num.natAbs, by rw [hn, Nat.mul_comm]⟩
  have d2 : b.Den.natAbs ∣ a.Den.natAbs := Nat.Coprime.dvd_of_dvd_mul_left (Nat.Coprime.symm vb.cop) ⟨a.Num.natAbs, by rw [← hn, Nat.mul_comm]⟩
  have hd := Nat.dvd_antisymm d1 d2
  have hD : a.Den = b.Den := by rw [← va.de, ← vb.de, hd]
  have h0 : a.Den ≠ 0 := by have := va.d0; omega
  rw [← hD] at h
  have hN := Int.eq_of_mul_eq_mul_right h0 h
  cases a; cases b
  simp_all
theorem addOf2_val {a b x : api_Ratio} (ha : vR a = true) (hb : vR b = true) (h : addOf2 a b = (x, 0)) : vR x = true ∧ x.Num * (a.Den * b.Den) = (a.Num * b.Den + b.Num * a.Den) * x.Den ∧ 0 < x.Den := by
  have va := vn_of ha
  have vb := vn_of hb
  unfold addOf2 at h
  rw [if_pos ⟨ha, hb⟩] at h
  obtain ⟨g1, g2, g3⟩ := redOf_val _ _ _ (Nat.mul_pos va.d0 vb.d0) x h
  refine ⟨g1, ?_, g3⟩
  rw [addS_val, sv_num, sv_num, Int.natCast_mul, va.de, vb.de] at g2
  exact g2

structure ValB (a : api_Ratio) (P Q : Int) (N D : Nat) : Prop where
  v : vR a = true
  q : 0 < Q
  e : a.Num * Q = P * a.Den
  bn : P.natAbs ≤ N
  bd : Q.natAbs ≤ D
theorem ValB.le {a : api_Ratio} {P Q : Int} {N D : Nat} (h : ValB a P Q N D) : a.Num.natAbs ≤ N ∧ a.Den.natAbs ≤ D := by
  have va := vn_of h.v
  have hn : a.Num.natAbs * Q.natAbs = P.natAbs * a.Den.natAbs := by rw [← Int.natAbs_mul, ← Int.natAbs_mul, h.e]
  obtain ⟨k, hk⟩ : a.Den.natAbs ∣ Q.natAbs := Nat.Coprime.dvd_of_dvd_mul_left (Nat.Coprime.symm va.cop) ⟨P.natAbs, by rw [hn, Nat.mul_comm]⟩
  have hq := h.q
  have hk0 : 0 < k := by
    rcases Nat.eq_zero_or_pos k with h0 | h0
    · rw [h0, Nat.mul_zero] at hk; omega
    · exact h0
  have hb := h.bd
  have hb2 := h.bn
  constructor
  · have : a.Num.natAbs * k = P.natAbs := by
      have h2 : a.Num.natAbs * k * a.Den.natAbs = P.natAbs * a.Den.natAbs := by rw [← hn, hk, Nat.mul_assoc, Nat.mul_comm k]
      exact Nat.eq_of_mul_eq_mul_right va.d0 h2
    have := Nat.le_mul_of_pos_right a.Num.natAbs hk0
    omega
  · have := Nat.le_mul_of_pos_right a.Den.natAbs hk0
    omega
theorem ValB.eq {x y : api_Ratio} {P Q P' Q' : Int} {N D N' D' : Nat} (hx : ValB x P Q N D) (hy : ValB y P' Q' N' D') (h : P * Q' = P' * Q) : x = y := by
  refine lowest_eq hx.v hy.v ?_
  have hQ := hx.q; have hQ' := hy.q
  have e1 := hx.e; have e2 := hy.e
  have : x.Num * y.Den * (Q * Q') = y.Num * x.Den * (Q * Q') := by
    have a1 : x.Num * y.Den * (Q * Q') = x.Num * Q * (y.Den * Q') := by grind
    have a2 : y.Num * x.Den * (Q * Q') = y.Num * Q' * (x.Den * Q) := by grind
    rw [a1, a2, e1, e2]
    have a3 : P * x.Den * (y.Den * Q') = P * Q' * (x.Den * y.Den) := by grind
    have a4 : P' * y.Den * (x.Den * Q) = P' * Q * (x.Den * y.Den) := by grind
    rw [a3, a4, h]
  exact Int.eq_of_mul_eq_mul_right (by have := Int.mul_pos hQ hQ'; omega) this
theorem fit_ok (neg : Bool) (n d : Nat) (hn : n ≤ MX) (hd : d ≤ MX) : ∃ x, redOf neg n d = (x, 0) := by
  unfold redOf fitOf
  have k1 := Nat.div_le_self n (Nat.gcd n d)
  have k2 := Nat.div_le_self d (Nat.gcd n d)
  unfold MX at hn hd
  rw [if_pos ⟨by omega, by omega⟩]
  exact ⟨_, rfl⟩
theorem natAbs_lin (P1 Q1 P2 Q2 : Int) (N1 D1 N2 D2 : Nat) (h1 : P1.natAbs ≤ N1) (h2 : Q1.natAbs ≤ D1) (h3 : P2.natAbs ≤ N2) (h4 : Q2.natAbs ≤ D2) : (P1 * Q2 + P2 * Q1).natAbs ≤ N1 * D2 + N2 * D1 := by
  have a1 := Int.natAbs_add_le (P1 * Q2) (P2 * Q1)
  rw [Int.natAbs_mul, Int.natAbs_mul] at a1
  have a2 := Nat.mul_le_mul h1 h4
  have a3 := Nat.mul_le_mul h3 h2
  omega
theorem add_go {a b : api_Ratio} {P1 Q1 P2 Q2 : Int} {N1 D1 N2 D2 : Nat} (ha : ValB a P1 Q1 N1 D1) (hb : ValB b P2 Q2 N2 D2) (h1 : N1 * D2 + N2 * D1 ≤ MX) (h2 : D1 * D2 ≤ MX) :
    ∃ x, addOf2 a b = (x, 0) ∧ ValB x (P1 * Q2 + P2 * Q1) (Q1 * Q2) (N1 * D2 + N2 * D1) (D1 * D2) := by
  have va := vn_of ha.v
  have vb := vn_of hb.v
  obtain ⟨la, da⟩ := ha.le
  obtain ⟨lb, db⟩ := hb.le
  have hx : ∃ x, addOf2 a b = (x, 0) := by
    unfold addOf2
    rw [if_pos ⟨ha.v, hb.v⟩]
    have hle := addS_le (decide (a.Num < 0)) (a.Num.natAbs * b.Den.natAbs) (decide (b.Num < 0)) (b.Num.natAbs * a.Den.natAbs)
    have k1 := Nat.mul_le_mul la db
    have k2 := Nat.mul_le_mul lb da
    have k3 := Nat.mul_le_mul da db
    exact fit_ok _ _ _ (by omega) (by omega)
  obtain ⟨x, hx⟩ := hx
  obtain ⟨g1, g2, g3⟩ := addOf2_val ha.v hb.v hx
  refine ⟨x, hx, g1, Int.mul_pos ha.q hb.q, ?_, natAbs_lin _ _ _ _ _ _ _ _ ha.bn ha.bd hb.bn hb.bd, by rw [Int.natAbs_mul]; exact Nat.mul_le_mul ha.bd hb.bd⟩
  have hab : a.Den * b.Den ≠ 0 := by
    have := Int.mul_pos (show 0 < a.Den by have := (vd_of ha.v).d0; omega) (show 0 < b.Den by have := (vd_of hb.v).d0; omega)
    omega
  refine Int.eq_of_mul_eq_mul_right hab ?_
  have e1 := ha.e; have e2 := hb.e
  have a1 : x.Num * (Q1 * Q2) * (a.Den * b.Den) = x.Num * (a.Den * b.Den) * (Q1 * Q2) := by grind
  rw [a1, g2]
  have a2 : (a.Num * b.Den + b.Num * a.Den) * x.Den * (Q1 * Q2) = (a.Num * Q1 * (b.Den * Q2) + b.Num * Q2 * (a.Den * Q1)) * x.Den := by grind
  rw [a2, e1, e2]
  grind
theorem mulOf_val {a b x : api_Ratio} (ha : vR a = true) (hb : vR b = true) (h : mulOf a b = (x, 0)) : vR x = true ∧ x.Num * (a.Den * b.Den) = a.Num * b.Num * x.Den ∧ 0 < x.Den := by
  have va := vn_of ha
  have vb := vn_of hb
  unfold mulOf at h
  rw [if_pos ⟨ha, hb⟩] at h
  obtain ⟨g1, g2, g3⟩ := redOf_val _ _ _ (Nat.mul_pos va.d0 vb.d0) x h
  refine ⟨g1, ?_, g3⟩
  rw [Int.natCast_mul, va.de, vb.de] at g2
  rw [g2]
  congr 1
  unfold sv sgn
  rw [Int.natCast_mul]
  by_cases h1 : a.Num < 0 <;> by_cases h2 : b.Num < 0
  · simp [h1, h2]; rw [show ((a.Num.natAbs : Nat) : Int) = -a.Num by omega, show ((b.Num.natAbs : Nat) : Int) = -b.Num by omega, Int.neg_mul_neg]
  · simp [h1, h2]; rw [show ((a.Num.natAbs : Nat) : Int) = -a.Num by omega, show ((b.Num.natAbs : Nat) : Int) = b.Num by omega, Int.neg_mul, Int.neg_neg]
  · simp [h1, h2]; rw [show ((a.Num.natAbs : Nat) : Int) = a.Num by omega, show ((b.Num.natAbs : Nat) : Int) = -b.Num by omega, Int.mul_neg, Int.neg_neg]
  · simp [h1, h2]; rw [show ((a.Num.natAbs : Nat) : Int) = a.Num by omega, show ((b.Num.natAbs : Nat) : Int) = b.Num by omega]
theorem mul_go {a b : api_Ratio} {P1 Q1 P2 Q2 : Int} {N1 D1 N2 D2 : Nat} (ha : ValB a P1 Q1 N1 D1) (hb : ValB b P2 Q2 N2 D2) (h1 : N1 * N2 ≤ MX) (h2 : D1 * D2 ≤ MX) :
    ∃ x, mulOf a b = (x, 0) ∧ ValB x (P1 * P2) (Q1 * Q2) (N1 * N2) (D1 * D2) := by
  have va := vn_of ha.v
  have vb := vn_of hb.v
  obtain ⟨la, da⟩ := ha.le
  obtain ⟨lb, db⟩ := hb.le
  have hx : ∃ x, mulOf a b = (x, 0) := by
    unfold mulOf
    rw [if_pos ⟨ha.v, hb.v⟩]
    have k1 := Nat.mul_le_mul la lb
    have k3 := Nat.mul_le_mul da db
    exact fit_ok _ _ _ (by omega) (by omega)
  obtain ⟨x, hx⟩ := hx
  obtain ⟨g1, g2, g3⟩ := mulOf_val ha.v hb.v hx
  refine ⟨x, hx, g1, Int.mul_pos ha.q hb.q, ?_, by rw [Int.natAbs_mul]; exact Nat.mul_le_mul ha.bn hb.bn, by rw [Int.natAbs_mul]; exact Nat.mul_le_mul ha.bd hb.bd⟩
  have hab : a.Den * b.Den ≠ 0 := by
    have := Int.mul_pos (show 0 < a.Den by have := (vd_of ha.v).d0; omega) (show 0 < b.Den by have := (vd_of hb.v).d0; omega)
    omega
  refine Int.eq_of_mul_eq_mul_right hab ?_
  have e1 := ha.e; have e2 := hb.e
  have a1 : x.Num * (Q1 * Q2) * (a.Den * b.Den) = x.Num * (a.Den * b.Den) * (Q1 * Q2) := by grind
  rw [a1, g2]
  have a2 : a.Num * b.Num * x.Den * (Q1 * Q2) = a.Num * Q1 * (b.Num * Q2) * x.Den := by grind
  rw [a2, e1, e2]
  grind
theorem v_one (f : Int) (h1 : -1152921504606846976 ≤ f) (h2 : f ≤ 1152921504606846976) : vR ⟨f, 1⟩ = true := by
  rw [vR_iff]
  exact ⟨by show (1 : Int) ≤ 1; decide, by show (1 : Int) ≤ 1152921504606846976; decide, h1, h2, by simp⟩
theorem less_v {a b : api_Ratio} (ha : vR a = true) (hb : vR b = true) : (cmpR a b == -1) = decide (a.Num * b.Den < b.Num * a.Den) := by
  rw [cmpR_v ha hb, Bool.eq_iff_iff]
  simp only [beq_iff_eq, decide_eq_true_eq]
  unfold cmpI
  (repeat' split) <;> omega

structure DOK (t : mark_Dice) : Prop where
  len : t.L.length ≤ 600
  lo : 0 ≤ t.At
  hi : t.At ≤ t.L.length
theorem dNext (t : mark_Dice) (n : Int) (h : DOK t) (hn : n ≤ 4611686018427387904) : ∃ y t', mark_Dice_Next t n = some (y, t') ∧ DOK t' ∧ 0 ≤ y ∧ (1 ≤ n → y < n) := by
  obtain ⟨h1, h2, h3⟩ := h
  unfold mark_Dice_Next mark_Dice_Next_j1
  rcases bcases ((decide ((t.L.length : Int) ≤ t.At)) || (decide (n < (1 : Int)))) with hc | hc <;> rw [hc]
  · exact ⟨_, _, rfl, ⟨h1, h2, h3⟩, by omega, by omega⟩
  · simp only [Bool.or_eq_false_iff, decide_eq_false_iff_not] at hc
    rw [cond_false, req_pos (by omega)]
    generalize ix t.L t.At = x
    have h4 := Int.tmod_lt_of_pos x (show 0 < n by omega)
    have h5 : -n < x.tmod n := Int.lt_tmod_of_pos x (show 0 < n by omega)
    have hd : DOK ⟨t.L, IntKind.i64.wrap (t.At + 1)⟩ := ⟨h1, by show 0 ≤ IntKind.i64.wrap (t.At + 1); rw [wrap64 (by omega) (by omega)]; omega, by show IntKind.i64.wrap (t.At + 1) ≤ (t.L.length : Int); rw [wrap64 (by omega) (by omega)]; omega⟩
    rcases bcases (decide (Int.tmod x n < (0 : Int))) with hd2 | hd2 <;> rw [hd2]
    · have : x.tmod n < 0 := by simpa using hd2
      exact ⟨_, _, rfl, hd, by rw [wrap64 (by omega) (by omega)]; omega, by rw [wrap64 (by omega) (by omega)]; omega⟩
    · have : 0 ≤ x.tmod n := by simpa using hd2
      exact ⟨_, _, rfl, hd, this, fun _ => h4⟩
theorem dPick (t : mark_Dice) (l : List Int) (h : DOK t) (h1 : 1 ≤ l.length) (h2 : l.length ≤ 1000) : ∃ y t', mark_Dice_Pick t l = some (y, t') ∧ DOK t' ∧ y ∈ l := by
  obtain ⟨y, t', e1, h3, h4, h5⟩ := dNext t l.length h (by omega)
  have h6 := h5 (by omega)
  exact ⟨_, t', by unfold mark_Dice_Pick; rw [e1]; simp only [Option.bind]; rw [req_pos ⟨h4, h6⟩], h3, ix_mem l y h4 h6⟩
theorem iter_scanI {α ρ : Type} (l : List α) (f : Int → Option (Int ⊕ ρ)) (p : α → Bool) (hit : Nat → ρ) (miss : ρ)
    (hstep : ∀ (k : Nat) (hk : k < l.length), f (k : Int) = some (if p l[k] = true then .inr (hit k) else .inl ((k + 1 : Nat) : Int)))
    (hend : f (l.length : Int) = some (.inr miss)) : iter f (0 : Int) = some (if l.findIdx p < l.length then hit (l.findIdx p) else miss) := by
  have key : ∀ (n k : Nat), l.length - k = n → k ≤ l.findIdx p → iter f (k : Int) = some (if l.findIdx p < l.length then hit (l.findIdx p) else miss) := by
    intro n
    induction n with
    | zero =>
      intro k hn hk
      have h1 : l.findIdx p ≤ l.length := List.findIdx_le_length
      have : k = l.length := by omega
      subst this
      rw [iter_inr hend, if_neg (by omega)]
    | succ n ih =>
      intro k hn hk
      have hk' : k < l.length := by omega
      have h1 := hstep k hk'
      cases hp : p l[k] with
      | true =>
        rw [hp, if_pos rfl] at h1
        have e : l.findIdx p = k := by
          rcases Nat.lt_or_ge k (l.findIdx p) with hlt | hge
          · exact absurd (List.not_of_lt_findIdx hlt) (by simp [hp])
          · omega
        rw [iter_inr h1, e, if_pos hk']
      | false =>
        rw [hp, if_neg (by simp)] at h1
        rw [iter_inl h1]
        apply ih (k + 1) (by omega)
        rcases Nat.lt_or_ge k (l.findIdx p) with hlt | hge
        · exact hlt
        · have e : l.findIdx p = k := by omega
          have := List.findIdx_getElem (w := by rw [e]; exact hk') (p := p) (xs := l)
          simp only [e] at this
          rw [hp] at this
          cases this
  exact key _ 0 rfl (by omega)
def gr (b : List Int) (m : Int) : Nat := b.findIdx (fun x => decide (x ≤ m))
theorem gr_le (b : List Int) (m : Int) : gr b m ≤ b.length := List.findIdx_le_length
theorem Grade_eq (b : List Int) (m : Int) (h : b.length ≤ 1000) : boundary_Grade b m = some (gr b m : Int) := by
  unfold boundary_Grade boundary_Grade_j1
  rw [iter_scanI b (boundary_Grade_l2 b m) (fun x => decide (x ≤ m)) (fun k => .inr (k : Int)) (.inl ())]
  · have := gr_le b m
    unfold gr at this ⊢
    by_cases hc : b.findIdx (fun x => decide (x ≤ m)) < b.length
    · rw [if_pos hc]; rfl
    · rw [if_neg hc]
      have e : b.findIdx (fun x => decide (x ≤ m)) = b.length := by omega
      rw [e]; rfl
  · intro k hk
    simp only [boundary_Grade_l2]
    rw [show decide ((k : Int) < (b.length : Int)) = true by simp; omega, cond_true, req_pos (by omega), ix_nat _ _ hk, i64_add1 k (by omega)]
    by_cases hc : b[k] ≤ m <;> simp [hc]
  · simp [boundary_Grade_l2]
structure Bd (b : List Int) (most : Int) : Prop where
  lo : 1 ≤ b.length
  hi : b.length ≤ 9
  r : ∀ x ∈ b, 0 ≤ x ∧ x ≤ most + 1
  dn : ∀ i j (hi : i < b.length) (hj : j < b.length), i ≤ j → b[j] ≤ b[i]
theorem Check_eq (b : List Int) (most : Int) (h : Bd b most) (h0 : 0 ≤ most) (h1 : most ≤ 200) : boundary_Check b most = some 0 := by
  have hl := h.lo; have hh := h.hi
  unfold boundary_Check boundary_isScore
  simp only [Option.bind]
  rw [show (!(decide ((0 : Int) ≤ most) && decide (most ≤ (200 : Int)))) = false by simp; omega, cond_false]
  rw [show ((decide ((b.length : Int) < (1 : Int))) || (decide ((9 : Int) < (b.length : Int)))) = false by simp; omega, cond_false]
  have e1 : iter (boundary_Check_l4 b most) (0 : Int) = some (.inl ()) := by
    obtain ⟨r, e, hr⟩ := iter_inv (f := boundary_Check_l4 b most) (fun s => 0 ≤ s ∧ s ≤ b.length) (fun s => b.length - s.toNat) (fun r => r = .inl ()) (by
      rintro s ⟨s0, s1⟩
      simp only [boundary_Check_l4]
      rcases bcases (decide (s < (b.length : Int))) with hc | hc <;> rw [hc]
      · left
        have hc' : s < b.length := by simpa using hc
        have hm := h.r _ (ix_mem b s s0 hc')
        rw [cond_true, req_pos (by omega), wrap64 (n := most + 1) (by omega) (by omega), wrap64 (n := s + 1) (by omega) (by omega)]
        rw [show ((decide ((ix b s) < (0 : Int))) || (decide (most + 1 < (ix b s)))) = false by simp; omega, cond_false]
        exact ⟨_, rfl, by omega, by omega⟩
      · right
        exact ⟨_, rfl, rfl⟩) 0 (by omega)
    rw [e, hr]
  rw [e1]
  simp only [boundary_Check_j3, boundary_Check_j1]
  have e2 : iter (boundary_Check_l2 b) (1 : Int) = some (.inl ()) := by
    obtain ⟨r, e, hr⟩ := iter_inv (f := boundary_Check_l2 b) (fun s => 1 ≤ s ∧ s ≤ b.length) (fun s => b.length - s.toNat) (fun r => r = .inl ()) (by
      rintro s ⟨s0, s1⟩
      simp only [boundary_Check_l2]
      rcases bcases (decide (s < (b.length : Int))) with hc | hc <;> rw [hc]
      · left
        have hc' : s < b.length := by simpa using hc
        obtain ⟨k, rfl⟩ : ∃ k : Nat, s = ((k + 1 : Nat) : Int) := ⟨(s - 1).toNat, by omega⟩
        rw [cond_true, show IntKind.i64.wrap (((k + 1 : Nat) : Int) - 1) = (k : Int) by rw [wrap64 (by omega) (by omega)]; omega, req_pos (by omega), wrap64 (n := ((k + 1 : Nat) : Int) + 1) (by omega) (by omega), ix_nat _ k (by omega), ix_nat _ (k + 1) (by omega)]
        have := h.dn k (k + 1) (by omega) (by omega) (by omega)
        rw [show decide (b[k] < b[k + 1]) = false by simp; omega, cond_false]
        exact ⟨_, rfl, by omega, by omega⟩
      · right
        exact ⟨_, rfl, rfl⟩) 1 (by omega)
    rw [e, hr]
  rw [e2]
  rfl
theorem dBounds (t : mark_Dice) (most : Int) (h : DOK t) (h0 : 0 ≤ most) (h1 : most ≤ 200) : ∃ b t', mark_Dice_Bounds t most = some (b, t') ∧ DOK t' ∧ Bd b most := by
  unfold mark_Dice_Bounds
  obtain ⟨y, t1, e1, h2, h3, h4⟩ := dNext t 4 h (by omega)
  have h5 := h4 (by omega)
  rw [e1]
  simp only [Option.bind]
  rw [wrap64 (n := most + 1) (by omega) (by omega), wrap64 (n := 1 + y) (by omega) (by omega)]
  obtain ⟨⟨L, A, w⟩, e2, g1, g2, g3, g4⟩ := iter_inv (f := mark_Dice_Bounds_l2) (fun s => 0 ≤ s.2.1 ∧ s.2.1 + s.2.2.2.2.length = 1 + y ∧ DOK ⟨s.2.2.1, s.2.2.2.1⟩ ∧ (0 ≤ s.1 ∧ s.1 ≤ most + 1) ∧ (∀ c ∈ s.2.2.2.2, s.1 ≤ c ∧ c ≤ most + 1) ∧ s.2.2.2.2.Pairwise (fun a b => b ≤ a)) (fun s => s.2.1.toNat)
    (fun r => DOK ⟨r.1, r.2.1⟩ ∧ (r.2.2.length : Int) = 1 + y ∧ (∀ c ∈ r.2.2, 0 ≤ c ∧ c ≤ most + 1) ∧ r.2.2.Pairwise (fun a b => b ≤ a)) (by
      rintro ⟨b, i, L, A, w⟩ ⟨k1, k2, k3, k4, k5, k6⟩
      simp only at k1 k2 k3 k4 k5 k6
      simp only [mark_Dice_Bounds_l2]
      rcases bcases (decide ((0 : Int) < i)) with hc | hc <;> rw [hc]
      · left
        have hi : 0 < i := by simpa using hc
        rw [Int.tdiv_eq_ediv_of_nonneg k4.1, wrap64 (n := b / 2) (by omega) (by omega), wrap64 (n := b / 2 + 1) (by omega) (by omega)]
        obtain ⟨a, ta, ea, ha, a1, a2⟩ := dNext ⟨L, A⟩ (b / 2 + 1) k3 (by omega)
        have a3 := a2 (by omega)
        simp only [cond_true, ea, Option.bind]
        rw [req_pos (by simp; omega), wrap64 (n := i - 1) (by omega) (by omega), wrap64 (n := b - a) (by omega) (by omega)]
        refine ⟨_, rfl, ⟨by show 0 ≤ i - 1; omega, by simp; omega, ha, ⟨by simp; omega, by simp; omega⟩, ?_, ?_⟩, ?_⟩
        · intro c hc
          rcases List.mem_append.1 hc with hc | hc
          · have := k5 c hc; simp only []; omega
          · simp at hc; simp only []; omega
        · simp only []
          rw [List.pairwise_append]
          refine ⟨k6, by simp, ?_⟩
          intro x hx z hz
          have := k5 x hx
          simp at hz
          omega
        · show (i - 1).toNat < i.toNat
          omega
      · right
        have hi : i = 0 := by simp at hc; omega
        exact ⟨_, rfl, k3, by show (w.length : Int) = 1 + y; omega, fun c hc => by have := k5 c hc; omega, k6⟩) (most + 1, 1 + y, t1.L, t1.At, []) ⟨by show 0 ≤ 1 + y; omega, by simp, h2, ⟨by simp; omega, by simp⟩, by simp, by simp⟩
  rw [e2]
  simp only at g2 g3 g4
  refine ⟨w, ⟨L, A⟩, rfl, g1, ⟨by omega, by omega, g3, ?_⟩⟩
  intro i j hi hj hij
  rcases Nat.lt_or_eq_of_le hij with hlt | rfl
  · exact List.pairwise_iff_getElem.1 g4 i j hi hj hlt
  · exact Int.le_refl _

theorem ValB.scale {a : api_Ratio} {P Q : Int} {N D : Nat} (h : ValB a P Q N D) (k : Int) (hk : 0 < k) (N' D' : Nat) (h1 : (P * k).natAbs ≤ N') (h2 : (Q * k).natAbs ≤ D') : ValB a (P * k) (Q * k) N' D' :=
  ⟨h.v, Int.mul_pos h.q hk, by rw [← Int.mul_assoc, h.e, Int.mul_right_comm], h1, h2⟩
def AllV (Q : Int) (N D : Nat) : List api_Ratio → List Int → Prop
  | [], [] => True
  | a :: l, t :: ts => ValB a t Q N D ∧ AllV Q N D l ts
  | _, _ => False
def sumL : List Int → Int
  | [] => 0
  | a :: l => a + sumL l
theorem AllV.len {Q : Int} {N D : Nat} : ∀ {l : List api_Ratio} {ts : List Int}, AllV Q N D l ts → l.length = ts.length
  | [], [], _ => rfl
  | a :: l, t :: ts, h => by simp [AllV.len h.2]
theorem AllV.v {Q : Int} {N D : Nat} : ∀ {l : List api_Ratio} {ts : List Int}, AllV Q N D l ts → ∀ a ∈ l, vR a = true ∧ a.Den.natAbs ∣ Q.natAbs
  | a :: l, t :: ts, h, x, hx => by
    rcases List.mem_cons.1 hx with rfl | hx
    · refine ⟨h.1.v, ?_⟩
      have va := vn_of h.1.v
      have hn : x.Num.natAbs * Q.natAbs = t.natAbs * x.Den.natAbs := by rw [← Int.natAbs_mul, ← Int.natAbs_mul, h.1.e]
      exact Nat.Coprime.dvd_of_dvd_mul_left (Nat.Coprime.symm va.cop) ⟨t.natAbs, by rw [hn, Nat.mul_comm]⟩
    · exact AllV.v h.2 x hx
theorem AllV.lcm {Q : Int} {N D : Nat} : ∀ {l : List api_Ratio} {ts : List Int}, AllV Q N D l ts → lcmL l ∣ Q.natAbs
  | [], [], _ => by simp [lcmL]
  | a :: l, t :: ts, h => Nat.lcm_dvd (AllV.v h a (by simp)).2 (AllV.lcm h.2)
theorem AllV.sum {Q : Int} {N D : Nat} (L k : Nat) (hk : (L * k : Nat) = Q.natAbs) (hQ : 0 < Q) : ∀ {l : List api_Ratio} {ts : List Int}, AllV Q N D l ts → (∀ a ∈ l, a.Den.natAbs ∣ L) → sumT L l * (k : Int) = sumL ts ∧ (sumL ts).natAbs ≤ N * ts.length
  | [], [], _, _ => by simp [sumT, sumL]
  | a :: l, t :: ts, h, hd => by
    obtain ⟨i1, i2⟩ := AllV.sum L k hk hQ h.2 (fun x hx => hd x (by simp [hx]))
    have va := vn_of h.1.v
    obtain ⟨c, hc⟩ := hd a (by simp)
    have hdiv : L / a.Den.natAbs = c := by rw [hc]; exact Nat.mul_div_cancel_left c va.d0
    have hQ' : (Q.natAbs : Int) = Q := by omega
    have e1 : a.Num * (c : Int) * (k : Int) = t := by
      have h0 : a.Den ≠ 0 := by have := va.d0; omega
      refine Int.eq_of_mul_eq_mul_right h0 ?_
      have he := h.1.e
      rw [← he, ← hQ', ← hk, hc, ← va.de]
      simp only [Int.natCast_mul]
      grind
    constructor
    · simp only [sumT, sumL, hdiv]
      rw [Int.add_mul, e1, i1]
    · simp only [sumL, List.length_cons]
      have := Int.natAbs_add_le t (sumL ts)
      have := h.1.bn
      rw [Nat.mul_add, Nat.mul_one]
      omega
theorem sum_go {Q : Int} {N D : Nat} {l : List api_Ratio} {ts : List Int} (h : AllV Q N D l ts) (hQ : 0 < Q) (hD : Q.natAbs ≤ D) (hDM : D ≤ MX) (hl : l.length ≤ 100) (hN : N * 100 ≤ MX) : ∃ x, sumOf l = (x, 0) ∧ ValB x (sumL ts) Q (N * 100) D := by
  have hv : ∀ a ∈ l, vR a = true := fun a ha => (h.v a ha).1
  obtain ⟨k, hk⟩ := h.lcm
  have hL : 0 < lcmL l := lcmL_pos l hv
  have hk0 : 0 < k := by
    rcases Nat.eq_zero_or_pos k with h0 | h0
    · rw [h0, Nat.mul_zero] at hk; omega
    · exact h0
  have hLle : lcmL l ≤ Q.natAbs := Nat.le_of_dvd (by omega) h.lcm
  have hdvd : ∀ a ∈ l, a.Den.natAbs ∣ lcmL l := by
    intro a ha
    clear hk hLle hL h
    induction l with
    | nil => cases ha
    | cons b l ih =>
      rcases List.mem_cons.1 ha with rfl | ha
      · exact Nat.dvd_lcm_left _ _
      · exact Nat.dvd_trans (ih (by simp at hl; omega) (fun x hx => hv x (by simp [hx])) ha) (Nat.dvd_lcm_right _ _)
  obtain ⟨s1, s2⟩ := h.sum (lcmL l) k hk.symm hQ hdvd
  have hlen := h.len
  have hb : (sumL ts).natAbs ≤ N * 100 := Nat.le_trans s2 (Nat.mul_le_mul_left N (by omega))
  have hsb : (sumT (lcmL l) l).natAbs ≤ MX := by
    have : (sumT (lcmL l) l).natAbs * k = (sumL ts).natAbs := by rw [← s1, Int.natAbs_mul, Int.natAbs_natCast]
    have := Nat.le_mul_of_pos_right (sumT (lcmL l) l).natAbs hk0
    omega
  rw [sumOf_eq, if_neg (by omega), if_pos (List.all_eq_true.2 hv), if_pos (by omega)]
  obtain ⟨x, hx⟩ := fit_ok (decide (sumT (lcmL l) l < 0)) (sumT (lcmL l) l).natAbs (lcmL l) hsb (by omega)
  refine ⟨x, hx, ?_⟩
  obtain ⟨g1, g2, g3⟩ := redOf_val _ _ _ hL x hx
  refine ⟨g1, hQ, ?_, hb, hD⟩
  have hsv : sv (decide (sumT (lcmL l) l < 0)) (sumT (lcmL l) l).natAbs = sumT (lcmL l) l := by
    unfold sv; split <;> rename_i hh <;> simp at hh <;> omega
  rw [hsv] at g2
  have hQ' : (Q.natAbs : Int) = Q := by omega
  rw [← hQ', hk, Int.natCast_mul, ← Int.mul_assoc, g2, ← s1]
  grind
def okMax (n : Int) : Prop := n = 10 ∨ n = 12 ∨ n = 50 ∨ n = 100
structure UOK (u : api_Unit) : Prop where
  w0 : 1 ≤ u.Weight
  w1 : u.Weight ≤ 600
  mx : okMax u.Max
structure MOK (u : api_Unit) (m : api_UnitMark) : Prop where
  k0 : 0 ≤ m.Kind
  k1 : m.Kind ≤ 3
  v : vR m.Value = true
  n0 : 0 ≤ m.Value.Num
  den : m.Value.Den = 1 ∨ m.Value.Den = 2
  le : m.Value.Num ≤ u.Max * m.Value.Den
  z : m.Kind ≠ 0 → m.Value = ⟨0, 1⟩
def PairOK : List api_Unit → List api_UnitMark → Prop
  | [], [] => True
  | u :: us, m :: ms => UOK u ∧ MOK u m ∧ PairOK us ms
  | _, _ => False
def counts (m : api_UnitMark) : Bool := m.Kind == 0 || m.Kind == 1
def tOf (u : api_Unit) (m : api_UnitMark) : Int := m.Value.Num * u.Weight * (600 / (m.Value.Den * u.Max))
def termOf (u : api_Unit) (m : api_UnitMark) : api_Ratio := (mulOf m.Value (newOf u.Weight u.Max).1).1
def terms : List api_Unit → List api_UnitMark → List api_Ratio
  | u :: us, m :: ms => if counts m = true then termOf u m :: terms us ms else terms us ms
  | _, _ => []
def tsOf : List api_Unit → List api_UnitMark → List Int
  | u :: us, m :: ms => if counts m = true then tOf u m :: tsOf us ms else tsOf us ms
  | _, _ => []
def wOf : List api_Unit → List api_UnitMark → Int
  | u :: us, m :: ms => if counts m = true then u.Weight + wOf us ms else wOf us ms
  | _, _ => 0
theorem term_ok {u : api_Unit} {m : api_UnitMark} (hu : UOK u) (hm : MOK u m) : ∃ f x, newOf u.Weight u.Max = (f, 0) ∧ mulOf m.Value f = (x, 0) ∧ termOf u m = x ∧ ValB x (tOf u m) 600 7200000 600 := by
  have w0 := hu.w0; have w1 := hu.w1; have hn0 := hm.n0; have hle := hm.le
  have hmx : 10 ≤ u.Max ∧ u.Max ≤ 100 := by rcases hu.mx with h | h | h | h <;> omega
  obtain ⟨f, h1, h2, h3, _⟩ := newOf_ok' u.Weight u.Max (by omega) (by omega) (by omega) (by omega)
  have hden : 1 ≤ m.Value.Den ∧ m.Value.Den ≤ 2 := by rcases hm.den with h | h <;> omega
  have hnb : m.Value.Num ≤ 200 := by
    rcases hm.den with h | h <;> rw [h] at hle <;> omega
  have vv : ValB m.Value m.Value.Num m.Value.Den 200 2 := ⟨hm.v, by omega, rfl, by omega, by omega⟩
  have vf : ValB f u.Weight u.Max 600 100 := ⟨h2, by omega, h3, by omega, by omega⟩
  obtain ⟨x, h4, h5⟩ := mul_go vv vf (by decide) (by decide)
  refine ⟨f, x, h1, h4, by unfold termOf; rw [h1]; dsimp only; rw [h4], ?_⟩
  have hq : ∃ k : Int, 0 < k ∧ m.Value.Den * u.Max * k = 600 ∧ 600 / (m.Value.Den * u.Max) = k ∧ k ≤ 60 := by
    rcases hm.den with h | h <;> rcases hu.mx with h' | h' | h' | h' <;> rw [h, h']
    · exact ⟨60, by decide, by decide, by decide, by decide⟩
    · exact ⟨50, by decide, by decide, by decide, by decide⟩
    · exact ⟨12, by decide, by decide, by decide, by decide⟩
    · exact ⟨6, by decide, by decide, by decide, by decide⟩
    · exact ⟨30, by decide, by decide, by decide, by decide⟩
    · exact ⟨25, by decide, by decide, by decide, by decide⟩
    · exact ⟨6, by decide, by decide, by decide, by decide⟩
    · exact ⟨3, by decide, by decide, by decide, by decide⟩
  obtain ⟨k, k0, k1, k2, k3⟩ := hq
  have hb : (m.Value.Num * u.Weight * k).natAbs ≤ 7200000 := by
    have a1 : 0 ≤ m.Value.Num * u.Weight := Int.mul_nonneg hn0 (by omega)
    have a2 : m.Value.Num * u.Weight ≤ 200 * 600 := Int.mul_le_mul hnb w1 (by omega) (by decide)
    have a3 : 0 ≤ m.Value.Num * u.Weight * k := Int.mul_nonneg a1 (by omega)
    have a4 : m.Value.Num * u.Weight * k ≤ 120000 * 60 := Int.mul_le_mul (by omega) k3 (by omega) (by decide)
    omega
  have := h5.scale k k0 7200000 600 hb (by rw [k1]; decide)
  rw [k1] at this
  unfold tOf
  rw [k2]
  exact this
theorem terms_all : ∀ {us : List api_Unit} {ms : List api_UnitMark}, PairOK us ms → AllV 600 7200000 600 (terms us ms) (tsOf us ms)
  | [], [], _ => trivial
  | u :: us, m :: ms, h => by
    simp only [terms, tsOf]
    split
    · obtain ⟨f, x, _, _, h3, h4⟩ := term_ok h.1 h.2.1
      rw [h3]
      exact ⟨h4, terms_all h.2.2⟩
    · exact terms_all h.2.2
theorem terms_len : ∀ {us : List api_Unit} {ms : List api_UnitMark}, PairOK us ms → (terms us ms).length ≤ ms.length ∧ us.length = ms.length
  | [], [], _ => by simp [terms]
  | u :: us, m :: ms, h => by
    have := terms_len h.2.2
    simp only [terms]
    split <;> simp <;> omega
theorem wOf_b : ∀ {us : List api_Unit} {ms : List api_UnitMark}, PairOK us ms → 0 ≤ wOf us ms ∧ wOf us ms ≤ 600 * ms.length ∧ ((ms.any counts) = true → 1 ≤ wOf us ms)
  | [], [], _ => by simp [wOf]
  | u :: us, m :: ms, h => by
    obtain ⟨h1, h2, h3⟩ := wOf_b h.2.2
    have w0 := h.1.w0; have w1 := h.1.w1
    simp only [wOf, List.length_cons, List.any_cons]
    by_cases hc : counts m = true
    · rw [if_pos hc]
      refine ⟨by omega, by omega, fun _ => by omega⟩
    · rw [if_neg hc, show counts m = false by simpa using hc, Bool.false_or]
      exact ⟨h1, by omega, h3⟩
theorem pair_at : ∀ {us : List api_Unit} {ms : List api_UnitMark}, PairOK us ms → ∀ k (h1 : k < us.length) (h2 : k < ms.length), UOK us[k] ∧ MOK us[k] ms[k] ∧ PairOK (us.drop k) (ms.drop k)
  | u :: us, m :: ms, h, 0, _, _ => ⟨h.1, h.2.1, h⟩
  | u :: us, m :: ms, h, k + 1, h1, h2 => by
    have := pair_at h.2.2 k (by simpa using h1) (by simpa using h2)
    simpa using this
theorem weighted_loop (a : api_Award) (l : List api_UnitMark) (h : PairOK a.Units l) (hl : l.length ≤ 6) : ∀ (n k : Nat) (w : Int) (ts : List api_Ratio), l.length - k = n → k ≤ l.length → 0 ≤ w → w ≤ 1000 * k → ts.length ≤ k →
    iter (aggregate_weighted_l3 a l) (w, (k : Int), ts) = some (.inl (w + wOf (a.Units.drop k) (l.drop k), ts ++ terms (a.Units.drop k) (l.drop k))) := by
  have hul := (terms_len h).2
  intro n
  induction n with
  | zero =>
    intro k w ts hn hk hw0 hw1 ht
    have : k = l.length := by omega
    subst this
    refine iter_inr ?_
    rw [List.drop_length, ← hul, List.drop_length]
    simp [aggregate_weighted_l3, terms, wOf, hul]
  | succ n ih =>
    intro k w ts hn hk hw0 hw1 ht
    have hk' : k < l.length := by omega
    have hku : k < a.Units.length := by omega
    obtain ⟨hu, hm, _⟩ := pair_at h k hku hk'
    have e1 : a.Units.drop k = a.Units[k] :: a.Units.drop (k + 1) := List.drop_eq_getElem_cons hku
    have e2 : l.drop k = l[k] :: l.drop (k + 1) := List.drop_eq_getElem_cons hk'
    have hwt : wOf (a.Units.drop k) (l.drop k) = if counts l[k] = true then a.Units[k].Weight + wOf (a.Units.drop (k + 1)) (l.drop (k + 1)) else wOf (a.Units.drop (k + 1)) (l.drop (k + 1)) := by rw [e1, e2]; rfl
    have htt : terms (a.Units.drop k) (l.drop k) = if counts l[k] = true then termOf a.Units[k] l[k] :: terms (a.Units.drop (k + 1)) (l.drop (k + 1)) else terms (a.Units.drop (k + 1)) (l.drop (k + 1)) := by rw [e1, e2]; rfl
    rw [hwt, htt]
    have w1 := hu.w1; have w0 := hu.w0
    by_cases hc : counts l[k] = true
    · rw [if_pos hc, if_pos hc]
      obtain ⟨f, x, t1, t2, t3, t4⟩ := term_ok hu hm
      have hmx : 10 ≤ a.Units[k].Max ∧ a.Units[k].Max ≤ 100 := by rcases hu.mx with h | h | h | h <;> omega
      have hf : aggregate_weighted_l3 a l (w, (k : Int), ts) = some (.inl (w + a.Units[k].Weight, ((k + 1 : Nat) : Int), ts ++ [x])) := by
        simp only [aggregate_weighted_l3]
        rw [show decide ((k : Int) < (l.length : Int)) = true by simp; exact hk', cond_true, req_pos (by omega), ix_nat l k hk', ix_nat a.Units k hku]
        have hcc : ((l[k].Kind != 0) && (l[k].Kind != 1)) = false := by
          have h0 := hc
          simp only [counts, Bool.or_eq_true, beq_iff_eq] at h0
          rcases h0 with h0 | h0 <;> rw [h0] <;> rfl
        rw [hcc, cond_false, req_pos (by omega), New_eq _ _ ⟨by omega, by omega⟩ ⟨by omega, by omega⟩, t1, some_bind]
        dsimp only
        rw [show ((0 : Int) != 0) = false by decide, cond_false, Mul_eq, t2, some_bind]
        dsimp only
        rw [show ((0 : Int) != 0) = false by decide, cond_false, req_pos (by simp; omega)]
        unfold aggregate_weighted_j2
        rw [i64_add1 k (by omega), wrap64 (by omega) (by omega)]
      rw [iter_inl hf, ih (k + 1) _ _ (by omega) (by omega) (by omega) (by omega) (by simp; omega), t3]
      simp only [List.append_assoc, List.singleton_append, Int.add_assoc]
    · rw [if_neg hc, if_neg hc]
      have hf : aggregate_weighted_l3 a l (w, (k : Int), ts) = some (.inl (w, ((k + 1 : Nat) : Int), ts)) := by
        simp only [aggregate_weighted_l3]
        rw [show decide ((k : Int) < (l.length : Int)) = true by simp; exact hk', cond_true, req_pos (by omega), ix_nat l k hk']
        have hcc : ((l[k].Kind != 0) && (l[k].Kind != 1)) = true := by
          have h0 := hc
          simp only [counts, Bool.or_eq_true, beq_iff_eq, not_or] at h0
          rw [Bool.and_eq_true, bne_iff_ne, bne_iff_ne]
          exact h0
        rw [hcc, cond_true]
        unfold aggregate_weighted_j2
        rw [i64_add1 k (by omega)]
      rw [iter_inl hf, ih (k + 1) _ _ (by omega) (by omega) (by omega) (by omega) (by omega)]
def SS (us : List api_Unit) (ms : List api_UnitMark) : Int := sumL (tsOf us ms)
theorem weighted_eq (a : api_Award) (l : List api_UnitMark) (h : PairOK a.Units l) (hl : l.length ≤ 6) : ∃ x, aggregate_weighted a l = some (x, wOf a.Units l, 0) ∧ ValB x (SS a.Units l) 600 720000000 600 := by
  unfold aggregate_weighted
  have hloop := weighted_loop a l h hl l.length 0 0 [] (by omega) (by omega) (by omega) (by omega) (by simp)
  rw [List.drop_zero, List.drop_zero, Int.zero_add, List.nil_append] at hloop
  rw [show ((0 : Int), (0 : Int), ([] : List api_Ratio)) = ((0 : Int), ((0 : Nat) : Int), ([] : List api_Ratio)) by rfl, hloop, some_bind]
  unfold aggregate_weighted_j1
  have ht := (terms_len h).1
  obtain ⟨x, h1, h2⟩ := sum_go (terms_all h) (by decide) (by decide) (by decide) (by omega) (by decide)
  dsimp only
  rw [Sum_eq, h1, some_bind]
  exact ⟨x, rfl, h2⟩
theorem scaled_eq (a : api_Award) (l : List api_UnitMark) (most : Int) (h : PairOK a.Units l) (hl : l.length ≤ 6) (hc : (l.any counts) = true) (m0 : 1 ≤ most) (m1 : most ≤ 200) : ∃ x, aggregate_scaled a l most = some (x, 0) ∧ ValB x (SS a.Units l * most) (600 * wOf a.Units l) 144000000000 2160000 := by
  unfold aggregate_scaled
  obtain ⟨x, h1, h2⟩ := weighted_eq a l h hl
  obtain ⟨b1, b2, b3⟩ := wOf_b h
  have b4 := b3 hc
  rw [h1, some_bind]
  dsimp only
  rw [show ((0 : Int) != 0) = false by decide, cond_false, New_eq _ _ ⟨by omega, by omega⟩ ⟨by omega, by omega⟩]
  obtain ⟨f, f1, f2, f3, _⟩ := newOf_ok' most (wOf a.Units l) (by omega) (by omega) (by omega) (by omega)
  rw [f1, some_bind]
  dsimp only
  rw [show ((0 : Int) != 0) = false by decide, cond_false, Mul_eq]
  have vf : ValB f most (wOf a.Units l) 200 3600 := ⟨f2, by omega, f3, by omega, by omega⟩
  obtain ⟨y, y1, y2⟩ := mul_go h2 vf (by decide) (by decide)
  rw [y1, some_bind]
  exact ⟨y, rfl, y2⟩
theorem has_loop (l : List api_UnitMark) (k : Int) (hl : l.length ≤ 1000) : aggregate_has l k = some (l.any fun m => m.Kind == k) := by
  have key : ∀ (n j : Nat), l.length - j = n → j ≤ l.length → iter (slices_IndexFunc_awardingbodyapiUnitMarkawardingbodyapiUnitMark_aggregate_has_f1_l2 l) ((j : Int), k) = some (if ((l.drop j).any fun m => m.Kind == k) = true then .inr (((j + (l.drop j).findIdx (fun m => m.Kind == k) : Nat) : Int), k) else .inl k) := by
    intro n
    induction n with
    | zero =>
      intro j hn hj
      have : j = l.length := by omega
      subst this
      rw [List.drop_length]
      refine iter_inr ?_
      simp [slices_IndexFunc_awardingbodyapiUnitMarkawardingbodyapiUnitMark_aggregate_has_f1_l2]
    | succ n ih =>
      intro j hn hj
      have hj' : j < l.length := by omega
      have e2 : l.drop j = l[j] :: l.drop (j + 1) := List.drop_eq_getElem_cons hj'
      have hf : slices_IndexFunc_awardingbodyapiUnitMarkawardingbodyapiUnitMark_aggregate_has_f1_l2 l ((j : Int), k) = some (if (l[j].Kind == k) = true then .inr (.inr ((j : Int), k)) else .inl (((j + 1 : Nat) : Int), k)) := by
        simp only [slices_IndexFunc_awardingbodyapiUnitMarkawardingbodyapiUnitMark_aggregate_has_f1_l2, aggregate_has_f1]
        rw [show decide ((j : Int) < (l.length : Int)) = true by simp; exact hj', cond_true, req_pos (by omega), ix_nat l j hj', some_bind, i64_add1 j (by omega)]
        dsimp only
        cases l[j].Kind == k <;> rfl
      have ha : ((l.drop j).any fun m => m.Kind == k) = ((l[j].Kind == k) || ((l.drop (j + 1)).any fun m => m.Kind == k)) := by rw [e2]; rfl
      by_cases hc : (l[j].Kind == k) = true
      · rw [if_pos hc] at hf
        rw [iter_inr hf, ha, hc, Bool.true_or, if_pos rfl, e2, List.findIdx_cons, hc]
        simp
      · rw [if_neg hc] at hf
        have hc' : (l[j].Kind == k) = false := by simpa using hc
        rw [iter_inl hf, ih (j + 1) (by omega) (by omega), ha, hc', Bool.false_or, e2, List.findIdx_cons, hc']
        simp only [cond_false]
        rw [show j + 1 + (l.drop (j + 1)).findIdx (fun m => m.Kind == k) = j + ((l.drop (j + 1)).findIdx (fun m => m.Kind == k) + 1) by omega]
  unfold aggregate_has slices_ContainsFunc_awardingbodyapiUnitMarkawardingbodyapiUnitMark_aggregate_has_f1 slices_IndexFunc_awardingbodyapiUnitMarkawardingbodyapiUnitMark_aggregate_has_f1
  have h0 : iter (slices_IndexFunc_awardingbodyapiUnitMarkawardingbodyapiUnitMark_aggregate_has_f1_l2 l) ((0 : Int), k) = _ := key l.length 0 (by omega) (by omega)
  rw [h0, some_bind, List.drop_zero]
  by_cases hc : (l.any fun m => m.Kind == k) = true
  · rw [if_pos hc, hc]
    simp
  · rw [if_neg hc, show (l.any fun m => m.Kind == k) = false by simpa using hc]
    rfl
structure AOK (a : api_Award) : Prop where
  l0 : 1 ≤ a.Units.length
  l1 : a.Units.length ≤ 4
  u : ∀ u ∈ a.Units, UOK u ∧ 0 ≤ u.Paper ∧ u.Paper ≤ 31
  up : ∀ i (hi : i + 1 < a.Units.length), a.Units[i].Paper < a.Units[i + 1].Paper
  m0 : 1 ≤ a.Max
  m1 : a.Max ≤ 200
  b : Bd a.Bounds a.Max
theorem isScore_eq (n : Int) : aggregate_isScore n = some (decide (1 ≤ n) && decide (n ≤ 200)) := by
  unfold aggregate_isScore
  rfl
theorem aCheck (a : api_Award) (h : AOK a) : aggregate_Check a = some 0 := by
  have l0 := h.l0; have l1 := h.l1; have m0 := h.m0; have m1 := h.m1
  unfold aggregate_Check
  rw [show (decide ((a.Units.length : Int) < 1) || decide ((6 : Int) < (a.Units.length : Int))) = false by simp only [Bool.or_eq_false_iff, decide_eq_false_iff_not]; omega, cond_false]
  have key : ∀ (n j : Nat), a.Units.length - j = n → j ≤ a.Units.length → iter (aggregate_Check_l2 a) (j : Int) = some (.inl ()) := by
    intro n
    induction n with
    | zero =>
      intro j hn hj
      have : j = a.Units.length := by omega
      subst this
      refine iter_inr ?_
      simp [aggregate_Check_l2]
    | succ n ih =>
      intro j hn hj
      have hj' : j < a.Units.length := by omega
      obtain ⟨hu, p0, p1⟩ := h.u a.Units[j] (List.getElem_mem hj')
      have w0 := hu.w0; have w1 := hu.w1
      have hmx : 10 ≤ a.Units[j].Max ∧ a.Units[j].Max ≤ 100 := by rcases hu.mx with h | h | h | h <;> omega
      have hf : aggregate_Check_l2 a (j : Int) = some (.inl ((j + 1 : Nat) : Int)) := by
        simp only [aggregate_Check_l2, isScore_eq]
        rw [show decide ((j : Int) < (a.Units.length : Int)) = true by simp; exact hj', cond_true, req_pos (by omega), req_pos (by intro _; rfl), ix_nat a.Units j hj']
        rw [show (((((decide (a.Units[j].Paper < 0)) || (decide ((31 : Int) < a.Units[j].Paper))) || (decide (a.Units[j].Weight < 1))) || (decide ((1000 : Int) < a.Units[j].Weight))) || (!((some (decide (1 ≤ a.Units[j].Max) && decide (a.Units[j].Max ≤ 200))).getD default))) = false by
          simp only [Option.getD_some, Bool.or_eq_false_iff, decide_eq_false_iff_not, Bool.not_eq_false', Bool.and_eq_true, decide_eq_true_eq]; omega, cond_false]
        by_cases hj0 : j = 0
        · subst hj0
          rw [req_pos (fun hh => by simp at hh)]
          simp
          decide
        · rw [wrap64 (n := (j : Int) - 1) (by omega) (by omega), show (j : Int) - 1 = ((j - 1 : Nat) : Int) by omega, req_pos (fun _ => by omega), ix_nat a.Units (j - 1) (by omega), i64_add1 j (by omega)]
          have hup := h.up (j - 1) (by omega)
          have hup' : a.Units[j - 1].Paper < a.Units[j].Paper := by
            have e : j - 1 + 1 = j := by omega
            simpa only [e] using hup
          rw [show decide (a.Units[j].Paper ≤ a.Units[j - 1].Paper) = false by simp only [decide_eq_false_iff_not]; omega, Bool.and_false, cond_false]
      rw [iter_inl hf]
      exact ih (j + 1) (by omega) (by omega)
  have h0 : iter (aggregate_Check_l2 a) (0 : Int) = _ := key a.Units.length 0 (by omega) (by omega)
  rw [h0, some_bind]
  dsimp only
  unfold aggregate_Check_j1
  rw [isScore_eq, some_bind, show (!(decide (1 ≤ a.Max) && decide (a.Max ≤ 200))) = false by simp; omega, cond_false, Check_eq _ _ h.b (by omega) m1]
  rfl
theorem v_whole (n : Int) (h0 : 0 ≤ n) (h1 : n ≤ 1000) : vR ⟨n, 1⟩ = true := v_one n (by omega) (by omega)
theorem fit_eq (a : api_Award) (l : List api_UnitMark) (h : PairOK a.Units l) (hl : l.length ≤ 6) : aggregate_fit a l = some true := by
  have hul := (terms_len h).2
  unfold aggregate_fit
  rw [show ((l.length : Int) != (a.Units.length : Int)) = false by simp; omega, cond_false]
  have key : ∀ (n j : Nat), l.length - j = n → j ≤ l.length → iter (aggregate_fit_l4 a l) (j : Int) = some (.inl ()) := by
    intro n
    induction n with
    | zero =>
      intro j hn hj
      have : j = l.length := by omega
      subst this
      refine iter_inr ?_
      simp [aggregate_fit_l4]
    | succ n ih =>
      intro j hn hj
      have hj' : j < l.length := by omega
      have hju : j < a.Units.length := by omega
      obtain ⟨hu, hm, _⟩ := pair_at h j hju hj'
      have hmx : 10 ≤ a.Units[j].Max ∧ a.Units[j].Max ≤ 100 := by rcases hu.mx with h | h | h | h <;> omega
      have hf : aggregate_fit_l4 a l (j : Int) = some (.inl ((j + 1 : Nat) : Int)) := by
        simp only [aggregate_fit_l4]
        rw [show decide ((j : Int) < (l.length : Int)) = true by simp; exact hj', cond_true, req_pos (by omega), ix_nat l j hj', ix_nat a.Units j hju]
        have j2 : aggregate_fit_j2 (j : Int) = some (.inl ((j + 1 : Nat) : Int)) := by unfold aggregate_fit_j2; rw [i64_add1 j (by omega)]
        by_cases hk : l[j].Kind = 0
        · rw [show (l[j].Kind == 0) = true by simpa using hk, cond_true, req_pos (by omega), Valid_eq, some_bind, hm.v, Compare_eq, req_pos (by intro _; rfl)]
          have hn0 := hm.n0; have hle := hm.le
          have hcm : ¬ 0 < cmpR l[j].Value ⟨a.Units[j].Max, 1⟩ := by
            rw [cmpR_v hm.v (v_whole _ (by omega) (by omega)), cmpI_pos]
            show ¬ a.Units[j].Max * l[j].Value.Den < l[j].Value.Num * 1
            omega
          rw [show (((!true) || (decide (l[j].Value.Num < 0))) || (decide ((0 : Int) < ((some (cmpR l[j].Value ⟨a.Units[j].Max, 1⟩)).getD default)))) = false by
            simp only [Option.getD_some, Bool.not_true, Bool.false_or, Bool.or_eq_false_iff, decide_eq_false_iff_not]; omega, cond_false]
          exact j2
        · have hz := hm.z hk
          have j3 : aggregate_fit_j3 l (j : Int) true = some (.inl ((j + 1 : Nat) : Int)) := by
            unfold aggregate_fit_j3
            rw [ix_nat l j hj', hz, cond_true]
            exact j2
          have k0 := hm.k0; have k1 := hm.k1
          rw [show (l[j].Kind == 0) = false by simpa using hk, cond_false]
          by_cases h1 : l[j].Kind = 1
          · rw [show (l[j].Kind == 1) = true by simpa using h1, cond_true]; exact j3
          · rw [show (l[j].Kind == 1) = false by simpa using h1, cond_false]
            by_cases h2 : l[j].Kind = 2
            · rw [show (l[j].Kind == 2) = true by simpa using h2, cond_true]; exact j3
            · rw [show (l[j].Kind == 2) = false by simpa using h2, cond_false, show (l[j].Kind == 3) = true by simp; omega]
              exact j3
      rw [iter_inl hf]
      exact ih (j + 1) (by omega) (by omega)
  have h0 : iter (aggregate_fit_l4 a l) (0 : Int) = _ := key l.length 0 (by omega) (by omega)
  rw [h0]
  rfl
theorem checkMarks_eq (a : api_Award) (l : List api_UnitMark) (special : Int) (ha : AOK a) (h : PairOK a.Units l) (s0 : 0 ≤ special) (s1 : special ≤ 50) : aggregate_checkMarks a l special = some 0 := by
  have hul := (terms_len h).2
  have := ha.l1
  unfold aggregate_checkMarks
  rw [aCheck a ha, some_bind, fit_eq a l h (by omega), req_pos (by intro _; rfl)]
  rw [show (((0 : Int) != 0) || (!((some true).getD default))) = false by decide, cond_false, show (decide (special < 0) || decide ((50 : Int) < special)) = false by simp only [Bool.or_eq_false_iff, decide_eq_false_iff_not]; omega, cond_false]
def PP (a : api_Award) (l : List api_UnitMark) (special : Int) : Int := SS a.Units l * a.Max * 1000 + special * a.Max * (600 * wOf a.Units l)
def QQ (a : api_Award) (l : List api_UnitMark) : Int := 600 * wOf a.Units l * 1000
def isP (l : List api_UnitMark) : Bool := l.any fun m => m.Kind == 3
def isC (l : List api_UnitMark) : Bool := l.any counts
theorem any_counts (l : List api_UnitMark) : ((l.any fun m => m.Kind == 0) || (l.any fun m => m.Kind == 1)) = l.any counts := by
  induction l with
  | nil => rfl
  | cons m l ih =>
    simp only [List.any_cons, counts]
    rw [← ih]
    cases m.Kind == 0 <;> cases m.Kind == 1 <;> simp
structure TOf (a : api_Award) (l : List api_UnitMark) (special : Int) (x : api_Ratio) : Prop where
  v : vR x = true
  q : 0 < QQ a l
  hi : a.Max * QQ a l < PP a l special → x = ⟨a.Max, 1⟩
  lo : ¬ a.Max * QQ a l < PP a l special → x.Num * QQ a l = PP a l special * x.Den
theorem Exact_eq (a : api_Award) (l : List api_UnitMark) (special : Int) (ha : AOK a) (h : PairOK a.Units l) (s0 : 0 ≤ special) (s1 : special ≤ 50) :
    (isP l = true → aggregate_Exact a l special = some (⟨0, 0⟩, 8)) ∧ (isP l = false → isC l = false → aggregate_Exact a l special = some (⟨0, 0⟩, 10)) ∧
    (isP l = false → isC l = true → ∃ x, aggregate_Exact a l special = some (x, 0) ∧ TOf a l special x) := by
  have hul := (terms_len h).2
  have l1 := ha.l1; have m0 := ha.m0; have m1 := ha.m1
  unfold aggregate_Exact
  rw [checkMarks_eq a l special ha h s0 s1, some_bind, show ((0 : Int) != 0) = false by decide, cond_false]
  simp only [has_loop l _ (by omega), some_bind]
  have hany := any_counts l
  refine ⟨fun hp => ?_, fun hp hc => ?_, fun hp hc => ?_⟩
  · unfold isP at hp; rw [hp]; rfl
  · unfold isP at hp; unfold isC at hc
    rw [hc] at hany
    simp only [Bool.or_eq_false_iff] at hany
    rw [hp, hany.1, hany.2]
    rw [cond_false, req_pos (by intro _; rfl)]
    rfl
  · unfold isP at hp; unfold isC at hc
    rw [hp, cond_false, req_pos (by intro _; rfl)]
    rw [hc] at hany
    rw [show ((!(l.any fun m => m.Kind == 0)) && (!((some (l.any fun m => m.Kind == 1)).getD default))) = false by
      simp only [Option.getD_some]
      cases h1 : (l.any fun m => m.Kind == 0) <;> cases h2 : (l.any fun m => m.Kind == 1) <;> simp_all, cond_false]
    obtain ⟨x, x1, x2⟩ := scaled_eq a l a.Max h (by omega) hc m0 m1
    rw [x1, some_bind]
    dsimp only
    have sm0 : 0 ≤ special * a.Max := Int.mul_nonneg s0 (by omega)
    have sm1 : special * a.Max ≤ 50 * 200 := Int.mul_le_mul s1 m1 (by omega) (by decide)
    rw [show ((0 : Int) != 0) = false by decide, cond_false, wrap64 (by omega) (by omega), New_eq _ _ ⟨by omega, by omega⟩ ⟨by decide, by decide⟩]
    obtain ⟨f, f1, f2, f3, _⟩ := newOf_ok' (special * a.Max) 1000 (by omega) (by omega) (by decide) (by decide)
    rw [f1, some_bind]
    dsimp only
    rw [show ((0 : Int) != 0) = false by decide, cond_false, Add_eq]
    have vf : ValB f (special * a.Max) 1000 10000 1000 := ⟨f2, by decide, f3, by omega, by decide⟩
    obtain ⟨y, y1, y2⟩ := add_go x2 vf (by decide) (by decide)
    rw [y1, some_bind]
    dsimp only
    rw [show ((0 : Int) != 0) = false by decide, cond_false, Less_eq, some_bind, less_v (v_whole a.Max (by omega) (by omega)) y2.v]
    have hP : PP a l special = SS a.Units l * a.Max * 1000 + special * a.Max * (600 * wOf a.Units l) := rfl
    have hQ : QQ a l = 600 * wOf a.Units l * 1000 := rfl
    have yd : 0 < y.Den := by have := (vd_of y2.v).d0; omega
    have yq := y2.q
    have ye := y2.e
    rw [← hP, ← hQ] at ye
    rw [← hQ] at yq
    have hcmp : (a.Max * y.Den < y.Num * 1) ↔ a.Max * QQ a l < PP a l special := by
      rw [Int.mul_one]
      constructor
      · intro hh
        have h2 := Int.mul_lt_mul_of_pos_right hh yq
        rw [ye] at h2
        have h3 : a.Max * QQ a l * y.Den < PP a l special * y.Den := by
          have e : a.Max * QQ a l * y.Den = a.Max * y.Den * QQ a l := by rw [Int.mul_right_comm]
          rw [e]; exact h2
        exact Int.lt_of_mul_lt_mul_right h3 (by omega)
      · intro hh
        have h2 := Int.mul_lt_mul_of_pos_right hh yd
        rw [← ye] at h2
        have h3 : a.Max * y.Den * QQ a l < y.Num * QQ a l := by
          have e : a.Max * y.Den * QQ a l = a.Max * QQ a l * y.Den := by rw [Int.mul_right_comm]
          rw [e]; exact h2
        exact Int.lt_of_mul_lt_mul_right h3 (by omega)
    by_cases hh : a.Max * QQ a l < PP a l special
    · rw [show decide (a.Max * y.Den < y.Num * 1) = true by rw [decide_eq_true_eq]; exact hcmp.2 hh, cond_true]
      exact ⟨_, rfl, v_whole a.Max (by omega) (by omega), yq, fun _ => rfl, fun hn => absurd hh hn⟩
    · rw [show decide (a.Max * y.Den < y.Num * 1) = false by rw [decide_eq_false_iff_not]; exact fun h => hh (hcmp.1 h), cond_false]
      exact ⟨_, rfl, y2.v, yq, fun hn => absurd hn hh, fun _ => ye⟩

theorem round_b {x : api_Ratio} (h : vR x = true) : (2 * roundR x - 1) * x.Den ≤ 2 * x.Num ∧ 2 * x.Num < (2 * roundR x + 1) * x.Den := by
  have v := vd_of h
  have r := v.rs
  have e := v.eq
  have d0 := v.d0
  unfold roundR up
  have e2 : x.Den * flR x = flR x * x.Den := Int.mul_comm _ _
  by_cases hc : x.Den ≤ 2 * rsR x
  · rw [if_pos (by simpa using hc)]
    have e3 : (2 * (flR x + 1) - 1) * x.Den = 2 * (flR x * x.Den) + x.Den := by grind
    have e4 : (2 * (flR x + 1) + 1) * x.Den = 2 * (flR x * x.Den) + 3 * x.Den := by grind
    rw [e3, e4]; omega
  · rw [if_neg (by simpa using hc)]
    have e3 : (2 * (flR x + 0) - 1) * x.Den = 2 * (flR x * x.Den) - x.Den := by grind
    have e4 : (2 * (flR x + 0) + 1) * x.Den = 2 * (flR x * x.Den) + x.Den := by grind
    rw [e3, e4]; omega
theorem round_mono {x y : api_Ratio} (hx : vR x = true) (hy : vR y = true) (h : x.Num * y.Den ≤ y.Num * x.Den) : roundR x ≤ roundR y := by
  have bx := (round_b hx).1
  have by' := (round_b hy).2
  have dx : 0 < x.Den := by have := (vd_of hx).d0; omega
  have dy : 0 < y.Den := by have := (vd_of hy).d0; omega
  have h1 := Int.mul_le_mul_of_nonneg_right bx (show 0 ≤ y.Den by omega)
  have h2 := Int.mul_lt_mul_of_pos_right by' dx
  have h3 : (2 * roundR x - 1) * (x.Den * y.Den) < (2 * roundR y + 1) * (x.Den * y.Den) := by
    have e1 : (2 * roundR x - 1) * (x.Den * y.Den) = (2 * roundR x - 1) * x.Den * y.Den := by grind
    have e2 : (2 * roundR y + 1) * (x.Den * y.Den) = (2 * roundR y + 1) * y.Den * x.Den := by grind
    have e3 : 2 * x.Num * y.Den = 2 * (x.Num * y.Den) := by grind
    have e4 : 2 * y.Num * x.Den = 2 * (y.Num * x.Den) := by grind
    rw [e1, e2]; omega
  have := Int.lt_of_mul_lt_mul_right h3 (Int.le_of_lt (Int.mul_pos dx dy))
  omega
theorem round_one (n : Int) : roundR ⟨n, 1⟩ = n := by
  simp only [roundR, flR, rsR, up]
  simp
def isT (l : List api_UnitMark) : Bool := l.any fun m => m.Kind == 0
theorem isC_of {l : List api_UnitMark} (h : isT l = true) : isC l = true := by
  unfold isC isT at *
  rw [← any_counts, h, Bool.true_or]
theorem Total_eq (a : api_Award) (l : List api_UnitMark) (s : Int) (ha : AOK a) (h : PairOK a.Units l) (s0 : 0 ≤ s) (s1 : s ≤ 50) (hp : isP l = false) (hc : isC l = true) : ∃ x, aggregate_Total a l s = some (roundR x, 0) ∧ TOf a l s x := by
  obtain ⟨x, e, t⟩ := (Exact_eq a l s ha h s0 s1).2.2 hp hc
  refine ⟨x, ?_, t⟩
  unfold aggregate_Total
  rw [e, some_bind]
  dsimp only
  rw [show ((0 : Int) != 0) = false by decide, cond_false, Round_eq, if_pos t.v, some_bind]
theorem Decide_eq (a : api_Award) (l : List api_UnitMark) (s : Int) (ha : AOK a) (h : PairOK a.Units l) (s0 : 0 ≤ s) (s1 : s ≤ 50) :
    (isP l = true → aggregate_Decide a l s = some (2, 0, 0, 0)) ∧ (isP l = false → isT l = false → aggregate_Decide a l s = some (1, 0, 0, 0)) ∧
    (isP l = false → isT l = true → ∃ x, TOf a l s x ∧ aggregate_Decide a l s = some (0, (gr a.Bounds (roundR x) : Int), roundR x, 0)) := by
  have hul := (terms_len h).2
  have l1 := ha.l1
  unfold aggregate_Decide
  rw [checkMarks_eq a l s ha h s0 s1, some_bind, show ((0 : Int) != 0) = false by decide, cond_false]
  simp only [has_loop l _ (show l.length ≤ 1000 by omega), some_bind]
  refine ⟨fun hp => ?_, fun hp hc => ?_, fun hp hc => ?_⟩
  · unfold isP at hp; rw [hp]; rfl
  · unfold isP at hp; unfold isT at hc; rw [hp, hc]; rfl
  · obtain ⟨x, e, t⟩ := Total_eq a l s ha h s0 s1 hp (isC_of hc)
    refine ⟨x, t, ?_⟩
    unfold isP at hp; unfold isT at hc
    rw [hp, hc, e]
    simp only [Bool.not_true, cond_false, some_bind]
    rw [show ((0 : Int) != 0) = false by decide, cond_false, Grade_eq _ _ (by have := ha.b.hi; omega), some_bind]
theorem PairOK.append : ∀ {us vs : List api_Unit} {ms ns : List api_UnitMark}, PairOK us ms → PairOK vs ns → PairOK (us ++ vs) (ms ++ ns)
  | [], vs, [], ns, _, h => h
  | u :: us, vs, m :: ms, ns, h, h2 => ⟨h.1, h.2.1, PairOK.append h.2.2 h2⟩
theorem PairOK.one {u : api_Unit} {m : api_UnitMark} (h1 : UOK u) (h2 : MOK u m) : PairOK [u] [m] := ⟨h1, h2, trivial⟩
theorem dAward (d : mark_Dice) (n : Int) (h : DOK d) (n0 : 1 ≤ n) (n1 : n ≤ 4) : ∃ a t', mark_Dice_Award d n = some (a, t') ∧ DOK t' ∧ AOK a ∧ (a.Units.length : Int) = n ∧ (∀ u ∈ a.Units, u.Weight ≤ 60) := by
  unfold mark_Dice_Award
  obtain ⟨y, t1, e1, h1, hy⟩ := dPick d [100, 20, 60] h (by simp) (by simp)
  have hy' : 1 ≤ y ∧ y ≤ 200 := by simp at hy; omega
  rw [e1, some_bind]
  dsimp only
  obtain ⟨⟨L, A, w⟩, e2, g1, g2, g3⟩ := iter_inv (f := mark_Dice_Award_l2 n) (fun s => 0 ≤ s.1 ∧ s.1 ≤ n ∧ (s.2.2.2.length : Int) = s.1 ∧ DOK ⟨s.2.1, s.2.2.1⟩ ∧ (∀ j (hj : j < s.2.2.2.length), s.2.2.2[j].Paper = (j : Int) ∧ UOK s.2.2.2[j] ∧ s.2.2.2[j].Weight ≤ 60)) (fun s => (n - s.1).toNat)
    (fun r => DOK ⟨r.1, r.2.1⟩ ∧ (r.2.2.length : Int) = n ∧ (∀ j (hj : j < r.2.2.length), r.2.2[j].Paper = (j : Int) ∧ UOK r.2.2[j] ∧ r.2.2[j].Weight ≤ 60)) (by
      rintro ⟨i, L, A, w⟩ ⟨k1, k2, k3, k4, k5⟩
      simp only at k1 k2 k3 k4 k5
      simp only [mark_Dice_Award_l2]
      rcases bcases (decide (i < n)) with hc | hc <;> rw [hc]
      · left
        have hi : i < n := by simpa using hc
        obtain ⟨a, ta, ea, ha, a1⟩ := dPick ⟨L, A⟩ [1, 2, 60, 40] k4 (by simp) (by simp)
        obtain ⟨b, tb, eb, hb, b1⟩ := dPick ta [10, 12, 50] ha (by simp) (by simp)
        rw [cond_true, ea, some_bind]
        dsimp only
        rw [eb, some_bind]
        dsimp only
        rw [req_pos (by simp; omega), wrap64 (n := i + 1) (by omega) (by omega)]
        have hu : UOK ⟨i, a, b⟩ ∧ a ≤ 60 := by
          simp at a1 b1
          refine ⟨⟨by show 1 ≤ a; omega, by show a ≤ 600; omega, ?_⟩, by omega⟩
          show okMax b
          unfold okMax; omega
        refine ⟨_, rfl, ⟨by show 0 ≤ i + 1; omega, by show i + 1 ≤ n; omega, by simp; omega, hb, ?_⟩, by show (n - (i + 1)).toNat < (n - i).toNat; omega⟩
        intro j hj
        simp only [List.length_append, List.length_cons, List.length_nil] at hj
        by_cases hj2 : j < w.length
        · simp only [List.getElem_append_left hj2]
          exact k5 j hj2
        · have : j = w.length := by omega
          subst this
          simp only [List.getElem_append_right (Nat.le_refl _), Nat.sub_self, List.getElem_cons_zero]
          exact ⟨by omega, hu.1, hu.2⟩
      · right
        have hi : i = n := by simp at hc; omega
        exact ⟨_, rfl, k4, by show (w.length : Int) = n; omega, k5⟩) (0, t1.L, t1.At, []) ⟨by show (0 : Int) ≤ 0; omega, by show (0 : Int) ≤ n; omega, by simp, h1, by intro j hj; simp at hj⟩
  simp only at g1 g2 g3
  rw [e2, some_bind]
  dsimp only
  unfold mark_Dice_Award_j1
  obtain ⟨b, t', e3, h3, hb⟩ := dBounds ⟨L, A⟩ y g1 (by omega) (by omega)
  rw [e3, some_bind]
  refine ⟨_, t', rfl, h3, ⟨by show 1 ≤ w.length; omega, by show w.length ≤ 4; omega, ?_, ?_, hy'.1, hy'.2, hb⟩, g2, ?_⟩
  · intro u hu
    obtain ⟨j, hj, rfl⟩ := List.getElem_of_mem hu
    obtain ⟨q1, q2, q3⟩ := g3 j hj
    exact ⟨q2, by rw [q1]; omega, by rw [q1]; have : j < w.length := hj; omega⟩
  · intro i hi
    have hi' : i + 1 < w.length := hi
    show w[i].Paper < w[i + 1].Paper
    rw [(g3 i (by omega)).1, (g3 (i + 1) hi').1]; omega
  · intro u hu
    obtain ⟨j, hj, rfl⟩ := List.getElem_of_mem hu
    exact (g3 j hj).2.2
theorem v_half (n : Int) (h0 : 0 ≤ n) (h1 : n ≤ 1000) (h : n % 2 = 1) : vR ⟨n, 2⟩ = true := by
  rw [vR_iff]
  refine ⟨by show (1 : Int) ≤ 2; omega, by show (2 : Int) ≤ _; omega, by show _ ≤ n; omega, by show n ≤ _; omega, ?_⟩
  show Nat.gcd n.natAbs 2 = 1
  rw [Nat.gcd_comm, Nat.gcd_rec, show n.natAbs % 2 = 1 by omega]
  rfl
theorem dMarks (d : mark_Dice) (a : api_Award) (h : DOK d) (ha : AOK a) : ∃ l t', mark_Dice_Marks d a = some (l, t') ∧ DOK t' ∧ PairOK a.Units l := by
  have l1 := ha.l1
  unfold mark_Dice_Marks
  obtain ⟨⟨L, A, w⟩, e2, g1, g2⟩ := iter_inv (f := mark_Dice_Marks_l3 a) (fun s => 0 ≤ s.1 ∧ s.1 ≤ a.Units.length ∧ (s.2.2.2.length : Int) = s.1 ∧ DOK ⟨s.2.1, s.2.2.1⟩ ∧ PairOK (a.Units.take s.1.toNat) s.2.2.2) (fun s => (a.Units.length - s.1).toNat)
    (fun r => DOK ⟨r.1, r.2.1⟩ ∧ PairOK a.Units r.2.2) (by
      rintro ⟨i, L, A, w⟩ ⟨k1, k2, k3, k4, k5⟩
      simp only at k1 k2 k3 k4 k5
      simp only [mark_Dice_Marks_l3]
      rcases bcases (decide (i < (a.Units.length : Int))) with hc | hc <;> rw [hc]
      · left
        have hi : i < a.Units.length := by simpa using hc
        obtain ⟨k, rfl⟩ : ∃ k : Nat, i = (k : Int) := ⟨i.toNat, by omega⟩
        have hk : k < a.Units.length := by omega
        obtain ⟨hu, p0, p1⟩ := ha.u a.Units[k] (List.getElem_mem hk)
        have hmx : 10 ≤ a.Units[k].Max ∧ a.Units[k].Max ≤ 100 := by rcases hu.mx with h | h | h | h <;> omega
        have fin : ∀ (y : Int) (t : mark_Dice) (x x1 : Int), DOK t → MOK a.Units[k] ⟨y, ⟨x, x1⟩⟩ → ∃ s', mark_Dice_Marks_j2 (k : Int) w y t.L t.At x x1 = some (.inl s') ∧ (0 ≤ s'.1 ∧ s'.1 ≤ a.Units.length ∧ (s'.2.2.2.length : Int) = s'.1 ∧ DOK ⟨s'.2.1, s'.2.2.1⟩ ∧ PairOK (a.Units.take s'.1.toNat) s'.2.2.2) ∧ (a.Units.length - s'.1).toNat < (a.Units.length - (k : Int)).toNat := by
          intro y t x x1 ht hm
          unfold mark_Dice_Marks_j2
          rw [req_pos (by simp; omega), i64_add1 k (by omega)]
          refine ⟨_, rfl, ⟨by show (0 : Int) ≤ ((k + 1 : Nat) : Int); omega, by show ((k + 1 : Nat) : Int) ≤ _; omega, by simp; omega, ht, ?_⟩, by show (_ - ((k + 1 : Nat) : Int)).toNat < _; omega⟩
          show PairOK (a.Units.take (((k + 1 : Nat) : Int)).toNat) (w ++ [_])
          rw [Int.toNat_natCast, List.take_succ_eq_append_getElem hk]
          rw [Int.toNat_natCast] at k5
          exact PairOK.append k5 (PairOK.one hu hm)
        obtain ⟨y, t1, e1, h1, hy⟩ := dPick ⟨L, A⟩ [0, 0, 0, 1, 2, 3, 0, 0] k4 (by simp) (by simp)
        have hy' : 0 ≤ y ∧ y ≤ 3 := by simp at hy; omega
        rw [cond_true, e1, some_bind]
        dsimp only
        by_cases hy0 : y = 0
        · subst hy0
          rw [show ((0 : Int) == 0) = true by decide, cond_true, req_pos (by omega), ix_nat _ _ hk, wrap64 (n := a.Units[k].Max + 1) (by omega) (by omega)]
          obtain ⟨y2, t2, e2, h2, b1, b2⟩ := dNext t1 (a.Units[k].Max + 1) h1 (by omega)
          have b3 := b2 (by omega)
          have hone : MOK a.Units[k] ⟨0, ⟨y2, 1⟩⟩ := ⟨by show (0 : Int) ≤ 0; omega, by show (0 : Int) ≤ 3; omega, v_whole y2 b1 (by omega), b1, .inl rfl, by show y2 ≤ a.Units[k].Max * 1; omega, fun hh => absurd rfl hh⟩
          rw [e2, some_bind]
          dsimp only
          rcases bcases (((Int.tmod y2 (2 : Int)) == (1 : Int)) && (decide (y2 < a.Units[k].Max))) with hd | hd <;> rw [hd]
          · simp only [Bool.and_eq_true, beq_iff_eq, decide_eq_true_eq] at hd
            have hodd : y2 % 2 = 1 := by rw [Int.tmod_eq_emod_of_nonneg b1] at hd; exact hd.1
            rw [cond_true, req_pos (by intro _; omega)]
            obtain ⟨z, t3, e3, h3, z1, z2⟩ := dNext t2 3 h2 (by omega)
            unfold mark_Dice_Bool
            rw [e3, some_bind]
            dsimp only
            rw [some_bind]
            dsimp only
            cases z == IntKind.i64.wrap (3 - 1)
            · rw [cond_false]; exact fin 0 t3 y2 1 h3 hone
            · rw [cond_true]
              exact fin 0 t3 y2 2 h3 ⟨by show (0 : Int) ≤ 0; omega, by show (0 : Int) ≤ 3; omega, v_half y2 b1 (by omega) hodd, b1, .inr rfl, by show y2 ≤ a.Units[k].Max * 2; omega, fun hh => absurd rfl hh⟩
          · rw [cond_false, req_pos (by intro _; omega)]
            exact fin 0 t2 y2 1 h2 hone
        · rw [show (y == 0) = false by simpa using hy0, cond_false]
          exact fin y t1 0 1 h1 ⟨hy'.1, hy'.2, v_whole 0 (by decide) (by decide), by show (0 : Int) ≤ 0; omega, .inl rfl, by show 0 ≤ a.Units[k].Max * 1; omega, fun _ => rfl⟩
      · right
        have hi : i = a.Units.length := by simp at hc; omega
        refine ⟨_, rfl, k4, ?_⟩
        rw [hi, Int.toNat_natCast, List.take_length] at k5
        exact k5) (0, d.L, d.At, []) ⟨by show (0 : Int) ≤ 0; omega, by show (0 : Int) ≤ _; omega, by simp, h, trivial⟩
  simp only at g1 g2
  rw [e2, some_bind]
  exact ⟨w, ⟨L, A⟩, rfl, g1, g2⟩
def a36 : api_Award := ⟨[⟨0, 60, 50⟩, ⟨1, 40, 100⟩], [60, 50], 100⟩
theorem aok36 : AOK a36 := by
  refine ⟨by decide, by decide, ?_, ?_, by decide, by decide, ⟨by decide, by decide, ?_, ?_⟩⟩
  · intro u hu
    simp only [a36, List.mem_cons, List.not_mem_nil, or_false] at hu
    rcases hu with rfl | rfl <;> exact ⟨⟨by decide, by decide, by simp [okMax]⟩, by decide, by decide⟩
  · intro i hi
    have : i = 0 := by simp [a36] at hi; omega
    subst this
    show (0 : Int) < 1
    decide
  · decide
  · intro i j hi hj hij
    have h1 : i < 2 := hi
    have h2 : j < 2 := hj
    match i, j, h1, h2 with
    | 0, 0, _, _ => exact Int.le_refl _
    | 0, 1, _, _ => show (50 : Int) ≤ 60; decide
    | 1, 1, _, _ => exact Int.le_refl _
    | 1, 0, _, _ => omega
def l36 : List api_UnitMark := [⟨0, ⟨25, 1⟩⟩, ⟨0, ⟨80, 1⟩⟩]
def x36 : List api_UnitMark := [⟨0, ⟨25, 1⟩⟩, ⟨2, ⟨0, 1⟩⟩]
theorem pair36 : PairOK a36.Units l36 :=
  ⟨⟨by decide, by decide, by simp [okMax]⟩, ⟨by decide, by decide, by decide, by decide, .inl rfl, by decide, fun h => absurd rfl h⟩,
   ⟨by decide, by decide, by simp [okMax]⟩, ⟨by decide, by decide, by decide, by decide, .inl rfl, by decide, fun h => absurd rfl h⟩, trivial⟩
theorem pairx36 : PairOK a36.Units x36 :=
  ⟨⟨by decide, by decide, by simp [okMax]⟩, ⟨by decide, by decide, by decide, by decide, .inl rfl, by decide, fun h => absurd rfl h⟩,
   ⟨by decide, by decide, by simp [okMax]⟩, ⟨by decide, by decide, by decide, by decide, .inl rfl, by decide, fun _ => rfl⟩, trivial⟩
theorem round_of {x : api_Ratio} {n : Int} (h : vR x = true) (he : x.Num = n * x.Den) (h0 : 0 ≤ n) (h1 : n ≤ 1000) : roundR x = n := by
  have a1 := round_mono h (v_whole n h0 h1) (by show x.Num * 1 ≤ n * x.Den; omega)
  have a2 := round_mono (v_whole n h0 h1) h (by show n * x.Den ≤ x.Num * 1; omega)
  rw [round_one] at a1 a2
  omega
theorem whole_eq (n : Int) : law36_whole n = some ⟨n, 1⟩ := rfl
theorem sane36 : law36_sane = some true := by
  unfold law36_sane
  simp only [whole_eq, some_bind]
  obtain ⟨x, t1, t2⟩ := Total_eq a36 l36 0 aok36 pair36 (by decide) (by decide) (by decide) (by decide)
  have hx : roundR x = 62 := by
    have q : QQ a36 l36 = 60000000 := by decide
    have p : PP a36 l36 0 = 3720000000 := by decide
    have := t2.lo (by rw [q, p]; decide)
    rw [q, p] at this
    exact round_of t2.v (by omega) (by decide) (by decide)
  obtain ⟨y, d1, d2⟩ := (Decide_eq a36 x36 0 aok36 pairx36 (by decide) (by decide)).2.2 (by decide) (by decide)
  have hy : roundR y = 50 := by
    have q : QQ a36 x36 = 36000000 := by decide
    have p : PP a36 x36 0 = 1800000000 := by decide
    have := d1.lo (by rw [q, p]; decide)
    rw [q, p] at this
    exact round_of d1.v (by omega) (by decide) (by decide)
  have hest : aggregate_Estimate a36 x36 1 = some (⟨50, 1⟩, 0) := by
    obtain ⟨z, z1, z2⟩ := (Exact_eq a36 x36 0 aok36 pairx36 (by decide) (by decide)).2.2 (by decide) (by decide)
    obtain ⟨u, u1, u2⟩ := scaled_eq a36 x36 100 pairx36 (by decide) (by decide) (by decide) (by decide)
    have hu : u = ⟨50, 1⟩ := by
      have vb : ValB ⟨50, 1⟩ 50 1 50 1 := ⟨by decide, by decide, rfl, by decide, by decide⟩
      exact u2.eq vb (by decide)
    unfold aggregate_Estimate
    rw [z1, some_bind, show (decide ((1 : Int) < 0) || decide ((a36.Units.length : Int) ≤ 1)) = false by decide, cond_false]
    dsimp only
    rw [show ((0 : Int) != 0) = false by decide, cond_false, req_pos (by decide), show (ix a36.Units 1).Max = 100 by decide, u1, hu, some_bind]
  have e1 : aggregate_Total ⟨[⟨0, 60, 50⟩, ⟨1, 40, 100⟩], [60, 50], 100⟩ [⟨0, ⟨25, 1⟩⟩, ⟨0, ⟨80, 1⟩⟩] 0 = _ := t1
  have e2 : aggregate_Decide ⟨[⟨0, 60, 50⟩, ⟨1, 40, 100⟩], [60, 50], 100⟩ [⟨0, ⟨25, 1⟩⟩, ⟨2, ⟨0, 1⟩⟩] 0 = _ := d2
  have e3 : aggregate_Estimate ⟨[⟨0, 60, 50⟩, ⟨1, 40, 100⟩], [60, 50], 100⟩ [⟨0, ⟨25, 1⟩⟩, ⟨2, ⟨0, 1⟩⟩] 1 = _ := hest
  rw [e1, hx, some_bind]
  dsimp only
  rw [req_pos (by decide), e2, hy, some_bind]
  dsimp only
  rw [req_pos (by decide), e3, some_bind]
  dsimp only
  rw [req_pos (by intro _; rfl)]
  rw [show gr a36.Bounds 50 = 1 by decide]
  rfl

theorem light36 (t : List Int) : mark_Light t = some (decide ((t.length : Int) ≤ 600)) := rfl

theorem sbx {α β : Type} (x : α) (f : α → Option β) : (some x).bind f = f x := rfl
theorem iter_some {ρ : Type} (n : Nat) (f : Int → Option (Int ⊕ ρ)) (h : ∀ k : Nat, k < n → (∃ r, f (k : Int) = some (.inr r)) ∨ f (k : Int) = some (.inl ((k + 1 : Nat) : Int))) (hn : ∃ r, f (n : Int) = some (.inr r)) :
    ∃ r, iter f (0 : Int) = some r := by
  have key : ∀ (m k : Nat), n - k = m → k ≤ n → ∃ r, iter f (k : Int) = some r := by
    intro m
    induction m with
    | zero =>
      intro k h1 h2
      have : k = n := by omega
      subst this
      obtain ⟨r, hr⟩ := hn
      exact ⟨r, iter_inr hr⟩
    | succ m ih =>
      intro k h1 h2
      rcases h k (by omega) with ⟨r, hr⟩ | hr
      · exact ⟨r, iter_inr hr⟩
      · rw [iter_inl hr]
        exact ih (k + 1) (by omega) (by omega)
  exact key _ 0 rfl (by omega)
theorem iter_all {β : Type} (n : Nat) (f : Int → Option (Int ⊕ (Unit ⊕ β))) (h : ∀ k : Nat, k < n → (∃ r, f (k : Int) = some (.inr (.inr r))) ∨ f (k : Int) = some (.inl ((k + 1 : Nat) : Int)))
    (hi : iter f (0 : Int) = some (.inl ())) : ∀ k : Nat, k < n → f (k : Int) = some (.inl ((k + 1 : Nat) : Int)) := by
  have key : ∀ (k : Nat), k ≤ n → iter f (k : Int) = some (.inl ()) ∧ ∀ j : Nat, j < k → f (j : Int) = some (.inl ((j + 1 : Nat) : Int)) := by
    intro k
    induction k with
    | zero => exact fun _ => ⟨hi, fun j hj => absurd hj (by omega)⟩
    | succ k ih =>
      intro hk
      obtain ⟨h1, h2⟩ := ih (by omega)
      rcases h k (by omega) with ⟨r, hr⟩ | hr
      · rw [iter_inr hr] at h1; cases h1
      · rw [iter_inl hr] at h1
        refine ⟨h1, fun j hj => ?_⟩
        by_cases e : j = k
        · subst e; exact hr
        · exact h2 j (by omega)
  exact (key n (Nat.le_refl _)).2
theorem iter_same {ρ : Type} (n : Nat) (f g : Int → Option (Int ⊕ ρ)) (h : ∀ k : Nat, k < n → f (k : Int) = g (k : Int) ∧ ((∃ r, f (k : Int) = some (.inr r)) ∨ f (k : Int) = some (.inl ((k + 1 : Nat) : Int)))) (hn : f (n : Int) = g (n : Int)) (hr : ∃ r, f (n : Int) = some (.inr r)) :
    ∃ r, iter f (0 : Int) = some r ∧ iter g (0 : Int) = some r := by
  have key : ∀ (m k : Nat), n - k = m → k ≤ n → ∃ r, iter f (k : Int) = some r ∧ iter g (k : Int) = some r := by
    intro m
    induction m with
    | zero =>
      intro k h1 h2
      have : k = n := by omega
      subst this
      obtain ⟨r, hr⟩ := hr
      exact ⟨r, iter_inr hr, iter_inr (hn.symm.trans hr)⟩
    | succ m ih =>
      intro k h1 h2
      obtain ⟨e, h3⟩ := h k (by omega)
      rcases h3 with ⟨r, hr⟩ | hr
      · exact ⟨r, iter_inr hr, iter_inr (e.symm.trans hr)⟩
      · rw [iter_inl hr, iter_inl (e.symm.trans hr)]
        exact ih (k + 1) (by omega) (by omega)
  exact key _ 0 rfl (by omega)
theorem bIs (n : Int) : boundary_isScore n = some (decide (0 ≤ n) && decide (n ≤ 200)) := rfl
theorem req_dup {α : Type} {A C : Prop} (x : Option α) : req (A ∧ (C → A)) x = req A x := by
  have : (A ∧ (C → A)) = A := propext ⟨fun h => h.1, fun h => ⟨h, fun _ => h⟩⟩
  rw [this]
theorem bcheck_l4 (b : List Int) (most : Int) : boundary_Check_l4 b most = ref35_Check_l4 b most := by
  funext v
  simp only [boundary_Check_l4, ref35_Check_l4, req_dup]
theorem bcheck_l2 (b : List Int) : boundary_Check_l2 b = ref35_Check_l2 b := rfl
theorem len0 (n : Nat) : decide ((n : Int) < (1 : Int)) = ((n : Int) == (0 : Int)) := by
  rw [Bool.eq_iff_iff, decide_eq_true_eq, beq_iff_eq]; omega
theorem b35 (b : List Int) (most : Int) : boundary_Check b most = ref35_Check b most := by
  unfold boundary_Check ref35_Check boundary_Check_j3 ref35_Check_j3
  rw [bIs, sbx, bcheck_l4, bcheck_l2]
  rw [show (!(decide (0 ≤ most) && decide (most ≤ 200))) = (decide (most < (0 : Int)) || decide ((200 : Int) < most)) by rw [Bool.eq_iff_iff]; simp <;> omega, len0]
  rfl
theorem b35_some (b : List Int) (most : Int) (hb : b.length ≤ 1000) : ∃ c, boundary_Check b most = some c := by
  unfold boundary_Check
  rw [bIs, sbx]
  rcases bcases (!(decide (0 ≤ most) && decide (most ≤ 200))) with hc | hc <;> rw [hc]
  · exact ⟨_, rfl⟩
  rw [cond_false]
  rcases bcases ((decide ((b.length : Int) < (1 : Int))) || (decide ((9 : Int) < (b.length : Int)))) with hd | hd <;> rw [hd]
  · exact ⟨_, rfl⟩
  rw [cond_false]
  have h1 : ∃ r, iter (boundary_Check_l4 b most) (0 : Int) = some r := by
    refine iter_some b.length _ (fun k hk => ?_) ⟨.inl (), by simp [boundary_Check_l4]⟩
    simp only [boundary_Check_l4]
    rw [show decide ((k : Int) < (b.length : Int)) = true by simp; exact hk, cond_true, req_pos (by omega)]
    rcases bcases ((decide ((ix b (k : Int)) < (0 : Int))) || (decide ((IntKind.i64.wrap (most + (1 : Int))) < (ix b (k : Int))))) with he | he <;> rw [he]
    · exact .inl ⟨_, rfl⟩
    · rw [cond_false, i64_add1 k (by omega)]; exact .inr rfl
  obtain ⟨r, hr⟩ := h1
  rw [hr, sbx]
  rcases r with _ | r
  · have h2 : ∃ r, iter (boundary_Check_l2 b) (1 : Int) = some r := by
      have key : ∀ (m k : Nat), b.length - k = m → 1 ≤ k → ∃ r, iter (boundary_Check_l2 b) (k : Int) = some r := by
        intro m
        induction m with
        | zero =>
          intro k h1 h2
          refine ⟨.inl (), iter_inr ?_⟩
          simp only [boundary_Check_l2]
          rw [show decide ((k : Int) < (b.length : Int)) = false by simp; omega, cond_false]
        | succ m ih =>
          intro k h1 h2
          rcases bcases (decide ((ix b ((k : Int) - 1)) < (ix b (k : Int)))) with he | he
          · refine ⟨.inr 43, iter_inr ?_⟩
            simp only [boundary_Check_l2]
            rw [show decide ((k : Int) < (b.length : Int)) = true by simp; omega, cond_true, wrap64 (n := (k : Int) - 1) (by omega) (by omega), req_pos (by omega), he, cond_true]
          · have : boundary_Check_l2 b (k : Int) = some (.inl ((k + 1 : Nat) : Int)) := by
              simp only [boundary_Check_l2]
              rw [show decide ((k : Int) < (b.length : Int)) = true by simp; omega, cond_true, wrap64 (n := (k : Int) - 1) (by omega) (by omega), req_pos (by omega), he, cond_false, i64_add1 k (by omega)]
            rw [iter_inl this]
            exact ih (k + 1) (by omega) (by omega)
      exact key _ 1 rfl (by omega)
    obtain ⟨r, hr⟩ := h2
    dsimp only
    unfold boundary_Check_j3
    rw [hr, sbx]
    rcases r with _ | r
    · exact ⟨_, rfl⟩
    · exact ⟨_, rfl⟩
  · exact ⟨_, rfl⟩
theorem in36 (n lo hi : Int) : ref36_in n lo hi = some (decide (lo ≤ n) && decide (n ≤ hi)) := rfl
theorem cond36 (P W M : Int) : (((((decide (P < (0 : Int))) || (decide ((31 : Int) < P))) || (decide (W < (1 : Int)))) || (decide ((1000 : Int) < W))) || (!(decide (1 ≤ M) && decide (M ≤ 200)))) = (((!(decide (0 ≤ P) && decide (P ≤ 31))) || (!(decide (1 ≤ W) && decide (W ≤ 1000)))) || (!(decide (1 ≤ M) && decide (M ≤ 200)))) := by
  congr 1
  rw [Bool.eq_iff_iff]; simp <;> omega
def uBad (u : api_Unit) : Bool := (((!(decide (0 ≤ u.Paper) && decide (u.Paper ≤ 31))) || (!(decide (1 ≤ u.Weight) && decide (u.Weight ≤ 1000)))) || (!(decide (1 ≤ u.Max) && decide (u.Max ≤ 200))))
theorem chk_step (a : api_Award) : aggregate_Check_l2 a = ref36_Check_l2 a := by
  funext v
  simp only [aggregate_Check_l2, ref36_Check_l2, isScore_eq, in36, sbx, Option.isSome_some, Option.getD_some, implies_true, and_self, req_true, cond36]
theorem chk36 (a : api_Award) : aggregate_Check a = ref36_Check a := by
  unfold aggregate_Check ref36_Check aggregate_Check_j1 ref36_Check_j1
  rw [chk_step, isScore_eq, in36, sbx, sbx, b35]
  rw [len0]
  rfl
theorem chk_at (a : api_Award) (k : Nat) (hk : k < a.Units.length) (hl : a.Units.length ≤ 1000) : (∃ r, aggregate_Check_l2 a (k : Int) = some (.inr (.inr r)) ∧ r ≠ 0) ∨ (aggregate_Check_l2 a (k : Int) = some (.inl ((k + 1 : Nat) : Int)) ∧ uBad a.Units[k] = false) := by
  rw [chk_step]
  simp only [ref36_Check_l2, in36, sbx, Option.isSome_some, Option.getD_some, implies_true, and_self, req_true]
  rw [show decide ((k : Int) < (a.Units.length : Int)) = true by simp; exact hk, cond_true, req_pos (by omega), ix_nat a.Units k hk]
  change (∃ r, (bif uBad a.Units[k] then _ else _) = _ ∧ _) ∨ ((bif uBad a.Units[k] then _ else _) = _ ∧ _)
  rcases bcases (uBad a.Units[k]) with hc | hc <;> rw [hc]
  · exact .inl ⟨2, rfl, by decide⟩
  rw [cond_false, req_pos (fun h => by have h' : (0 : Int) < (k : Int) := by simpa using h
                                       rw [wrap64 (by omega) (by omega)]; omega)]
  rcases bcases ((decide ((0 : Int) < (k : Int))) && (decide (a.Units[k].Paper ≤ (ix a.Units (IntKind.i64.wrap ((k : Int) - (1 : Int)))).Paper))) with hd | hd <;> rw [hd]
  · exact .inl ⟨43, rfl, by decide⟩
  · rw [cond_false, i64_add1 k (by omega)]; exact .inr ⟨rfl, rfl⟩
structure AG (a : api_Award) : Prop where
  l0 : 1 ≤ a.Units.length
  l1 : a.Units.length ≤ 6
  u : ∀ k (h : k < a.Units.length), 1 ≤ a.Units[k].Weight ∧ a.Units[k].Weight ≤ 1000 ∧ 1 ≤ a.Units[k].Max ∧ a.Units[k].Max ≤ 200
  m0 : 1 ≤ a.Max
  m1 : a.Max ≤ 200
theorem chk_some (a : api_Award) (hl : a.Units.length ≤ 1000) (hb : a.Bounds.length ≤ 1000) : ∃ c, aggregate_Check a = some c ∧ (c = 0 → AG a) := by
  unfold aggregate_Check
  rcases bcases ((decide ((a.Units.length : Int) < (1 : Int))) || (decide ((6 : Int) < (a.Units.length : Int)))) with hc | hc <;> rw [hc]
  · exact ⟨3, rfl, fun h => absurd h (by decide)⟩
  simp only [Bool.or_eq_false_iff, decide_eq_false_iff_not] at hc
  rw [cond_false]
  obtain ⟨r, hr⟩ := iter_some a.Units.length (aggregate_Check_l2 a) (fun k hk => by
    rcases chk_at a k hk hl with ⟨r, h, _⟩ | ⟨h, _⟩
    · exact .inl ⟨_, h⟩
    · exact .inr h) ⟨.inl (), by simp [aggregate_Check_l2]⟩
  rw [hr, sbx]
  rcases r with _ | r
  · have hall := iter_all a.Units.length (aggregate_Check_l2 a) (fun k hk => by
      rcases chk_at a k hk hl with ⟨r, h, _⟩ | ⟨h, _⟩
      · exact .inl ⟨_, h⟩
      · exact .inr h) hr
    dsimp only
    unfold aggregate_Check_j1
    rw [isScore_eq, sbx]
    rcases bcases (!(decide (1 ≤ a.Max) && decide (a.Max ≤ 200))) with hd | hd <;> rw [hd]
    · exact ⟨2, rfl, fun h => absurd h (by decide)⟩
    rw [cond_false]
    obtain ⟨c, hcc⟩ := b35_some a.Bounds a.Max hb
    rw [hcc, sbx]
    simp only [Bool.not_eq_false', Bool.and_eq_true, decide_eq_true_eq] at hd
    refine ⟨c, rfl, fun _ => ⟨by omega, by omega, fun k hk => ?_, hd.1, hd.2⟩⟩
    rcases chk_at a k hk hl with ⟨r, h, _⟩ | ⟨_, h⟩
    · rw [hall k hk] at h; cases h
    · simp only [uBad, Bool.or_eq_false_iff, Bool.not_eq_false', Bool.and_eq_true, decide_eq_true_eq] at h
      omega
  · refine ⟨r, rfl, fun h0 => ?_⟩
    exfalso
    -- an error of the loop is not 0
    have key : ∀ (m k : Nat), a.Units.length - k = m → k ≤ a.Units.length → iter (aggregate_Check_l2 a) (k : Int) = some (.inr r) → r ≠ 0 := by
      intro m
      induction m with
      | zero =>
        intro k h1 h2 h3
        have : k = a.Units.length := by omega
        subst this
        rw [iter_inr (r := .inl ()) (by simp [aggregate_Check_l2])] at h3
        cases h3
      | succ m ih =>
        intro k h1 h2 h3
        rcases chk_at a k (by omega) hl with ⟨r', h, hne⟩ | ⟨h, _⟩
        · rw [iter_inr h] at h3
          cases h3; exact hne
        · rw [iter_inl h] at h3
          exact ih (k + 1) (by omega) (by omega) h3
    exact key _ 0 rfl (by omega) hr h0

theorem cmp_flip (a b : api_Ratio) : decide (cmpR a b < 0) = decide (0 < cmpR b a) := by
  rw [Bool.eq_iff_iff, decide_eq_true_eq, decide_eq_true_eq]
  unfold cmpR
  by_cases h : vR a = true ∧ vR b = true
  · rw [if_pos h, if_pos ⟨h.2, h.1⟩]
    unfold cmpI
    generalize a.Num * b.Den = p
    generalize b.Num * a.Den = q
    split <;> split <;> (try split) <;> omega
  · rw [if_neg h, if_neg (fun g => h ⟨g.2, g.1⟩)]
def okM (u : api_Unit) (m : api_UnitMark) : Bool :=
  if m.Kind = 0 then !(((!(vR m.Value)) || decide (m.Value.Num < 0)) || decide (0 < cmpR m.Value ⟨u.Max, 1⟩))
  else (decide (1 ≤ m.Kind) && decide (m.Kind ≤ 3)) && ((m.Value.Num == 0) && (m.Value.Den == 1))
theorem fit_at (a : api_Award) (l : List api_UnitMark) (hul : l.length = a.Units.length) (hl : l.length ≤ 1000) (k : Nat) (hk : k < l.length) :
    aggregate_fit_l4 a l (k : Int) = some (if okM (a.Units[k]'(by omega)) l[k] = true then .inl ((k + 1 : Nat) : Int) else .inr (.inr false)) := by
  have hk' : k < a.Units.length := by omega
  simp only [aggregate_fit_l4, aggregate_fit_j2, aggregate_fit_j3]
  rw [show decide ((k : Int) < (l.length : Int)) = true by simp; exact hk, cond_true, req_pos (by omega), ix_nat l k hk, i64_add1 k (by omega)]
  generalize l[k] = m
  by_cases h0 : m.Kind = 0
  · rw [show (m.Kind == 0) = true by simpa using h0, cond_true, req_pos (by omega), ix_nat a.Units k hk', Valid_eq, sbx, Compare_eq]
    simp only [Option.isSome_some, implies_true, req_true, Option.getD_some]
    unfold okM
    rw [if_pos h0]
    rcases bcases (((!(vR m.Value)) || decide (m.Value.Num < 0)) || decide (0 < cmpR m.Value ⟨a.Units[k].Max, 1⟩)) with hc | hc <;> rw [hc] <;> rfl
  · rw [show (m.Kind == 0) = false by simpa using h0, cond_false]
    unfold okM
    rw [if_neg h0]
    by_cases h1 : m.Kind = 1
    · rw [show (m.Kind == 1) = true by simpa using h1, cond_true, cond_true, show (decide (1 ≤ m.Kind) && decide (m.Kind ≤ 3)) = true by simp; omega, Bool.true_and]
      rcases bcases ((m.Value.Num == 0) && (m.Value.Den == 1)) with hc | hc <;> rw [hc] <;> rfl
    rw [show (m.Kind == 1) = false by simpa using h1, cond_false]
    by_cases h2 : m.Kind = 2
    · rw [show (m.Kind == 2) = true by simpa using h2, cond_true, cond_true, show (decide (1 ≤ m.Kind) && decide (m.Kind ≤ 3)) = true by simp; omega, Bool.true_and]
      rcases bcases ((m.Value.Num == 0) && (m.Value.Den == 1)) with hc | hc <;> rw [hc] <;> rfl
    rw [show (m.Kind == 2) = false by simpa using h2, cond_false]
    by_cases h3 : m.Kind = 3
    · rw [show (m.Kind == 3) = true by simpa using h3, cond_true, show (decide (1 ≤ m.Kind) && decide (m.Kind ≤ 3)) = true by simp; omega, Bool.true_and]
      rcases bcases ((m.Value.Num == 0) && (m.Value.Den == 1)) with hc | hc <;> rw [hc] <;> rfl
    · rw [show (m.Kind == 3) = false by simpa using h3, cond_false, show (decide (1 ≤ m.Kind) && decide (m.Kind ≤ 3)) = false by simp; omega, Bool.false_and]
      rfl
theorem Fit_at (a : api_Award) (l : List api_UnitMark) (hul : l.length = a.Units.length) (hl : l.length ≤ 1000) (ag : AG a) (k : Nat) (hk : k < l.length) :
    ref36_Fit_l2 a l (k : Int) = some (if okM (a.Units[k]'(by omega)) l[k] = true then .inl ((k + 1 : Nat) : Int) else .inr (.inr false)) := by
  have hk' : k < a.Units.length := by omega
  have hu := ag.u k hk'
  simp only [ref36_Fit_l2]
  rw [show decide ((k : Int) < (l.length : Int)) = true by simp; exact hk, cond_true, req_pos (by omega), req_pos (by omega), ix_nat l k hk, i64_add1 k (by omega), in36, sbx]
  generalize l[k] = m
  unfold okM
  rw [req_pos (by omega), ValidR_eq, sbx, LessR_eq, ix_nat a.Units k hk']
  simp only [Option.isSome_some, implies_true, and_true, Option.getD_some, cmp_flip]
  rw [req_pos (fun _ => by omega)]
  by_cases h0 : m.Kind = 0
  · rw [if_pos h0, h0, show (!(decide ((0 : Int) ≤ 0) && decide ((0 : Int) ≤ 3))) = false by decide, cond_false, show ((0 : Int) != 0) = false by decide, Bool.false_and, cond_false]
    rcases bcases (((!(vR m.Value)) || decide (m.Value.Num < 0)) || decide (0 < cmpR m.Value ⟨a.Units[k].Max, 1⟩)) with hc | hc <;> rw [hc] <;> rfl
  · rw [if_neg h0]
    by_cases h1 : 1 ≤ m.Kind ∧ m.Kind ≤ 3
    · rw [show (!(decide ((0 : Int) ≤ m.Kind) && decide (m.Kind ≤ 3))) = false by simp; omega, cond_false, show (m.Kind != 0) = true by simpa using h0, Bool.true_and, show (decide (1 ≤ m.Kind) && decide (m.Kind ≤ 3)) = true by simp; omega, Bool.true_and]
      rcases bcases ((m.Value.Num == 0) && (m.Value.Den == 1)) with hc | hc <;> rw [hc]
      · simp only [Bool.and_eq_true, beq_iff_eq] at hc
        have hv : m.Value = ⟨0, 1⟩ := (show m.Value = ⟨m.Value.Num, m.Value.Den⟩ from rfl).trans (by rw [hc.1, hc.2])
        rw [hv, show vR ⟨0, 1⟩ = true from v_one 0 (by omega) (by omega)]
        have : cmpR ⟨0, 1⟩ ⟨a.Units[k].Max, 1⟩ = -1 := by
          unfold cmpR
          rw [if_pos ⟨v_one 0 (by omega) (by omega), v_one _ (by omega) (by omega)⟩]
          unfold cmpI
          rw [if_pos (by dsimp only; omega)]
        rw [this]
        rfl
      · rfl
    · rw [show (!(decide ((0 : Int) ≤ m.Kind) && decide (m.Kind ≤ 3))) = true by simp; omega, cond_true, show (decide (1 ≤ m.Kind) && decide (m.Kind ≤ 3)) = false by simp; omega, Bool.false_and]
      rfl
theorem fit36 (a : api_Award) (l : List api_UnitMark) (hl : l.length ≤ 1000) (ag : AG a) : ∃ b, aggregate_fit a l = some b ∧ ref36_Fit a l = some b ∧ (b = true → l.length = a.Units.length ∧ ∀ k (h : k < l.length), 0 ≤ l[k].Kind ∧ l[k].Kind ≤ 3) := by
  unfold aggregate_fit ref36_Fit
  by_cases hul : l.length = a.Units.length
  · rw [show ((l.length : Int) != (a.Units.length : Int)) = false by simp; omega, cond_false, cond_false]
    have st : ∀ k : Nat, k < l.length → (∃ r, aggregate_fit_l4 a l (k : Int) = some (.inr (.inr r))) ∨ aggregate_fit_l4 a l (k : Int) = some (.inl ((k + 1 : Nat) : Int)) := fun k hk => by
      rw [fit_at a l hul hl k hk]
      split
      · exact .inr rfl
      · exact .inl ⟨_, rfl⟩
    obtain ⟨r, h1, h2⟩ := iter_same l.length (aggregate_fit_l4 a l) (ref36_Fit_l2 a l) (fun k hk => ⟨by rw [fit_at a l hul hl k hk, Fit_at a l hul hl ag k hk], by
      rcases st k hk with ⟨r, h⟩ | h
      · exact .inl ⟨_, h⟩
      · exact .inr h⟩) (by simp [aggregate_fit_l4, ref36_Fit_l2]) ⟨.inl (), by simp [aggregate_fit_l4]⟩
    rw [h1, h2, sbx, sbx]
    rcases r with _ | r
    · refine ⟨true, rfl, rfl, fun _ => ⟨hul, fun k hk => ?_⟩⟩
      have := iter_all l.length (aggregate_fit_l4 a l) st h1 k hk
      rw [fit_at a l hul hl k hk] at this
      split at this
      · rename_i ho
        unfold okM at ho
        split at ho
        · omega
        · simp only [Bool.and_eq_true, decide_eq_true_eq] at ho; omega
      · cases this
    · refine ⟨r, rfl, rfl, fun hr => ?_⟩
      exfalso
      have key : ∀ (m k : Nat), l.length - k = m → k ≤ l.length → iter (aggregate_fit_l4 a l) (k : Int) = some (.inr r) → r = false := by
        intro m
        induction m with
        | zero =>
          intro k g1 g2 g3
          have : k = l.length := by omega
          subst this
          rw [iter_inr (r := .inl ()) (by simp [aggregate_fit_l4])] at g3
          cases g3
        | succ m ih =>
          intro k g1 g2 g3
          have e := fit_at a l hul hl k (by omega)
          split at e
          · rw [iter_inl e] at g3
            exact ih (k + 1) (by omega) (by omega) g3
          · rw [iter_inr e] at g3
            cases g3; rfl
      have := key _ 0 rfl (by omega) h1
      rw [this] at hr; cases hr
  · rw [show ((l.length : Int) != (a.Units.length : Int)) = true by simp; omega, cond_true, cond_true]
    exact ⟨false, rfl, rfl, fun h => by cases h⟩
structure GM (a : api_Award) (l : List api_UnitMark) : Prop where
  ag : AG a
  ul : l.length = a.Units.length
  kd : ∀ k (h : k < l.length), 0 ≤ l[k].Kind ∧ l[k].Kind ≤ 2
theorem wl (a : api_Award) (l : List api_UnitMark) (g : GM a l) : ∀ (m k : Nat) (W : Int) (ts : List api_Ratio), l.length - k = m → k ≤ l.length → 0 ≤ W → W ≤ 1000 * k → ts.length ≤ k →
    (∃ W' ts', iter (aggregate_weighted_l3 a l) (W, (k : Int), ts) = some (.inl (W', ts')) ∧ iter (ref36_mean_l3 a l) (W, (k : Int), ts) = some (.inl (W', ts')) ∧ W ≤ W' ∧ W' ≤ 1000 * l.length ∧
      (((l.drop k).any counts) = true → 1 ≤ W') ∧ (((l.drop k).any counts) = false → W' = W)) ∨
    (∃ e, e ≠ 0 ∧ iter (aggregate_weighted_l3 a l) (W, (k : Int), ts) = some (.inr (⟨0, 0⟩, 0, e)) ∧ iter (ref36_mean_l3 a l) (W, (k : Int), ts) = some (.inr (0, ⟨0, 0⟩, e)) ∧ ((l.drop k).any counts) = true) := by
  have hl6 := g.ag.l1
  have hul := g.ul
  intro m
  induction m with
  | zero =>
    intro k W ts h1 h2 h3 h4 h5
    have hk : k = l.length := by omega
    subst hk
    left
    refine ⟨W, ts, iter_inr ?_, iter_inr ?_, by omega, h4, ?_, fun _ => rfl⟩
    · simp [aggregate_weighted_l3]
    · simp [ref36_mean_l3]
    · rw [List.drop_length]; intro h; cases h
  | succ m ih =>
    intro k W ts h1 h2 h3 h4 h5
    have hk : k < l.length := by omega
    have hk' : k < a.Units.length := by omega
    have hkd := g.kd k hk
    have hu := g.ag.u k hk'
    rw [List.drop_eq_getElem_cons hk, List.any_cons]
    by_cases h2k : l[k].Kind = 2
    · have e1 : aggregate_weighted_l3 a l (W, (k : Int), ts) = some (.inl (W, ((k + 1 : Nat) : Int), ts)) := by
        simp only [aggregate_weighted_l3, aggregate_weighted_j2]
        rw [show decide ((k : Int) < (l.length : Int)) = true by simp; exact hk, cond_true, req_pos (by omega), ix_nat l k hk, h2k, i64_add1 k (by omega)]
        rfl
      have e2 : ref36_mean_l3 a l (W, (k : Int), ts) = some (.inl (W, ((k + 1 : Nat) : Int), ts)) := by
        simp only [ref36_mean_l3, ref36_mean_j2]
        rw [show decide ((k : Int) < (l.length : Int)) = true by simp; exact hk, cond_true, req_pos (by omega), ix_nat l k hk, h2k, i64_add1 k (by omega)]
        rfl
      rw [iter_inl e1, iter_inl e2, show counts l[k] = false by unfold counts; rw [h2k]; rfl, Bool.false_or]
      exact ih (k + 1) W ts (by omega) (by omega) h3 (by omega) (by omega)
    · have hc : counts l[k] = true := by unfold counts; simp; omega
      rw [hc, Bool.true_or]
      obtain ⟨f, ef, vf, _, _⟩ := newOf_ok' a.Units[k].Weight a.Units[k].Max (by omega) (by omega) (by omega) (by omega)
      have hkk : ((l[k].Kind != 0) && (l[k].Kind != 1)) = false := by
        rw [Bool.eq_false_iff]; intro h; simp at h; omega
      have hk2 : (l[k].Kind == 2) = false := by simpa using h2k
      obtain ⟨x, e⟩ : ∃ x, mulOf l[k].Value f = x := ⟨_, rfl⟩
      obtain ⟨x, e0⟩ := x
      by_cases he : e0 = 0
      · subst he
        have e1 : aggregate_weighted_l3 a l (W, (k : Int), ts) = some (.inl (W + a.Units[k].Weight, ((k + 1 : Nat) : Int), ts ++ [x])) := by
          simp only [aggregate_weighted_l3, aggregate_weighted_j2]
          rw [show decide ((k : Int) < (l.length : Int)) = true by simp; exact hk, cond_true, req_pos (by omega), ix_nat l k hk, hkk, cond_false, req_pos (by omega), ix_nat a.Units k hk', New_eq _ _ ⟨by omega, by omega⟩ ⟨by omega, by omega⟩, ef, sbx]
          dsimp only
          rw [show ((0 : Int) != 0) = false by decide, cond_false, Mul_eq, e, sbx]
          dsimp only
          rw [show ((0 : Int) != 0) = false by decide, cond_false, req_pos (by simp; omega), i64_add1 k (by omega), wrap64 (by omega) (by omega)]
        have e2 : ref36_mean_l3 a l (W, (k : Int), ts) = some (.inl (W + a.Units[k].Weight, ((k + 1 : Nat) : Int), ts ++ [x])) := by
          simp only [ref36_mean_l3, ref36_mean_j2]
          rw [show decide ((k : Int) < (l.length : Int)) = true by simp; exact hk, cond_true, req_pos (by omega), ix_nat l k hk, hk2, cond_false, req_pos (by omega), req_pos (by omega), ix_nat a.Units k hk', NewR_eq _ _ ⟨by omega, by omega⟩ ⟨by omega, by omega⟩, ef, sbx]
          dsimp only
          rw [req_pos (by omega), MulR_eq, e, sbx]
          dsimp only
          rw [show ((0 : Int) != 0) = false by decide, cond_false, req_pos (by simp; omega), i64_add1 k (by omega), wrap64 (by omega) (by omega)]
        rw [iter_inl e1, iter_inl e2]
        rcases ih (k + 1) (W + a.Units[k].Weight) (ts ++ [x]) (by omega) (by omega) (by omega) (by omega) (by simp; omega) with ⟨W', ts', g1, g2, g3, g4, _, _⟩ | ⟨e', g1, g2, g3, _⟩
        · exact .inl ⟨W', ts', g1, g2, by omega, g4, fun _ => by omega, fun h => by cases h⟩
        · exact .inr ⟨e', g1, g2, g3, rfl⟩
      · right
        refine ⟨e0, he, iter_inr ?_, iter_inr ?_, rfl⟩
        · simp only [aggregate_weighted_l3, aggregate_weighted_j2]
          rw [show decide ((k : Int) < (l.length : Int)) = true by simp; exact hk, cond_true, req_pos (by omega), ix_nat l k hk, hkk, cond_false, req_pos (by omega), ix_nat a.Units k hk', New_eq _ _ ⟨by omega, by omega⟩ ⟨by omega, by omega⟩, ef, sbx]
          dsimp only
          rw [show ((0 : Int) != 0) = false by decide, cond_false, Mul_eq, e, sbx]
          dsimp only
          rw [show (e0 != 0) = true by simpa using he, cond_true]
        · simp only [ref36_mean_l3, ref36_mean_j2]
          rw [show decide ((k : Int) < (l.length : Int)) = true by simp; exact hk, cond_true, req_pos (by omega), ix_nat l k hk, hk2, cond_false, req_pos (by omega), req_pos (by omega), ix_nat a.Units k hk', NewR_eq _ _ ⟨by omega, by omega⟩ ⟨by omega, by omega⟩, ef, sbx]
          dsimp only
          rw [req_pos (by omega), MulR_eq, e, sbx]
          dsimp only
          rw [show (e0 != 0) = true by simpa using he, cond_true]
theorem wm (a : api_Award) (l : List api_UnitMark) (g : GM a l) (hc : isC l = true) : ∃ x W e, aggregate_weighted a l = some (x, W, e) ∧ ref36_mean a l = some (W, x, e) ∧ (e = 0 → 1 ≤ W ∧ W ≤ 6000) := by
  have hl6 := g.ag.l1
  have hul := g.ul
  unfold aggregate_weighted ref36_mean
  unfold isC at hc
  rcases wl a l g _ 0 0 [] rfl (by omega) (by omega) (by omega) (by simp) with ⟨W', ts', g1, g2, g3, g4, g5, _⟩ | ⟨e, h, g1, g2, _⟩
  · have hW := g5 (by simpa using hc)
    have g1' : iter (aggregate_weighted_l3 a l) ((0 : Int), (0 : Int), ([] : List api_Ratio)) = _ := g1
    have g2' : iter (ref36_mean_l3 a l) ((0 : Int), (0 : Int), ([] : List api_Ratio)) = _ := g2
    rw [g1', g2', sbx, sbx]
    dsimp only
    unfold aggregate_weighted_j1 ref36_mean_j1
    rw [show (W' == 0) = false by simp; omega, cond_false, Sum_eq, SumR_eq, sbx, sbx]
    exact ⟨(sumOf ts').1, W', (sumOf ts').2, rfl, rfl, fun _ => by omega⟩
  · have g1' : iter (aggregate_weighted_l3 a l) ((0 : Int), (0 : Int), ([] : List api_Ratio)) = _ := g1
    have g2' : iter (ref36_mean_l3 a l) ((0 : Int), (0 : Int), ([] : List api_Ratio)) = _ := g2
    rw [g1', g2', sbx, sbx]
    exact ⟨_, _, e, rfl, rfl, fun h0 => absurd h0 h⟩
theorem wm0 (a : api_Award) (l : List api_UnitMark) (g : GM a l) (hc : isC l = false) : ref36_mean a l = some (0, ⟨0, 0⟩, 10) := by
  unfold ref36_mean
  unfold isC at hc
  rcases wl a l g _ 0 0 [] rfl (by omega) (by omega) (by omega) (by simp) with ⟨W', ts', g1, g2, g3, g4, _, g6⟩ | ⟨e, h, g1, g2, g3⟩
  · have hW := g6 (by simpa using hc)
    have g2' : iter (ref36_mean_l3 a l) ((0 : Int), (0 : Int), ([] : List api_Ratio)) = _ := g2
    rw [g2', sbx]
    dsimp only
    unfold ref36_mean_j1
    rw [hW]; rfl
  · rw [List.drop_zero, hc] at g3; cases g3

theorem pend36 (l : List api_UnitMark) (hl : l.length ≤ 1000) : iter (ref36_Exact_l2 l) (0 : Int) = some (if (l.any fun m => m.Kind == 3) = true then .inr (⟨0, 0⟩, 8) else .inl ()) := by
  rw [← find_any]
  refine iter_scan l (ref36_Exact_l2 l) (fun m => m.Kind == 3) (fun _ => .inr (⟨0, 0⟩, 8)) (.inl ()) (fun k hk => ?_) (by simp [ref36_Exact_l2])
  simp only [ref36_Exact_l2]
  rw [show decide ((k : Int) < (l.length : Int)) = true by simp; exact hk, cond_true, req_pos (by omega), ix_nat l k hk, i64_add1 k (by omega)]
  rcases bcases (l[k].Kind == 3) with h | h <;> rw [h] <;> rfl
theorem less_eq (a b : api_Ratio) : (cmpR a b == -1) = decide (cmpR a b < 0) := by
  rw [Bool.eq_iff_iff, beq_iff_eq, decide_eq_true_eq]
  unfold cmpR cmpI
  split
  · split <;> (try split) <;> omega
  · omega
theorem no3 (l : List api_UnitMark) (hk : ∀ k (h : k < l.length), 0 ≤ l[k].Kind ∧ l[k].Kind ≤ 3) (hp : (l.any fun m => m.Kind == 3) = false) : ∀ k (h : k < l.length), 0 ≤ l[k].Kind ∧ l[k].Kind ≤ 2 := by
  intro k h
  have h1 := hk k h
  have h2 : ¬ l[k].Kind = 3 := fun e => by
    have := List.any_eq_false.1 hp l[k] (List.getElem_mem h)
    simp [e] at this
  omega
theorem scaled36 (a : api_Award) (l : List api_UnitMark) (most : Int) (x : api_Ratio) (W : Int) (h : aggregate_weighted a l = some (x, W, 0)) (m0 : 1 ≤ most) (m1 : most ≤ 200) (w0 : 1 ≤ W) (w1 : W ≤ 6000) :
    ∃ f, newOf most W = (f, 0) ∧ aggregate_scaled a l most = some (mulOf x f) := by
  obtain ⟨f, ef, _, _, _⟩ := newOf_ok' most W (by omega) (by omega) (by omega) (by omega)
  refine ⟨f, ef, ?_⟩
  unfold aggregate_scaled
  rw [h, sbx]
  try dsimp only
  rw [show ((0 : Int) != 0) = false by decide, cond_false, New_eq _ _ ⟨by omega, by omega⟩ ⟨by omega, by omega⟩, ef, sbx]
  try dsimp only
  rw [show ((0 : Int) != 0) = false by decide, cond_false, Mul_eq, sbx]
theorem exact36 (a : api_Award) (l : List api_UnitMark) (s : Int) (hl : l.length ≤ 1000) (hu : a.Units.length ≤ 1000) (hb : a.Bounds.length ≤ 1000) :
    ∃ r, aggregate_Exact a l s = some r ∧ ref36_Exact a l s = some r ∧ (r.2 = 0 → AG a ∧ ∃ x W, aggregate_weighted a l = some (x, W, 0) ∧ ref36_mean a l = some (W, x, 0) ∧ 1 ≤ W ∧ W ≤ 6000) := by
  unfold aggregate_Exact ref36_Exact aggregate_checkMarks
  obtain ⟨c, hc, hag⟩ := chk_some a hu hb
  rw [← chk36, hc, sbx, sbx]
  by_cases c0 : c = 0
  · subst c0
    have ag := hag rfl
    obtain ⟨b, f1, f2, fk⟩ := fit36 a l hl ag
    rw [f1, f2]
    simp only [Option.isSome_some, implies_true, req_true, Option.getD_some]
    rw [show ((0 : Int) != 0) = false by decide, Bool.false_or]
    cases b with
    | false => exact ⟨(⟨0, 0⟩, 1), rfl, rfl, fun h => absurd h (by decide)⟩
    | true =>
      obtain ⟨hul, hk⟩ := fk rfl
      rw [Bool.not_true, cond_false, cond_false, in36, sbx]
      by_cases hs : 0 ≤ s ∧ s ≤ 50
      · rw [show (decide (s < (0 : Int)) || decide ((50 : Int) < s)) = false by simp; omega, cond_false, sbx, show (!(decide ((0 : Int) ≤ s) && decide (s ≤ 50))) = false by simp; omega, cond_false, show ((0 : Int) != 0) = false by decide, cond_false, has_loop l 3 hl, sbx, pend36 l hl, sbx]
        rcases bcases (l.any fun m => m.Kind == 3) with hp | hp <;> rw [hp]
        · exact ⟨(⟨0, 0⟩, 8), rfl, rfl, fun h => absurd h (by decide)⟩
        rw [cond_false, if_neg (by decide)]
        have g : GM a l := ⟨ag, hul, no3 l hk hp⟩
        try dsimp only
        rw [has_loop l 0 hl, sbx, has_loop l 1 hl]
        simp only [Option.isSome_some, implies_true, req_true, Option.getD_some]
        rw [← Bool.not_or, any_counts]
        unfold ref36_Exact_j1
        rcases bcases (l.any counts) with hC | hC <;> rw [hC]
        · rw [Bool.not_true, cond_false]
          obtain ⟨x, W, e, w1, w2, w3⟩ := wm a l g hC
          rw [w2, sbx]
          try dsimp only
          by_cases e0 : e = 0
          · subst e0
            obtain ⟨W0, W1⟩ := w3 rfl
            have m0 := ag.m0; have m1 := ag.m1
            obtain ⟨f, ef, es⟩ := scaled36 a l a.Max x W w1 m0 m1 W0 W1
            have hsm : 0 ≤ s * a.Max ∧ s * a.Max ≤ 50 * 200 := ⟨Int.mul_nonneg hs.1 (by omega), Int.mul_le_mul hs.2 m1 (by omega) (by omega)⟩
            obtain ⟨q, eq, _, _, _⟩ := newOf_ok' (s * a.Max) 1000 (by omega) (by omega) (by omega) (by omega)
            rw [es, sbx, show ((0 : Int) != 0) = false by decide, cond_false, NewR_eq _ _ ⟨by omega, by omega⟩ ⟨by omega, by omega⟩, ef, sbx]
            try dsimp only
            rw [MulR_eq, sbx]
            try dsimp only
            generalize mulOf x f = y
            obtain ⟨y, e2⟩ := y
            try dsimp only
            by_cases h2 : e2 = 0
            · subst h2
              rw [show ((0 : Int) != 0) = false by decide, cond_false, cond_false, wrap64 (n := s * a.Max) (by omega) (by omega), New_eq _ _ ⟨by omega, by omega⟩ ⟨by omega, by omega⟩, NewR_eq _ _ ⟨by omega, by omega⟩ ⟨by omega, by omega⟩, eq, sbx, sbx]
              try dsimp only
              rw [show ((0 : Int) != 0) = false by decide, cond_false, Add_eq, AddR_eq, sbx, sbx]
              generalize addOf2 y q = z
              obtain ⟨z, e3⟩ := z
              try dsimp only
              by_cases h3 : e3 = 0
              · subst h3
                rw [show ((0 : Int) != 0) = false by decide, cond_false, cond_false, Less_eq, LessR_eq, sbx, sbx, less_eq]
                rcases bcases (decide (cmpR ⟨a.Max, 1⟩ z < 0)) with h4 | h4 <;> rw [h4]
                · exact ⟨_, rfl, rfl, fun _ => ⟨ag, x, W, w1, rfl, W0, W1⟩⟩
                · exact ⟨_, rfl, rfl, fun _ => ⟨ag, x, W, w1, rfl, W0, W1⟩⟩
              · rw [show (e3 != 0) = true by simpa using h3, cond_true, cond_true]
                exact ⟨_, rfl, rfl, fun h => absurd h h3⟩
            · rw [show (e2 != 0) = true by simpa using h2, cond_true, cond_true]
              exact ⟨_, rfl, rfl, fun h => absurd h h2⟩
          · rw [show (e != 0) = true by simpa using e0, cond_true]
            have : aggregate_scaled a l a.Max = some (⟨0, 0⟩, e) := by
              unfold aggregate_scaled
              rw [w1, sbx]
              try dsimp only
              rw [show (e != 0) = true by simpa using e0, cond_true]
            rw [this, sbx]
            try dsimp only
            rw [show (e != 0) = true by simpa using e0, cond_true]
            exact ⟨_, rfl, rfl, fun h => absurd h e0⟩
        · rw [Bool.not_false, cond_true, wm0 a l g hC, sbx]
          exact ⟨(⟨0, 0⟩, 10), rfl, rfl, fun h => absurd h (by decide)⟩
      · rw [show (decide (s < (0 : Int)) || decide ((50 : Int) < s)) = true by simp; omega, cond_true, sbx, show (!(decide ((0 : Int) ≤ s) && decide (s ≤ 50))) = true by simp; omega, cond_true]
        exact ⟨(⟨0, 0⟩, 2), rfl, rfl, fun h => absurd h (by decide)⟩
  · have hc1 : (c != 0) = true := by simpa using c0
    rw [hc1]
    simp only [Bool.not_true, Bool.true_or, cond_true, Bool.false_eq_true, false_implies, req_true, sbx]
    exact ⟨(⟨0, 0⟩, 1), rfl, rfl, fun h => absurd h (by decide)⟩
theorem total36 (a : api_Award) (l : List api_UnitMark) (s : Int) (hl : l.length ≤ 1000) (hu : a.Units.length ≤ 1000) (hb : a.Bounds.length ≤ 1000) :
    ∃ r, aggregate_Total a l s = some r ∧ ref36_Total a l s = some r := by
  obtain ⟨⟨x, e⟩, h1, h2, _⟩ := exact36 a l s hl hu hb
  unfold aggregate_Total ref36_Total
  rw [h1, h2, sbx, sbx]
  try dsimp only
  rcases bcases (e != 0) with h | h <;> rw [h]
  · exact ⟨_, rfl, rfl⟩
  · rw [cond_false, cond_false, Round_eq, RoundR_eq]
    exact ⟨_, rfl, rfl⟩
theorem dec_loop (l : List api_UnitMark) (hl : l.length ≤ 1000) : ∀ (m k : Nat) (t : Bool), l.length - k = m → k ≤ l.length →
    iter (ref36_Decide_l2 l) (t, (k : Int)) = some (if ((l.drop k).any fun m => m.Kind == 3) = true then .inr (2, 0, 0, 0) else .inl (t || (l.drop k).any fun m => m.Kind == 0)) := by
  intro m
  induction m with
  | zero =>
    intro k t h1 h2
    have : k = l.length := by omega
    subst this
    rw [iter_inr (r := .inl t) (by simp [ref36_Decide_l2])]
    simp
  | succ m ih =>
    intro k t h1 h2
    have hk : k < l.length := by omega
    rw [List.drop_eq_getElem_cons hk, List.any_cons, List.any_cons]
    rcases bcases (l[k].Kind == 3) with h | h
    · rw [iter_inr (r := .inr (2, 0, 0, 0)) (by
        simp only [ref36_Decide_l2]
        rw [show decide ((k : Int) < (l.length : Int)) = true by simp; exact hk, cond_true, req_pos (by omega), ix_nat l k hk, h, cond_true])]
      rw [h, Bool.true_or, if_pos rfl]
    · rw [iter_inl (s' := (t || (l[k].Kind == 0), ((k + 1 : Nat) : Int))) (by
        simp only [ref36_Decide_l2]
        rw [show decide ((k : Int) < (l.length : Int)) = true by simp; exact hk, cond_true, req_pos (by omega), ix_nat l k hk, h, cond_false, req_pos (fun _ => by omega), i64_add1 k (by omega)])]
      rw [ih (k + 1) _ (by omega) (by omega), h, Bool.false_or, Bool.or_assoc]
theorem grade36 (b : List Int) (m : Int) : ref35_Grade b m = boundary_Grade b m := rfl
theorem decide36 (a : api_Award) (l : List api_UnitMark) (s : Int) (hl : l.length ≤ 1000) (hu : a.Units.length ≤ 1000) (hb : a.Bounds.length ≤ 1000) :
    ∃ r, aggregate_Decide a l s = some r ∧ ref36_Decide a l s = some r := by
  unfold aggregate_Decide ref36_Decide aggregate_checkMarks
  obtain ⟨c, hc, hag⟩ := chk_some a hu hb
  rw [← chk36, hc, sbx, sbx]
  by_cases c0 : c = 0
  · subst c0
    have ag := hag rfl
    obtain ⟨b, f1, f2, fk⟩ := fit36 a l hl ag
    rw [f1, f2]
    simp only [Option.isSome_some, implies_true, req_true, Option.getD_some]
    rw [show ((0 : Int) != 0) = false by decide, Bool.false_or]
    cases b with
    | false => exact ⟨(0, 0, 0, 1), rfl, rfl⟩
    | true =>
      rw [Bool.not_true, cond_false, cond_false, in36, sbx]
      by_cases hs : 0 ≤ s ∧ s ≤ 50
      · have hd := dec_loop l hl _ 0 false rfl (by omega)
        have hd' : iter (ref36_Decide_l2 l) (false, (0 : Int)) = _ := hd
        rw [show (decide (s < (0 : Int)) || decide ((50 : Int) < s)) = false by simp; omega, cond_false, sbx, show (!(decide ((0 : Int) ≤ s) && decide (s ≤ 50))) = false by simp; omega, cond_false, show ((0 : Int) != 0) = false by decide, cond_false, has_loop l 3 hl, sbx, hd', sbx, List.drop_zero]
        rcases bcases (l.any fun m => m.Kind == 3) with hp | hp <;> rw [hp]
        · exact ⟨(2, 0, 0, 0), rfl, rfl⟩
        rw [cond_false, if_neg (by decide), has_loop l 0 hl, sbx, Bool.false_or]
        try dsimp only
        unfold ref36_Decide_j1
        rcases bcases (l.any fun m => m.Kind == 0) with h0 | h0 <;> rw [h0]
        · rw [Bool.not_true, cond_false, cond_false]
          obtain ⟨⟨x, e⟩, t1, t2⟩ := total36 a l s hl hu hb
          rw [t1, t2, sbx, sbx]
          try dsimp only
          rcases bcases (e != 0) with he | he <;> rw [he]
          · exact ⟨_, rfl, rfl⟩
          · rw [cond_false, cond_false, grade36, Grade_eq _ _ hb]
            exact ⟨_, rfl, rfl⟩
        · exact ⟨(1, 0, 0, 0), rfl, rfl⟩
      · rw [show (decide (s < (0 : Int)) || decide ((50 : Int) < s)) = true by simp; omega, cond_true, sbx, show (!(decide ((0 : Int) ≤ s) && decide (s ≤ 50))) = true by simp; omega, cond_true]
        exact ⟨(0, 0, 0, 2), rfl, rfl⟩
  · have hc1 : (c != 0) = true := by simpa using c0
    rw [hc1]
    simp only [Bool.not_true, Bool.true_or, cond_true, Bool.false_eq_true, false_implies, req_true, sbx]
    exact ⟨(0, 0, 0, 1), rfl, rfl⟩
theorem estimate36 (a : api_Award) (l : List api_UnitMark) (u : Int) (hl : l.length ≤ 1000) (hu : a.Units.length ≤ 1000) (hb : a.Bounds.length ≤ 1000) :
    ∃ r, aggregate_Estimate a l u = some r ∧ ref36_Estimate a l u = some r := by
  unfold aggregate_Estimate ref36_Estimate
  rcases bcases ((decide (u < (0 : Int))) || (decide ((a.Units.length : Int) ≤ u))) with h | h <;> rw [h]
  · exact ⟨_, rfl, rfl⟩
  rw [cond_false, cond_false]
  simp only [Bool.or_eq_false_iff, decide_eq_false_iff_not] at h
  obtain ⟨⟨x, e⟩, h1, h2, h3⟩ := exact36 a l 0 hl hu hb
  rw [h1, h2, sbx, sbx]
  try dsimp only
  by_cases e0 : e = 0
  · subst e0
    obtain ⟨ag, y, W, w1, w2, W0, W1⟩ := h3 rfl
    rw [show ((0 : Int) != 0) = false by decide, cond_false, cond_false, w2, sbx]
    try dsimp only
    rw [req_pos (by omega), req_pos (by omega)]
    obtain ⟨k, rfl⟩ : ∃ k : Nat, u = k := ⟨u.toNat, by omega⟩
    have hk : k < a.Units.length := by omega
    have hm := ag.u k hk
    rw [ix_nat a.Units k hk]
    obtain ⟨f, ef, es⟩ := scaled36 a l a.Units[k].Max y W w1 (by omega) (by omega) W0 W1
    rw [es, NewR_eq _ _ ⟨by omega, by omega⟩ ⟨by omega, by omega⟩, ef, sbx, sbx]
    try dsimp only
    rw [MulR_eq, sbx]
    exact ⟨_, rfl, rfl⟩
  · rw [show (e != 0) = true by simpa using e0, cond_true, cond_true]
    exact ⟨_, rfl, rfl⟩
theorem iter_up {ρ : Type} (n : Nat) (f : Int → Option (Int ⊕ ρ)) (r : ρ) (h : ∀ k : Nat, k < n → f (k : Int) = some (.inl ((k + 1 : Nat) : Int))) (hn : f (n : Int) = some (.inr r)) : iter f (0 : Int) = some r := by
  have key : ∀ (m k : Nat), n - k = m → k ≤ n → iter f (k : Int) = some r := by
    intro m
    induction m with
    | zero => intro k h1 h2; have : k = n := by omega
              subst this; exact iter_inr hn
    | succ m ih => intro k h1 h2; rw [iter_inl (h k (by omega))]; exact ih (k + 1) (by omega) (by omega)
  exact key _ 0 rfl (by omega)
def shA (a : api_Award) : Prop := a.Units.length ≤ 1000 ∧ a.Bounds.length ≤ 1000
theorem x_l4 (raw : api_Award) (marks : List api_UnitMark) (unit : Int) (y5 : api_Award) (y7 w : List api_UnitMark) (y12 : api_Award) (v v1 y16 : Int) (hA : shA (ix [y5, y12, raw] v)) (hM : (ix [y7, w, marks] v1).length ≤ 1000) :
    iter (law36_AggregateExact_l4 raw marks unit y5 y7 w y12 v v1 y16) (0 : Int) = some (.inl ()) := by
  refine iter_up 2 _ _ (fun k hk => ?_) (by simp [law36_AggregateExact_l4])
  simp only [law36_AggregateExact_l4]
  obtain ⟨r, h1, h2⟩ := estimate36 (ix [y5, y12, raw] v) (ix [y7, w, marks] v1) (ix [unit, (IntKind.i64.wrap (y16 - (1 : Int)))] (k : Int)) hM hA.1 hA.2
  rw [show decide ((k : Int) < (2 : Int)) = true by simp; omega, cond_true, req_pos (by omega), h1, h2, sbx, sbx]
  try dsimp only
  rw [show ((!((r.1.Num == r.1.Num) && (r.1.Den == r.1.Den))) || (r.2 != r.2)) = false by simp, cond_false, i64_add1 k (by omega)]
theorem x_l6 (raw : api_Award) (marks : List api_UnitMark) (special : Int) (y5 : api_Award) (y7 w : List api_UnitMark) (y12 : api_Award) (v v1 y22 : Int) (hA : shA (ix [y5, y12, raw] v)) (hM : (ix [y7, w, marks] v1).length ≤ 1000) :
    iter (law36_AggregateExact_l6 raw marks special y5 y7 w y12 v v1 y22) (0 : Int) = some (.inl ()) := by
  refine iter_up 3 _ _ (fun k hk => ?_) (by simp [law36_AggregateExact_l6])
  simp only [law36_AggregateExact_l6]
  obtain ⟨r, h1, h2, _⟩ := exact36 (ix [y5, y12, raw] v) (ix [y7, w, marks] v1) (ix [special, y22, (0 : Int)] (k : Int)) hM hA.1 hA.2
  obtain ⟨q, h3, h4⟩ := total36 (ix [y5, y12, raw] v) (ix [y7, w, marks] v1) (ix [special, y22, (0 : Int)] (k : Int)) hM hA.1 hA.2
  obtain ⟨z, h5, h6⟩ := decide36 (ix [y5, y12, raw] v) (ix [y7, w, marks] v1) (ix [special, y22, (0 : Int)] (k : Int)) hM hA.1 hA.2
  rw [show decide ((k : Int) < (3 : Int)) = true by simp; omega, cond_true, req_pos (by omega), h1, h2, sbx, sbx, h3, h4, sbx, sbx, h5, h6, sbx, sbx]
  try dsimp only
  rw [show ((((((((!((r.1.Num == r.1.Num) && (r.1.Den == r.1.Den))) || (r.2 != r.2)) || (q.1 != q.1)) || (q.2 != q.2)) || (z.1 != z.1)) || (z.2.1 != z.2.1)) || (z.2.2.1 != z.2.2.1)) || (z.2.2.2 != z.2.2.2)) = false by simp, cond_false, i64_add1 k (by omega)]
theorem x_l7 (raw : api_Award) (marks : List api_UnitMark) (special unit : Int) (y5 : api_Award) (y7 w : List api_UnitMark) (y12 : api_Award) (v : Int) (hA : shA (ix [y5, y12, raw] v)) (hM : ∀ k : Nat, k < 3 → (ix [y7, w, marks] (k : Int)).length ≤ 1000) :
    ∀ (m k : Nat) (d : mark_Dice), 3 - k = m → k ≤ 3 → DOK d → ∃ d', DOK d' ∧ iter (law36_AggregateExact_l7 raw marks special unit y5 y7 w y12 v) ((k : Int), d.L, d.At) = some (.inl (d'.L, d'.At)) := by
  intro m
  induction m with
  | zero =>
    intro k d h1 h2 h3
    have : k = 3 := by omega
    subst this
    exact ⟨d, h3, iter_inr (by simp [law36_AggregateExact_l7])⟩
  | succ m ih =>
    intro k d h1 h2 h3
    obtain ⟨y, d1, e1, k1, _⟩ := dPick d [0, 20, 50, 51] h3 (by simp) (by simp)
    obtain ⟨z, d2, e2, k2, _, _⟩ := dNext d1 5 k1 (by omega)
    have hs : law36_AggregateExact_l7 raw marks special unit y5 y7 w y12 v ((k : Int), d.L, d.At) = some (.inl (((k + 1 : Nat) : Int), d2.L, d2.At)) := by
      simp only [law36_AggregateExact_l7]
      rw [show decide ((k : Int) < (3 : Int)) = true by simp; omega, cond_true, req_pos (by omega), show mark_Dice.mk d.L d.At = d from rfl, e1, sbx]
      try dsimp only
      rw [x_l6 raw marks special y5 y7 w y12 v (k : Int) y hA (hM k (by omega)), sbx]
      try dsimp only
      unfold law36_AggregateExact_j5 law36_AggregateExact_j3
      rw [show mark_Dice.mk d1.L d1.At = d1 from rfl, e2, sbx]
      try dsimp only
      rw [x_l4 raw marks unit y5 y7 w y12 v (k : Int) z hA (hM k (by omega)), sbx]
      try dsimp only
      rw [i64_add1 k (by omega)]
    rw [iter_inl hs]
    exact ih (k + 1) d2 (by omega) (by omega) k2
theorem x_l8 (raw : api_Award) (marks : List api_UnitMark) (special unit : Int) (y5 : api_Award) (y7 w : List api_UnitMark) (y12 : api_Award) (hA : ∀ k : Nat, k < 3 → shA (ix [y5, y12, raw] (k : Int))) (hM : ∀ k : Nat, k < 3 → (ix [y7, w, marks] (k : Int)).length ≤ 1000) :
    ∀ (m k : Nat) (d : mark_Dice), 3 - k = m → k ≤ 3 → DOK d → iter (law36_AggregateExact_l8 raw marks special unit y5 y7 w y12) ((k : Int), d.L, d.At) = some (.inl ()) := by
  intro m
  induction m with
  | zero =>
    intro k d h1 h2 h3
    have : k = 3 := by omega
    subst this
    exact iter_inr (by simp [law36_AggregateExact_l8])
  | succ m ih =>
    intro k d h1 h2 h3
    have a1 := hA k (by omega)
    obtain ⟨c, hc, _⟩ := chk_some (ix [y5, y12, raw] (k : Int)) a1.1 a1.2
    obtain ⟨d2, k2, e2⟩ := x_l7 raw marks special unit y5 y7 w y12 (k : Int) a1 hM _ 0 d rfl (by omega) h3
    have e2' : iter (law36_AggregateExact_l7 raw marks special unit y5 y7 w y12 (k : Int)) ((0 : Int), d.L, d.At) = _ := e2
    have hs : law36_AggregateExact_l8 raw marks special unit y5 y7 w y12 ((k : Int), d.L, d.At) = some (.inl (((k + 1 : Nat) : Int), d2.L, d2.At)) := by
      simp only [law36_AggregateExact_l8]
      rw [show decide ((k : Int) < (3 : Int)) = true by simp; omega, cond_true, req_pos (by omega), ← chk36, hc, sbx, sbx, show (c != c) = false by simp, cond_false, e2', sbx]
      try dsimp only
      unfold law36_AggregateExact_j2
      rw [i64_add1 k (by omega)]
    rw [iter_inl hs]
    exact ih (k + 1) d2 (by omega) (by omega) k2
theorem len_setI' {α : Type} (l : List α) (i : Int) (x : α) : (setI l i x).length = l.length := by simp [setI]
theorem odd36 (d : mark_Dice) (a : api_Award) (hd : DOK d) (ha : AOK a) : ∃ b t, law36_odd d a = some (b, t) ∧ DOK t ∧ shA b := by
  have l0 := ha.l0; have l1 := ha.l1; have hb := ha.b.hi
  unfold law36_odd law36_odd_j1
  obtain ⟨y, d1, e1, k1, y0, y1⟩ := dNext d (a.Units.length : Int) hd (by omega)
  have y1 := y1 (by omega)
  rw [req_pos (by omega), e1, sbx]
  try dsimp only
  obtain ⟨y2, d2, e2, k2, _, _⟩ := dNext d1 6 k1 (by omega)
  rw [req_pos ⟨y0, y1⟩, e2, sbx]
  try dsimp only
  rcases bcases (y2 == 0) with h | h <;> rw [h]
  · obtain ⟨z, d3, e3, k3, _⟩ := dPick d2 [-1, 0, 31, 32] k2 (by simp) (by simp)
    rw [cond_true, e3, sbx]
    exact ⟨_, _, rfl, k3, by show _ ≤ _; rw [len_setI']; omega, by show a.Bounds.length ≤ 1000; omega⟩
  rw [cond_false]
  rcases bcases (y2 == 1) with h | h <;> rw [h]
  · obtain ⟨z, d3, e3, k3, _⟩ := dPick d2 [0, 1, 1000, 1001] k2 (by simp) (by simp)
    rw [cond_true, e3, sbx]
    exact ⟨_, _, rfl, k3, by show _ ≤ _; rw [len_setI']; omega, by show a.Bounds.length ≤ 1000; omega⟩
  rw [cond_false]
  rcases bcases (y2 == 2) with h | h <;> rw [h]
  · obtain ⟨z, d3, e3, k3, _⟩ := dPick d2 [0, 1, 200, 201] k2 (by simp) (by simp)
    rw [cond_true, e3, sbx]
    exact ⟨_, _, rfl, k3, by show _ ≤ _; rw [len_setI']; omega, by show a.Bounds.length ≤ 1000; omega⟩
  rw [cond_false]
  rcases bcases (y2 == 3) with h | h <;> rw [h]
  · obtain ⟨z, d3, e3, k3, _⟩ := dPick d2 [0, 1, 200, 201] k2 (by simp) (by simp)
    rw [cond_true, e3, sbx]
    exact ⟨_, _, rfl, k3, by show a.Units.length ≤ 1000; omega, by show a.Bounds.length ≤ 1000; omega⟩
  rw [cond_false]
  rcases bcases (y2 == 4) with h | h <;> rw [h]
  · obtain ⟨z, d3, e3, k3, z0, z1⟩ := dNext d2 5 k2 (by omega)
    have z1 := z1 (by omega)
    rw [cond_true, e3, sbx]
    try dsimp only
    rw [req_pos ⟨z0, by simp; omega⟩]
    refine ⟨_, _, rfl, k3, by show a.Units.length ≤ 1000; omega, ?_⟩
    show (ix ([[], [1, 2], [IntKind.i64.wrap (a.Max + 1)], [IntKind.i64.wrap (a.Max + 2)], [-1]] : List (List Int)) z).length ≤ 1000
    obtain ⟨k, rfl⟩ : ∃ k : Nat, z = k := ⟨z.toNat, by omega⟩
    have : k = 0 ∨ k = 1 ∨ k = 2 ∨ k = 3 ∨ k = 4 := by omega
    rcases this with rfl | rfl | rfl | rfl | rfl <;> exact Nat.le_of_ble_eq_true rfl
  · rw [cond_false, req_pos (by omega)]
    exact ⟨_, _, rfl, k2, by show _ ≤ _; simp, by show a.Bounds.length ≤ 1000; omega⟩
theorem ix3 {α : Type} [Inhabited α] (P : α → Prop) (a b c : α) (ha : P a) (hb : P b) (hc : P c) : ∀ k : Nat, k < 3 → P (ix [a, b, c] (k : Int)) := by
  intro k hk
  have : k = 0 ∨ k = 1 ∨ k = 2 := by omega
  rcases this with rfl | rfl | rfl
  · exact ha
  · exact hb
  · exact hc
theorem x_j9 (raw : api_Award) (marks : List api_UnitMark) (special unit : Int) (y5 : api_Award) (y7 w : List api_UnitMark) (d : mark_Dice) (hd : DOK d) (h5 : AOK y5) (hr : shA raw) (h7 : y7.length ≤ 1000) (hw : w.length ≤ 1000) (hm : marks.length ≤ 1000) :
    law36_AggregateExact_j9 raw marks special unit y5 y7 w d.L d.At = some true := by
  unfold law36_AggregateExact_j9
  obtain ⟨b, t, e, k, sb⟩ := odd36 d y5 hd h5
  rw [show mark_Dice.mk d.L d.At = d from rfl, e, sbx]
  try dsimp only
  have s5 : shA y5 := ⟨by have := h5.l1; omega, by have := h5.b.hi; omega⟩
  have h8 := x_l8 raw marks special unit y5 y7 w b (ix3 shA _ _ _ s5 sb hr) (ix3 (fun l : List api_UnitMark => l.length ≤ 1000) _ _ _ h7 hw hm) _ 0 t rfl (by omega) k
  have h8' : iter (law36_AggregateExact_l8 raw marks special unit y5 y7 w b) ((0 : Int), t.L, t.At) = _ := h8
  rw [h8', sbx]
  try dsimp only
  unfold law36_AggregateExact_j1
  rw [sane36]; rfl
theorem pure_AggregateExact (t : List Int) (raw : api_Award) (marks : List api_UnitMark) (special unit : Int) : law36_AggregateExact t raw marks special unit = some true := by
  unfold law36_AggregateExact
  rw [light36, sbx]
  rcases bcases ((((!(decide ((t.length : Int) ≤ 600))) || (decide ((10 : Int) < (raw.Units.length : Int)))) || (decide ((20 : Int) < (raw.Bounds.length : Int)))) || (decide ((10 : Int) < (marks.length : Int)))) with hc | hc <;> rw [hc]
  · rw [cond_true, sane36]; rfl
  rw [cond_false]
  simp only [Bool.or_eq_false_iff, decide_eq_false_iff_not, Bool.not_eq_false', decide_eq_true_eq] at hc
  obtain ⟨⟨⟨ht, hr1⟩, hr2⟩, hm⟩ := hc
  show (some (mark_Dice.mk t 0)).bind _ = _
  rw [sbx]
  have d0 : DOK ⟨t, 0⟩ := ⟨by show t.length ≤ 600; omega, by show (0 : Int) ≤ 0; omega, by show (0 : Int) ≤ _; omega⟩
  obtain ⟨y3, y4, e1, k1, h2, h3⟩ := dNext ⟨t, 0⟩ 4 d0 (by omega)
  have h4 := h3 (by omega)
  obtain ⟨a, t2, e2, k2, ha, hn, hw⟩ := dAward y4 (1 + y3) k1 (by omega) (by omega)
  obtain ⟨l, t3, e3, k3, hp⟩ := dMarks t2 a k2 ha
  have hl := (terms_len hp).2
  have l0 := ha.l0; have l1 := ha.l1
  rw [e1, sbx]
  try dsimp only
  rw [wrap64 (n := 1 + y3) (by omega) (by omega), e2, sbx]
  try dsimp only
  rw [e3, sbx]
  try dsimp only
  obtain ⟨y9, t4, e4, k4, g0, g1⟩ := dNext t3 (l.length : Int) k3 (by omega)
  have g1 := g1 (by omega)
  rw [req_pos (by omega), e4, sbx]
  try dsimp only
  obtain ⟨y40, t5, e5, k5, _, _⟩ := dNext t4 4 k4 (by omega)
  rw [req_pos ⟨g0, g1⟩, e5, sbx]
  try dsimp only
  have hr : shA raw := ⟨by omega, by omega⟩
  rcases bcases (y40 == 0) with h | h <;> rw [h]
  · obtain ⟨z, d3, e6, k6, _⟩ := dPick t5 [-1, 0, 3, 4] k5 (by simp) (by simp)
    rw [cond_true, e6, sbx]
    exact x_j9 raw marks special unit a l _ d3 k6 ha hr (by omega) (by rw [len_setI']; omega) (by omega)
  rw [cond_false]
  rcases bcases (y40 == 1) with h | h <;> rw [h]
  · obtain ⟨z, d3, e6, k6, _⟩ := dPick t5 [-1, 0, 50, 51] k5 (by simp) (by simp)
    rw [cond_true, e6, sbx]
    try dsimp only
    rw [whole_eq, sbx]
    exact x_j9 raw marks special unit a l _ d3 k6 ha hr (by omega) (by rw [len_setI']; omega) (by omega)
  rw [cond_false]
  rcases bcases (y40 == 2) with h | h <;> rw [h]
  · obtain ⟨z, d3, e6, k6, _⟩ := dPick t5 [0, 2, 3] k5 (by simp) (by simp)
    rw [cond_true, e6, sbx]
    exact x_j9 raw marks special unit a l _ d3 k6 ha hr (by omega) (by rw [len_setI']; omega) (by omega)
  · rw [cond_false]
    exact x_j9 raw marks special unit a l _ t5 k5 ha hr (by omega) (by rw [len_setI']; omega) (by omega)
end Go.LS
