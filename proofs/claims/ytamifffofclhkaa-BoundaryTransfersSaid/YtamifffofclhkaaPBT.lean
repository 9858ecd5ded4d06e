/-
  Plain functions: what BoundaryTransfers needs of several texts. Conditions: none.
-/
import Derived.Test.YtamifffofclhkaaD3
namespace Go.LS
set_option linter.all false
set_option linter.unusedSimpArgs false
set_option linter.unusedVariables false
set_option maxRecDepth 20000
theorem ix_nat {α : Type} [Inhabited α] (l : List α) (k : Nat) (h : k < l.length) : ix l (k : Int) = l[k] := by simp [ix, List.getD, h]
theorem ix_mem {α : Type} [Inhabited α] (l : List α) (n : Int) (h0 : 0 ≤ n) (h : n < l.length) : ix l n ∈ l := by
  have : n.toNat < l.length := by omega
  simp [ix, List.getD, this]
theorem i64_add1 (k : Nat) (h : k < 4611686018427387904) : IntKind.i64.wrap ((k : Int) + 1) = ((k + 1 : Nat) : Int) := by
  rw [wrap64 (by omega) (by omega)]; omega
theorem i64_id {n : Int} (h1 : -9223372036854775808 ≤ n) (h2 : n < 9223372036854775808) : IntKind.i64.wrap n = n := wrap64 h1 h2

theorem iter_fold {α β ρ : Type} (l : List α) (f : Int × β → Option ((Int × β) ⊕ ρ)) (g : β → α → β) (fin : β → ρ) (I : Nat → β → Prop)
    (hstep : ∀ (k : Nat) (b : β) (hk : k < l.length), I k b → f ((k : Int), b) = some (.inl (((k + 1 : Nat) : Int), g b l[k])) ∧ I (k + 1) (g b l[k]))
    (hend : ∀ b, I l.length b → f ((l.length : Int), b) = some (.inr (fin b))) (b : β) (h0 : I 0 b) : iter f ((0 : Int), b) = some (fin (l.foldl g b)) := by
  have key : ∀ (n k : Nat) (b : β), l.length - k = n → k ≤ l.length → I k b → iter f ((k : Int), b) = some (fin ((l.drop k).foldl g b)) := by
    intro n
    induction n with
    | zero =>
      intro k b hn hk hI
      have : k = l.length := by omega
      subst this
      rw [iter_inr (hend b hI), List.drop_length]; rfl
    | succ n ih =>
      intro k b hn hk hI
      have hk' : k < l.length := by omega
      obtain ⟨h1, h2⟩ := hstep k b hk' hI
      rw [iter_inl h1, ih (k + 1) _ (by omega) (by omega) h2, List.drop_eq_getElem_cons hk']; rfl
  have := key _ 0 b rfl (by omega) h0
  simpa using this
theorem iter_scan {α ρ : Type} (l : List α) (f : Int → Option (Int ⊕ ρ)) (p : α → Bool) (hit : α → ρ) (miss : ρ)
    (hstep : ∀ (k : Nat) (hk : k < l.length), f (k : Int) = some (if p l[k] = true then .inr (hit l[k]) else .inl ((k + 1 : Nat) : Int)))
    (hend : f (l.length : Int) = some (.inr miss)) : iter f (0 : Int) = some (match l.find? p with | some a => hit a | none => miss) := by
  have key : ∀ (n k : Nat), l.length - k = n → k ≤ l.length → iter f (k : Int) = some (match (l.drop k).find? p with | some a => hit a | none => miss) := by
    intro n
    induction n with
    | zero =>
      intro k hn hk
      have : k = l.length := by omega
      subst this
      rw [iter_inr hend, List.drop_length]; rfl
    | succ n ih =>
      intro k hn hk
      have hk' : k < l.length := by omega
      have h1 := hstep k hk'
      rw [List.drop_eq_getElem_cons hk', List.find?_cons]
      cases hp : p l[k] with
      | true => rw [hp, if_pos rfl] at h1; rw [iter_inr h1]
      | false => rw [hp, if_neg (by simp)] at h1; rw [iter_inl h1, ih (k + 1) (by omega) (by omega)]
  have := key _ 0 rfl (by omega)
  simpa using this
theorem find_any {α β : Type} (l : List α) (p : α → Bool) (x y : β) : (match l.find? p with | some _ => x | none => y) = if l.any p = true then x else y := by
  cases h : l.find? p with
  | none =>
    rw [List.find?_eq_none] at h
    have : l.any p = false := by rw [List.any_eq_false]; exact h
    simp [this]
  | some a =>
    have : l.any p = true := List.any_eq_true.2 ⟨a, List.mem_of_find?_eq_some h, List.find?_some h⟩
    simp [this]

theorem bOr_nat (a b : Nat) (ha : a < 9223372036854775808) (hb : b < 9223372036854775808) : bOr .i64 (a : Int) (b : Int) = ((a ||| b : Nat) : Int) := by
  have h := Nat.or_lt_two_pow (n := 63) (by simpa using ha) (by simpa using hb)
  have e : ∀ n : Nat, n < 9223372036854775808 → (BitVec.ofInt (IntKind.bits .i64) (n : Int)).toNat = n := fun n hn => by
    simp only [IntKind.bits, BitVec.toNat_ofInt]; omega
  unfold bOr
  rw [BitVec.toNat_or, e a ha, e b hb, wrap64 (by omega) (by omega)]
theorem bAnd_nat (a b : Nat) (ha : a < 9223372036854775808) (hb : b < 9223372036854775808) : bAnd .i64 (a : Int) (b : Int) = ((a &&& b : Nat) : Int) := by
  have h : a &&& b ≤ a := Nat.and_le_left
  have e : ∀ n : Nat, n < 9223372036854775808 → (BitVec.ofInt (IntKind.bits .i64) (n : Int)).toNat = n := fun n hn => by
    simp only [IntKind.bits, BitVec.toNat_ofInt]; omega
  unfold bAnd
  rw [BitVec.toNat_and, e a ha, e b hb, wrap64 (by omega) (by omega)]
theorem wrapU (n : Int) : IntKind.u64.wrap n = n % 18446744073709551616 := by simp [IntKind.wrap, IntKind.bits, IntKind.signed]
theorem wrapU_id {n : Int} (h0 : 0 ≤ n) (h1 : n < 18446744073709551616) : IntKind.u64.wrap n = n := by rw [wrapU]; omega
theorem wrapU_nat (k : Nat) (h : k < 18446744073709551616) : IntKind.u64.wrap (k : Int) = k := wrapU_id (by omega) (by omega)
def I64 (n : Int) : Prop := -9223372036854775808 ≤ n ∧ n < 9223372036854775808
theorem mag_eq (n : Int) (h : I64 n) : ratio_magnitude n = some (n.natAbs : Int) := by
  obtain ⟨h1, h2⟩ := h
  unfold ratio_magnitude
  rcases bcases (decide (n < (0 : Int))) with hc | hc <;> rw [hc]
  · have : n < 0 := by simpa using hc
    simp only [cond_true, wrapU, Option.some.injEq]
    omega
  · have : 0 ≤ n := by simpa using hc
    simp only [cond_false, wrapU, Option.some.injEq]
    omega
theorem tmod_nat (a b : Nat) : Int.tmod (a : Int) (b : Int) = ((a % b : Nat) : Int) := by
  rw [Int.tmod_eq_emod_of_nonneg (by omega)]; exact_mod_cast rfl
theorem tdiv_nat (a b : Nat) : Int.tdiv (a : Int) (b : Int) = ((a / b : Nat) : Int) := by
  rw [Int.tdiv_eq_ediv_of_nonneg (by omega)]; exact_mod_cast rfl
theorem gcd_eq (a b : Nat) : ratio_gcd a b = some ((Nat.gcd a b : Nat) : Int) := by
  have key : ∀ n m : Nat, iter ratio_gcd_l2 ((m : Int), (n : Int)) = some ((Nat.gcd m n : Nat) : Int) := by
    intro n
    induction n using Nat.strongRecOn with
    | _ n ih =>
      intro m
      by_cases hn : n = 0
      · subst hn
        rw [iter_inr (r := (m : Int))]
        · simp
        · simp [ratio_gcd_l2]
      · have hs : ratio_gcd_l2 ((m : Int), (n : Int)) = some (.inl ((n : Int), ((m % n : Nat) : Int))) := by
          simp only [ratio_gcd_l2]
          rw [show ((n : Int) != 0) = true by simp [hn], cond_true, req_pos (by omega), tmod_nat]
        rw [iter_inl hs, ih (m % n) (Nat.mod_lt _ (by omega)) n]
        rw [Nat.gcd_comm m n, Nat.gcd_rec n m, Nat.gcd_comm]
  unfold ratio_gcd ratio_gcd_j1
  rw [key b a]; rfl
def vR (a : api_Ratio) : Bool := decide (1 ≤ a.Den ∧ a.Den ≤ 1152921504606846976 ∧ -1152921504606846976 ≤ a.Num ∧ a.Num ≤ 1152921504606846976 ∧ Nat.gcd a.Num.natAbs a.Den.natAbs = 1)
theorem Valid_eq (a : api_Ratio) : ratio_Valid a = some (vR a) := by
  unfold ratio_Valid vR
  rcases bcases ((((decide (a.Den < (1 : Int))) || (decide ((1152921504606846976 : Int) < a.Den))) || (decide (a.Num < (-1152921504606846976 : Int)))) || (decide ((1152921504606846976 : Int) < a.Num))) with hc | hc <;> rw [hc]
  · simp only [Bool.or_eq_true, decide_eq_true_eq] at hc
    rw [cond_true]
    congr 1
    symm
    rw [decide_eq_false_iff_not]
    omega
  · simp only [Bool.or_eq_false_iff, decide_eq_false_iff_not] at hc
    rw [cond_false, mag_eq a.Num ⟨by omega, by omega⟩]
    simp only [Option.bind]
    rw [wrapU_id (by omega) (by omega), show a.Den = ((a.Den.natAbs : Nat) : Int) by omega, gcd_eq]
    simp only [Int.natAbs_natCast, Option.some.injEq]
    rw [Bool.eq_iff_iff]
    simp only [beq_iff_eq, decide_eq_true_eq]
    omega
theorem Div64_0 (lo y : Nat) (h : lo < 18446744073709551616) (hy : 0 < y) : bits_Div64 0 lo y = some (((lo / y : Nat) : Int), ((lo % y : Nat) : Int)) := by
  unfold bits_Div64 bits_Div64_j6 bits_Div64_j5
  rw [show ((y : Int) == 0) = false by simp; omega, cond_false, show decide ((y : Int) ≤ 0) = false by simp; omega, cond_false, show ((0 : Int) == 0) = true by simp, cond_true, req_pos (by omega), tdiv_nat, tmod_nat, wrapU_nat _ (Nat.lt_of_le_of_lt (Nat.div_le_self lo y) h)]
def fitOf (neg : Bool) (n d : Nat) : api_Ratio × Int := if n ≤ 1152921504606846976 ∧ d ≤ 1152921504606846976 then (⟨if neg = true then -(n : Int) else n, d⟩, 0) else (⟨0, 0⟩, 6)
theorem fitted_eq (neg : Bool) (nh n dh d : Nat) (hn : n < 18446744073709551616) (hd : d < 18446744073709551616) : ratio_fitted neg ⟨nh, n⟩ ⟨dh, d⟩ = some (fitOf neg (nh * 18446744073709551616 + n) (dh * 18446744073709551616 + d)) := by
  unfold ratio_fitted ratio_fitted_j1 fitOf
  rcases bcases ((((((nh : Nat) : Int) != (0 : Int)) || (((dh : Nat) : Int) != (0 : Int))) || (decide ((1152921504606846976 : Int) < (n : Int)))) || (decide ((1152921504606846976 : Int) < (d : Int)))) with hc | hc <;> rw [hc]
  · simp only [Bool.or_eq_true, decide_eq_true_eq, bne_iff_ne] at hc
    rw [cond_true, if_neg (by omega)]
  · simp only [Bool.or_eq_false_iff, decide_eq_false_iff_not, bne_eq_false_iff_eq] at hc
    have h1 : nh = 0 := by omega
    have h2 : dh = 0 := by omega
    subst h1 h2
    rw [cond_false, if_pos (by omega)]
    simp only [Nat.zero_mul, Nat.zero_add]
    rw [wrap64 (n := (n : Int)) (by omega) (by omega), wrap64 (n := (d : Int)) (by omega) (by omega)]
    cases neg
    · rfl
    · rw [cond_true, wrap64 (by omega) (by omega)]; simp
def redOf (neg : Bool) (n d : Nat) : api_Ratio × Int := fitOf neg (n / Nat.gcd n d) (d / Nat.gcd n d)
theorem reduced0 (neg : Bool) (n d : Nat) (hn : n < 18446744073709551616) (hd : 0 < d) (hd2 : d < 18446744073709551616) : ratio_reduced ⟨neg, ⟨0, n⟩⟩ d = some (redOf neg n d) := by
  have z : ∀ y : Nat, Int.tmod 0 (y : Int) = 0 := fun y => by simp
  have zd : ∀ y : Nat, Int.tdiv 0 (y : Int) = 0 := fun y => by simp
  have hg : 0 < Nat.gcd n d := Nat.gcd_pos_of_pos_right _ hd
  have hgg : Nat.gcd (n % d) d = Nat.gcd n d := by rw [Nat.gcd_comm n d, Nat.gcd_rec d n]
  have h1 := Nat.div_le_self n (Nat.gcd n d)
  have h2 := Nat.div_le_self d (Nat.gcd n d)
  unfold ratio_reduced ratio_wide_mod bits_Rem64 ratio_wide_over redOf
  simp only [z, zd]
  rw [req_pos (by omega), Div64_0 n d hn hd]
  simp only [Option.bind, gcd_eq, hgg, z, zd]
  rw [req_pos (by omega), Div64_0 n _ hn hg]
  simp only []
  rw [req_pos (by omega), tdiv_nat, wrapU_nat _ (Nat.lt_of_le_of_lt h2 hd2), wrapU_id (n := 0) (by omega) (by omega)]
  have := fitted_eq neg 0 (n / Nat.gcd n d) 0 (d / Nat.gcd n d) (Nat.lt_of_le_of_lt h1 hn) (Nat.lt_of_le_of_lt h2 hd2)
  simp only [Int.natCast_zero, Nat.zero_mul, Nat.zero_add] at this
  rw [this]
def newOf (num den : Int) : api_Ratio × Int := if den = 0 then (⟨0, 0⟩, 2) else redOf (!(decide (num < 0) == decide (den < 0))) num.natAbs den.natAbs
theorem New_eq (num den : Int) (hn : I64 num) (hd : I64 den) : ratio_New num den = some (newOf num den) := by
  unfold ratio_New newOf
  by_cases h : den = 0
  · subst h; rfl
  · rw [if_neg h, show (den == 0) = false by simpa using h, cond_false, mag_eq num hn, mag_eq den hd]
    simp only [Option.bind]
    obtain ⟨h1, h2⟩ := hn
    obtain ⟨h3, h4⟩ := hd
    rw [reduced0 _ num.natAbs den.natAbs (by omega) (by omega) (by omega)]
theorem and32 (x : Nat) (hx : x < 18446744073709551616) : bAnd .u64 (x : Int) 4294967295 = ((x % 4294967296 : Nat) : Int) := by
  unfold bAnd
  have e : (BitVec.ofInt (IntKind.bits .u64) (x : Int)).toNat = x := by simp only [IntKind.bits, BitVec.toNat_ofInt]; omega
  have e2 : (BitVec.ofInt (IntKind.bits .u64) (4294967295 : Int)).toNat = 2 ^ 32 - 1 := by decide
  rw [BitVec.toNat_and, e, e2, Nat.and_two_pow_sub_one_eq_mod, wrapU_id (by omega) (by omega)]
theorem shr32 (x : Nat) : bShr .u64 (x : Int) 32 = ((x / 4294967296 : Nat) : Int) := by
  unfold bShr
  rw [show (2 : Int) ^ (min (Int.toNat 32) (IntKind.bits .u64)) = 4294967296 by decide, Int.fdiv_eq_ediv_of_nonneg _ (by omega)]
  omega
theorem Mul64_eq (x y : Nat) (hx : x < 18446744073709551616) (hy : y < 18446744073709551616) : bits_Mul64 x y = some (((x * y / 18446744073709551616 : Nat) : Int), ((x * y % 18446744073709551616 : Nat) : Int)) := by
  unfold bits_Mul64 bindV
  simp only [and32 x hx, and32 y hy, shr32]
  generalize hx0 : x % 4294967296 = x0
  generalize hx1 : x / 4294967296 = x1
  generalize hy0 : y % 4294967296 = y0
  generalize hy1 : y / 4294967296 = y1
  have ex : x = x1 * 4294967296 + x0 := by omega
  have ey : y = y1 * 4294967296 + y0 := by omega
  have b0 : x0 ≤ 4294967295 := by omega
  have b1 : x1 ≤ 4294967295 := by omega
  have c0 : y0 ≤ 4294967295 := by omega
  have c1 : y1 ≤ 4294967295 := by omega
  have p00 : x0 * y0 ≤ 4294967295 * 4294967295 := Nat.mul_le_mul b0 c0
  have p01 : x0 * y1 ≤ 4294967295 * 4294967295 := Nat.mul_le_mul b0 c1
  have p10 : x1 * y0 ≤ 4294967295 * 4294967295 := Nat.mul_le_mul b1 c0
  have p11 : x1 * y1 ≤ 4294967295 * 4294967295 := Nat.mul_le_mul b1 c1
  have exy : x * y = x1 * y1 * 18446744073709551616 + (x0 * y1 + x1 * y0) * 4294967296 + x0 * y0 := by
    rw [ex, ey]; grind
  rw [exy]
  have ez : (x : Int) * (y : Int) = ((x1 * y1 * 18446744073709551616 + (x0 * y1 + x1 * y0) * 4294967296 + x0 * y0 : Nat) : Int) := by rw [← exy]; exact (Int.natCast_mul x y).symm
  rw [ez]
  simp only [← Int.natCast_mul]
  generalize x0 * y0 = a at *
  generalize x0 * y1 = b at *
  generalize x1 * y0 = c at *
  generalize x1 * y1 = d at *
  rw [wrapU_id (n := (a : Int)) (by omega) (by omega), wrapU_id (n := (b : Int)) (by omega) (by omega), wrapU_id (n := (c : Int)) (by omega) (by omega), wrapU_id (n := (d : Int)) (by omega) (by omega)]
  simp only [shr32, ← Int.natCast_add]
  rw [wrapU_id (n := ((c + a / 4294967296 : Nat) : Int)) (by omega) (by omega)]
  simp only [shr32, and32 (c + a / 4294967296) (by omega), ← Int.natCast_add]
  rw [wrapU_id (n := (((c + a / 4294967296) % 4294967296 + b : Nat) : Int)) (by omega) (by omega), wrapU_id (n := ((d + (c + a / 4294967296) / 4294967296 : Nat) : Int)) (by omega) (by omega)]
  simp only [shr32, ← Int.natCast_add]
  rw [wrapU_id (by omega) (by omega), wrapU]
  simp only [Option.some.injEq, Prod.mk.injEq]
  constructor <;> omega
def cmpI (x y : Int) : Int := if x < y then -1 else if y < x then 1 else 0
theorem cmpU_eq (x y : Int) : cmp_Compare_uint64 x y = some (cmpI x y) := by
  unfold cmp_Compare_uint64 cmp_isNaN_uint64 cmpI
  simp only [bne_self_eq_false, Option.bind, cond_false]
  by_cases h : x < y
  · simp [h]
  · simp [h]
    by_cases h2 : y < x <;> simp [h2]
theorem wideCmp (m n : Nat) : ratio_wide_compare ⟨((m / 18446744073709551616 : Nat) : Int), ((m % 18446744073709551616 : Nat) : Int)⟩ ⟨((n / 18446744073709551616 : Nat) : Int), ((n % 18446744073709551616 : Nat) : Int)⟩ = some (cmpI m n) := by
  unfold ratio_wide_compare
  simp only [cmpU_eq, Option.bind]
  unfold cmpI
  by_cases h1 : m / 18446744073709551616 < n / 18446744073709551616
  · rw [if_pos (by omega), if_pos (show (m : Int) < n by omega)]; rfl
  · by_cases h2 : n / 18446744073709551616 < m / 18446744073709551616
    · rw [if_neg (by omega), if_pos (by omega), if_neg (show ¬ (m : Int) < n by omega), if_pos (show (n : Int) < m by omega)]; rfl
    · rw [if_neg (by omega), if_neg (by omega)]
      simp only [bne_self_eq_false, cond_false]
      by_cases h3 : m % 18446744073709551616 < n % 18446744073709551616
      · rw [if_pos (by omega), if_pos (show (m : Int) < n by omega)]
      · rw [if_neg (by omega), if_neg (show ¬ (m : Int) < n by omega)]
        by_cases h4 : n % 18446744073709551616 < m % 18446744073709551616
        · rw [if_pos (by omega), if_pos (show (n : Int) < m by omega)]
        · rw [if_neg (by omega), if_neg (show ¬ (n : Int) < m by omega)]
theorem signedProduct_eq (num : Int) (f : Nat) (hn : I64 num) (hf : f < 18446744073709551616) : ratio_signedProduct num f = some ⟨decide (num < 0), ⟨((num.natAbs * f / 18446744073709551616 : Nat) : Int), ((num.natAbs * f % 18446744073709551616 : Nat) : Int)⟩⟩ := by
  unfold ratio_signedProduct ratio_product
  rw [mag_eq num hn]
  simp only [Option.bind]
  obtain ⟨h1, h2⟩ := hn
  rw [Mul64_eq num.natAbs f (by omega) hf]
theorem vR_iff (a : api_Ratio) : vR a = true ↔ 1 ≤ a.Den ∧ a.Den ≤ 1152921504606846976 ∧ -1152921504606846976 ≤ a.Num ∧ a.Num ≤ 1152921504606846976 ∧ Nat.gcd a.Num.natAbs a.Den.natAbs = 1 := by simp [vR]
def cmpR (a b : api_Ratio) : Int := if vR a = true ∧ vR b = true then cmpI (a.Num * b.Den) (b.Num * a.Den) else 0
theorem Compare_eq (a b : api_Ratio) : ratio_Compare a b = some (cmpR a b) := by
  unfold ratio_Compare cmpR
  simp only [Valid_eq, Option.bind, Option.isSome_some, Option.getD_some, implies_true, req_true]
  cases ha : vR a
  · simp
  cases hb : vR b
  · simp
  obtain ⟨a1, a2, a3, a4, _⟩ := (vR_iff a).1 ha
  obtain ⟨b1, b2, b3, b4, _⟩ := (vR_iff b).1 hb
  simp only [Bool.not_true, Bool.or_self, cond_false, and_self, if_true]
  rw [wrapU_id (n := b.Den) (by omega) (by omega), wrapU_id (n := a.Den) (by omega) (by omega)]
  obtain ⟨bd, hbd⟩ : ∃ k : Nat, b.Den = k := ⟨b.Den.toNat, by omega⟩
  obtain ⟨ad, had⟩ : ∃ k : Nat, a.Den = k := ⟨a.Den.toNat, by omega⟩
  rw [hbd, had, signedProduct_eq a.Num bd ⟨by omega, by omega⟩ (by omega), signedProduct_eq b.Num ad ⟨by omega, by omega⟩ (by omega)]
  simp only [wideCmp]
  have key1 : ((a.Num.natAbs * bd : Nat) : Int) = (if a.Num < 0 then -(a.Num * bd) else a.Num * bd) := by
    rw [Int.natCast_mul]
    split
    · rw [← Int.neg_mul]; congr 1; omega
    · congr 1; omega
  have key2 : ((b.Num.natAbs * ad : Nat) : Int) = (if b.Num < 0 then -(b.Num * ad) else b.Num * ad) := by
    rw [Int.natCast_mul]
    split
    · rw [← Int.neg_mul]; congr 1; omega
    · congr 1; omega
  have s1 : a.Num < 0 → a.Num * bd < 0 := fun h => Int.mul_neg_of_neg_of_pos h (by omega)
  have s2 : 0 ≤ a.Num → 0 ≤ a.Num * bd := fun h => Int.mul_nonneg h (by omega)
  have s3 : b.Num < 0 → b.Num * ad < 0 := fun h => Int.mul_neg_of_neg_of_pos h (by omega)
  have s4 : 0 ≤ b.Num → 0 ≤ b.Num * ad := fun h => Int.mul_nonneg h (by omega)
  rw [key1, key2]
  generalize a.Num * (bd : Int) = p at *
  generalize b.Num * (ad : Int) = q at *
  by_cases ha0 : a.Num < 0 <;> by_cases hb0 : b.Num < 0 <;> simp only [ha0, hb0, decide_true, decide_false, Bool.and_self, Bool.and_false, Bool.and_true, Bool.false_and, Bool.true_and, cond_true, cond_false, if_true, if_false, Option.some.injEq] <;> unfold cmpI
  · have := s1 ha0; have := s3 hb0
    by_cases h1 : p < q
    · rw [if_pos (by omega), if_pos h1]
    · rw [if_neg (by omega), if_neg h1]
      by_cases h2 : q < p
      · rw [if_pos (by omega), if_pos h2]
      · rw [if_neg (by omega), if_neg h2]
  · have := s1 ha0; have := s4 (by omega)
    rw [if_pos (by omega)]
  · have := s2 (by omega); have := s3 hb0
    rw [if_neg (by omega), if_pos (by omega)]
def sv (neg : Bool) (n : Nat) : Int := if neg = true then -(n : Int) else n
theorem mul_lt {a b : Nat} (ha : a ≤ 1152921504606846976) (hb : b ≤ 1152921504606846976) : a * b ≤ 1329227995784915872903807060280344576 := Nat.mul_le_mul ha hb
theorem redOf_val (neg : Bool) (n d : Nat) (hd : 0 < d) (r : api_Ratio) (h : redOf neg n d = (r, 0)) : vR r = true ∧ r.Num * d = sv neg n * r.Den ∧ (0 < r.Den) := by
  have hg : 0 < Nat.gcd n d := Nat.gcd_pos_of_pos_right _ hd
  obtain ⟨x, hx⟩ := Nat.gcd_dvd_left n d
  obtain ⟨y, hy⟩ := Nat.gcd_dvd_right n d
  have hx' : n / Nat.gcd n d = x := by conv => lhs; lhs; rw [hx]
                                       exact Nat.mul_div_cancel_left x hg
  have hy' : d / Nat.gcd n d = y := by conv => lhs; lhs; rw [hy]
                                       exact Nat.mul_div_cancel_left y hg
  have hcop : Nat.gcd x y = 1 := by rw [← hx', ← hy']; exact Nat.gcd_div_gcd_div_gcd_of_pos_right hd
  have hy0 : 0 < y := by
    rcases Nat.eq_zero_or_pos y with h0 | h0
    · rw [h0, Nat.mul_zero] at hy; omega
    · exact h0
  unfold redOf fitOf at h
  rw [hx', hy'] at h
  split at h
  · rename_i hle
    obtain ⟨rfl⟩ := Prod.mk.inj h
    refine ⟨?_, ?_, by show (0 : Int) < (y : Int); omega⟩
    · rw [vR_iff]
      refine ⟨by show (1 : Int) ≤ (y : Int); omega, by show (y : Int) ≤ _; omega, ?_, ?_, ?_⟩
      · show _ ≤ (if neg = true then -(x : Int) else x); split <;> omega
      · show (if neg = true then -(x : Int) else x) ≤ _; split <;> omega
      · show Nat.gcd (if neg = true then -(x : Int) else x).natAbs ((y : Int)).natAbs = 1
        cases neg <;> simp [hcop]
    · show (if neg = true then -(x : Int) else x) * (d : Int) = sv neg n * (y : Int)
      unfold sv
      have e : (x : Int) * (d : Int) = (n : Int) * (y : Int) := by
        rw [← Int.natCast_mul, ← Int.natCast_mul]
        congr 1
        calc x * d = x * (Nat.gcd n d * y) := by rw [← hy]
          _ = Nat.gcd n d * x * y := by rw [Nat.mul_left_comm, Nat.mul_assoc]
          _ = n * y := by rw [← hx]
      cases neg
      · simpa using e
      · simp only [if_true, Int.neg_mul, e]
  · cases h
theorem some_bind {α β : Type} (x : α) (f : α → Option β) : (some x).bind f = f x := rfl
theorem Less_eq (a b : api_Ratio) : ratio_Less a b = some (cmpR a b == -1) := by
  unfold ratio_Less; rw [Compare_eq]; rfl
theorem cmpR_vals (a b : api_Ratio) : cmpR a b = -1 ∨ cmpR a b = 0 ∨ cmpR a b = 1 := by
  unfold cmpR cmpI; (repeat' split) <;> simp
theorem less_same (a b : api_Ratio) : (cmpR a b == -1) = decide (cmpR a b < 0) := by
  rcases cmpR_vals a b with h | h | h <;> rw [h] <;> rfl
theorem div_is {n d q r : Int} (hd : 0 < d) (h : n = d * q + r) (h0 : 0 ≤ r) (h1 : r < d) : n / d = q ∧ n % d = r :=
  (Int.ediv_emod_unique hd).2 ⟨by rw [h]; omega, h0, h1⟩
theorem quot_neg (n d : Int) (hd : 0 < d) (h : Int.tmod n d < 0) : Int.tdiv n d - 1 = n / d ∧ Int.tmod n d + d = n % d := by
  have e : d * Int.tdiv n d + Int.tmod n d = n := Int.mul_tdiv_add_tmod n d
  have h4 : -d < n.tmod d := Int.lt_tmod_of_pos n hd
  have h2 := div_is (n := n) (d := d) (q := Int.tdiv n d - 1) (r := Int.tmod n d + d) hd (by rw [Int.mul_sub]; omega) (by omega) (by omega)
  exact ⟨h2.1.symm, h2.2.symm⟩
theorem quot_pos (n d : Int) (hd : 0 < d) (h : ¬ Int.tmod n d < 0) : Int.tdiv n d = n / d ∧ Int.tmod n d = n % d := by
  have e : d * Int.tdiv n d + Int.tmod n d = n := Int.mul_tdiv_add_tmod n d
  have h4 := Int.tmod_lt_of_pos n hd
  have h2 := div_is (n := n) (d := d) (q := Int.tdiv n d) (r := Int.tmod n d) hd (by omega) (by omega) h4
  exact ⟨h2.1.symm, h2.2.symm⟩
theorem div_between (n d M : Int) (hd : 0 < d) (h1 : -M ≤ n) (h2 : n ≤ M) (hM : 0 ≤ M) : -M ≤ n / d ∧ n / d ≤ M := by
  constructor
  · rw [Int.le_ediv_iff_mul_le hd]
    have : M * 1 ≤ M * d := Int.mul_le_mul_of_nonneg_left (by omega) hM
    rw [Int.neg_mul]; omega
  · have := Int.ediv_le_ediv hd h2
    have h3 : M / d ≤ M := Int.ediv_le_self _ hM
    omega
def flR (a : api_Ratio) : Int := a.Num / a.Den
def rsR (a : api_Ratio) : Int := a.Num % a.Den
structure Vd (a : api_Ratio) : Prop where
  d0 : 1 ≤ a.Den
  d1 : a.Den ≤ 1152921504606846976
  n0 : -1152921504606846976 ≤ a.Num
  n1 : a.Num ≤ 1152921504606846976
theorem vd_of {a : api_Ratio} (h : vR a = true) : Vd a := by
  obtain ⟨h1, h2, h3, h4, _⟩ := (vR_iff a).1 h
  exact ⟨h1, h2, h3, h4⟩
theorem Vd.fl {a : api_Ratio} (h : Vd a) : -1152921504606846976 ≤ flR a ∧ flR a ≤ 1152921504606846976 := div_between _ _ _ (by have := h.d0; omega) h.n0 h.n1 (by decide)
theorem Vd.rs {a : api_Ratio} (h : Vd a) : 0 ≤ rsR a ∧ rsR a < a.Den := ⟨Int.emod_nonneg _ (by have := h.d0; omega), Int.emod_lt_of_pos _ (by have := h.d0; omega)⟩
theorem Vd.eq {a : api_Ratio} (h : Vd a) : a.Num = a.Den * flR a + rsR a := (Int.mul_ediv_add_emod a.Num a.Den).symm
theorem rounded_core {a : api_Ratio} (h : Vd a) (f : Int → Int → Option Int) :
    (req (a.Den ≠ 0) <| bif (decide ((Int.tmod a.Num a.Den) < (0 : Int))) then
      bindV (IntKind.i64.wrap ((IntKind.i64.wrap (Int.tdiv a.Num a.Den)) - (1 : Int))) fun floor1 => f floor1 (IntKind.i64.wrap ((Int.tmod a.Num a.Den) + a.Den))
    else f (IntKind.i64.wrap (Int.tdiv a.Num a.Den)) (Int.tmod a.Num a.Den)) = f (flR a) (rsR a) := by
  have hd : 0 < a.Den := by have := h.d0; omega
  have hf := h.fl
  have hr := h.rs
  have hd1 := h.d1
  rw [req_pos (by omega)]
  rcases bcases (decide ((Int.tmod a.Num a.Den) < (0 : Int))) with hc | hc <;> rw [hc]
  · have hc' : Int.tmod a.Num a.Den < 0 := by simpa using hc
    obtain ⟨e1, e2⟩ := quot_neg a.Num a.Den hd hc'
    rw [cond_true, bindV, wrap64 (n := Int.tdiv a.Num a.Den) (by unfold flR at hf; omega) (by unfold flR at hf; omega), e1, e2, wrap64 (n := a.Num / a.Den) (by unfold flR at hf; omega) (by unfold flR at hf; omega), wrap64 (by unfold rsR at hr; omega) (by unfold rsR at hr; omega)]
    rfl
  · have hc' : ¬ Int.tmod a.Num a.Den < 0 := by simpa using hc
    obtain ⟨e1, e2⟩ := quot_pos a.Num a.Den hd hc'
    rw [cond_false, e1, e2, wrap64 (n := a.Num / a.Den) (by unfold flR at hf; omega) (by unfold flR at hf; omega)]
    rfl
def up (b : Bool) : Int := if b = true then 1 else 0
def ceilR (a : api_Ratio) : Int := flR a + up (decide (0 < rsR a))
def roundR (a : api_Ratio) : Int := flR a + up (decide (a.Den ≤ 2 * rsR a))
def evenR (a : api_Ratio) : Int := flR a + up (decide (a.Den < 2 * rsR a) || (decide (a.Den = 2 * rsR a) && decide (flR a % 2 ≠ 0)))
theorem tmod2 (n : Int) : (Int.tmod n 2 != 0) = decide (n % 2 ≠ 0) := by
  have h : Int.tmod n 2 = 0 ↔ n % 2 = 0 := ⟨fun h => Int.emod_eq_zero_of_dvd (Int.dvd_of_tmod_eq_zero h), fun h => Int.tmod_eq_zero_of_dvd (Int.dvd_of_emod_eq_zero h)⟩
  rw [Bool.eq_iff_iff]; simp [h]
theorem Round_eq (a : api_Ratio) : ratio_Round a = some (if vR a = true then roundR a else 0) := by
  unfold ratio_Round ratio_rounded_ratio_toRound
  rw [Valid_eq]
  cases hv : vR a with
  | false => rfl
  | true =>
    simp only [Option.bind, Bool.not_true, cond_false]
    rw [rounded_core (vd_of hv) (ratio_rounded_ratio_toRound_j1 a)]
    have hf := (vd_of hv).fl
    have hr := (vd_of hv).rs
    have hd := (vd_of hv).d1
    unfold ratio_rounded_ratio_toRound_j1 ratio_toRound roundR up
    rw [wrap64 (n := a.Den - rsR a) (by omega) (by omega), show decide (a.Den - rsR a ≤ rsR a) = decide (a.Den ≤ 2 * rsR a) by rw [Bool.eq_iff_iff]; simp; omega]
    rcases bcases (decide (a.Den ≤ 2 * rsR a)) with hc | hc <;> rw [hc]
    · simp [wrap64 (n := flR a + 1) (by omega) (by omega)]
    · simp
def I64R (a : api_Ratio) : Prop := I64 a.Num ∧ I64 a.Den
theorem i64_of_v {a : api_Ratio} (h : vR a = true) : I64R a := by
  have h := vd_of h
  have := h.d0; have := h.d1; have := h.n0; have := h.n1
  exact ⟨⟨by omega, by omega⟩, ⟨by omega, by omega⟩⟩
theorem shrN (x j : Nat) (hj : j ≤ 64) : bShr .u64 (x : Int) (j : Int) = ((x / 2 ^ j : Nat) : Int) := by
  unfold bShr
  rw [show min (Int.toNat (j : Int)) (IntKind.bits .u64) = j by simp only [Int.toNat_natCast, IntKind.bits]; omega, Int.fdiv_eq_ediv_of_nonneg _ (by exact_mod_cast Nat.zero_le _)]
  norm_cast
theorem shlN (x j : Nat) (hj : j ≤ 64) : bShl .u64 (x : Int) (j : Int) = ((x * 2 ^ j % 18446744073709551616 : Nat) : Int) := by
  unfold bShl
  rw [show min (Int.toNat (j : Int)) (IntKind.bits .u64) = j by simp only [Int.toNat_natCast, IntKind.bits]; omega, wrapU, Int.natCast_emod, Int.natCast_mul, Int.natCast_pow]
  rfl
theorem ofU (x : Nat) (hx : x < 18446744073709551616) : (BitVec.ofInt (IntKind.bits .u64) (x : Int)).toNat = x := by simp only [IntKind.bits, BitVec.toNat_ofInt]; omega
theorem and1 (x : Nat) (hx : x < 18446744073709551616) : bAnd .u64 (x : Int) 1 = ((x % 2 : Nat) : Int) := by
  unfold bAnd
  have e2 : (BitVec.ofInt (IntKind.bits .u64) (1 : Int)).toNat = 2 ^ 1 - 1 := by decide
  rw [BitVec.toNat_and, ofU x hx, e2, Nat.and_two_pow_sub_one_eq_mod, wrapU_id (by omega) (by omega)]
theorem or_even (y b : Nat) (hy : 2 * y + b < 18446744073709551616) (hb : b ≤ 1) : bOr .u64 ((2 * y : Nat) : Int) (b : Int) = ((2 * y + b : Nat) : Int) := by
  unfold bOr
  have := Nat.two_pow_add_eq_or_of_lt (i := 1) (b := b) (by omega) y
  rw [Nat.pow_one] at this
  rw [BitVec.toNat_or, ofU _ (by omega), ofU _ (by omega), ← this, wrapU_id (by omega) (by omega)]
theorem bit_lo (a i : Nat) (hi : i < 64) : a % 18446744073709551616 / 2 ^ i % 2 = a / 2 ^ i % 2 := by
  have h1 : (18446744073709551616 : Nat) = 2 ^ i * (2 * 2 ^ (63 - i)) := by
    rw [← Nat.pow_succ', ← Nat.pow_add, show i + (63 - i).succ = 64 by omega]
  have h2 := Nat.div_add_mod a 18446744073709551616
  have h3 : a / 2 ^ i = 2 * (2 ^ (63 - i) * (a / 18446744073709551616)) + a % 18446744073709551616 / 2 ^ i := by
    conv => lhs; rw [← h2]
    conv => lhs; arg 1; arg 1; arg 1; rw [h1]
    rw [Nat.mul_assoc, Nat.mul_add_div (Nat.two_pow_pos i), Nat.mul_assoc]
  omega
theorem bit_hi (a i : Nat) (hi : 64 ≤ i) : a / 18446744073709551616 / 2 ^ (i - 64) = a / 2 ^ i := by
  rw [Nat.div_div_eq_div_mul, show (18446744073709551616 : Nat) = 2 ^ 64 by decide, ← Nat.pow_add, show 64 + (i - 64) = i by omega]
abbrev hiW (n : Nat) : Int := ((n / 18446744073709551616 : Nat) : Int)
abbrev loW (n : Nat) : Int := ((n % 18446744073709551616 : Nat) : Int)
theorem step_div (A b bit : Nat) (hb : 0 < b) (hbit : bit ≤ 1) : (if b ≤ 2 * (A % b) + bit then (2 * (A / b) + 1, 2 * (A % b) + bit - b) else (2 * (A / b), 2 * (A % b) + bit)) = ((2 * A + bit) / b, (2 * A + bit) % b) := by
  have h1 := Nat.div_add_mod A b
  have h2 := Nat.mod_lt A hb
  split
  · rename_i hc
    have := (Nat.div_mod_unique (a := 2 * A + bit) (b := b) (c := 2 * (A % b) + bit - b) (d := 2 * (A / b) + 1) hb).2 ⟨by rw [Nat.mul_add, Nat.mul_left_comm]; omega, by omega⟩
    rw [this.1, this.2]
  · rename_i hc
    have := (Nat.div_mod_unique (a := 2 * A + bit) (b := b) (c := 2 * (A % b) + bit) (d := 2 * (A / b)) hb).2 ⟨by rw [Nat.mul_left_comm]; omega, by omega⟩
    rw [this.1, this.2]
theorem red_unique (neg : Bool) (n d p q k : Nat) (hk : 0 < k) (hn : n = p * k) (hd : d = q * k) (hc : Nat.gcd p q = 1) : redOf neg n d = fitOf neg p q := by
  unfold redOf
  have hg : Nat.gcd n d = k := by rw [hn, hd, Nat.gcd_mul_right, hc, Nat.one_mul]
  rw [hg, hn, hd, Nat.mul_div_cancel _ hk, Nat.mul_div_cancel _ hk]
theorem product_eq (x y : Nat) (hx : x < 18446744073709551616) (hy : y < 18446744073709551616) : ratio_product x y = some ⟨hiW (x * y), loW (x * y)⟩ := by
  unfold ratio_product
  rw [Mul64_eq x y hx hy]; rfl
theorem fittedW (neg : Bool) (n d : Nat) : ratio_fitted neg ⟨hiW n, loW n⟩ ⟨hiW d, loW d⟩ = some (fitOf neg n d) := by
  have h := fitted_eq neg (n / 18446744073709551616) (n % 18446744073709551616) (d / 18446744073709551616) (d % 18446744073709551616) (by omega) (by omega)
  rw [show n / 18446744073709551616 * 18446744073709551616 + n % 18446744073709551616 = n by omega, show d / 18446744073709551616 * 18446744073709551616 + d % 18446744073709551616 = d by omega] at h
  exact h
structure VN (a : api_Ratio) : Prop where
  i1 : I64 a.Num
  i2 : I64 a.Den
  n1 : a.Num.natAbs ≤ 1152921504606846976
  d0 : 1 ≤ a.Den.natAbs
  d1 : a.Den.natAbs ≤ 1152921504606846976
  de : (a.Den.natAbs : Int) = a.Den
  cop : Nat.gcd a.Num.natAbs a.Den.natAbs = 1
theorem vn_of {a : api_Ratio} (h : vR a = true) : VN a := by
  obtain ⟨h1, h2, h3, h4, h5⟩ := (vR_iff a).1 h
  exact ⟨⟨by omega, by omega⟩, ⟨by omega, by omega⟩, by omega, by omega, by omega, by omega, h5⟩
theorem wrapU_den {a : api_Ratio} (h : VN a) : IntKind.u64.wrap a.Den = (a.Den.natAbs : Int) := by
  have h1 := h.d0; have h2 := h.d1; have h3 := h.de
  rw [wrapU_id (by omega) (by omega)]; omega
def sgn (a b : api_Ratio) : Bool := !((decide (a.Num < (0 : Int))) == (decide (b.Num < (0 : Int))))
def mulOf (a b : api_Ratio) : api_Ratio × Int := if vR a = true ∧ vR b = true then redOf (sgn a b) (a.Num.natAbs * b.Num.natAbs) (a.Den.natAbs * b.Den.natAbs) else (⟨0, 0⟩, 1)
theorem mul_lowest (na nb da db : Nat) (ha : Nat.gcd na da = 1) (hb : Nat.gcd nb db = 1) (h1 : 0 < da) (h2 : 0 < db) (neg : Bool) :
    redOf neg (na * nb) (da * db) = fitOf neg (na / Nat.gcd na db * (nb / Nat.gcd nb da)) (da / Nat.gcd nb da * (db / Nat.gcd na db)) := by
  have g1 : 0 < Nat.gcd na db := Nat.gcd_pos_of_pos_right _ h2
  have g2 : 0 < Nat.gcd nb da := Nat.gcd_pos_of_pos_right _ h1
  have e1 := Nat.div_mul_cancel (Nat.gcd_dvd_left na db)
  have e2 := Nat.div_mul_cancel (Nat.gcd_dvd_right na db)
  have e3 := Nat.div_mul_cancel (Nat.gcd_dvd_left nb da)
  have e4 := Nat.div_mul_cancel (Nat.gcd_dvd_right nb da)
  refine red_unique neg _ _ _ _ (Nat.gcd na db * Nat.gcd nb da) (Nat.mul_pos g1 g2) ?_ ?_ ?_
  · conv => lhs; rw [← e1, ← e3]
    simp only [Nat.mul_assoc, Nat.mul_left_comm, Nat.mul_comm]
  · conv => lhs; rw [← e4, ← e2]
    simp only [Nat.mul_assoc, Nat.mul_left_comm, Nat.mul_comm]
  · have c1 : Nat.Coprime na da := ha
    have c2 : Nat.Coprime nb db := hb
    have d1 : na / Nat.gcd na db ∣ na := ⟨_, e1.symm⟩
    have d2 : db / Nat.gcd na db ∣ db := ⟨_, e2.symm⟩
    have d3 : nb / Nat.gcd nb da ∣ nb := ⟨_, e3.symm⟩
    have d4 : da / Nat.gcd nb da ∣ da := ⟨_, e4.symm⟩
    have k1 : Nat.Coprime (na / Nat.gcd na db) (da / Nat.gcd nb da) := (c1.coprime_dvd_left d1).coprime_dvd_right d4
    have k2 : Nat.Coprime (na / Nat.gcd na db) (db / Nat.gcd na db) := Nat.coprime_div_gcd_div_gcd g1
    have k3 : Nat.Coprime (nb / Nat.gcd nb da) (da / Nat.gcd nb da) := Nat.coprime_div_gcd_div_gcd g2
    have k4 : Nat.Coprime (nb / Nat.gcd nb da) (db / Nat.gcd na db) := (c2.coprime_dvd_left d3).coprime_dvd_right d2
    exact Nat.Coprime.mul_left (k1.mul_right k2) (k3.mul_right k4)
theorem Mul_eq (a b : api_Ratio) : ratio_Mul a b = some (mulOf a b) := by
  unfold ratio_Mul mulOf
  rw [Valid_eq, Valid_eq]
  simp only [Option.bind]
  rw [req_pos (by intro _; rfl)]
  simp only [Option.getD_some]
  cases ha : vR a with
  | false => simp
  | true =>
    cases hb : vR b with
    | false => simp
    | true =>
      have va := vn_of ha
      have vb := vn_of hb
      simp only [Bool.not_true, Bool.or_self, cond_false, and_self, if_true]
      rw [mag_eq _ va.i1, mag_eq _ vb.i1]
      simp only
      rw [wrapU_den va, wrapU_den vb, gcd_eq, gcd_eq]
      simp only
      have g1 : 0 < Nat.gcd a.Num.natAbs b.Den.natAbs := Nat.gcd_pos_of_pos_right _ vb.d0
      have g2 : 0 < Nat.gcd b.Num.natAbs a.Den.natAbs := Nat.gcd_pos_of_pos_right _ va.d0
      have n1 := va.n1; have n2 := vb.n1; have d1 := va.d1; have d2 := vb.d1
      have q1 := Nat.div_le_self a.Num.natAbs (Nat.gcd a.Num.natAbs b.Den.natAbs)
      have q2 := Nat.div_le_self b.Num.natAbs (Nat.gcd b.Num.natAbs a.Den.natAbs)
      have q3 := Nat.div_le_self a.Den.natAbs (Nat.gcd b.Num.natAbs a.Den.natAbs)
      have q4 := Nat.div_le_self b.Den.natAbs (Nat.gcd a.Num.natAbs b.Den.natAbs)
      rw [req_pos (by omega)]
      simp only [tdiv_nat]
      rw [wrapU_nat _ (by omega), wrapU_nat _ (by omega), wrapU_nat _ (by omega), wrapU_nat _ (by omega), product_eq _ _ (by omega) (by omega)]
      simp only
      rw [req_pos (by omega), product_eq _ _ (by omega) (by omega)]
      simp only
      rw [fittedW, mul_lowest _ _ _ _ va.cop vb.cop va.d0 vb.d0]
      rfl
def divOf (a b : api_Ratio) : api_Ratio × Int := if vR a = true ∧ vR b = true then (if b.Num = 0 then (⟨0, 0⟩, 2) else redOf (sgn a b) (a.Num.natAbs * b.Den.natAbs) (a.Den.natAbs * b.Num.natAbs)) else (⟨0, 0⟩, 1)
theorem Div_eq (a b : api_Ratio) : ratio_Div a b = some (divOf a b) := by
  unfold ratio_Div divOf
  rw [Valid_eq, Valid_eq]
  simp only [Option.bind]
  rw [req_pos (by intro _; rfl)]
  simp only [Option.getD_some]
  cases ha : vR a with
  | false => simp
  | true =>
    cases hb : vR b with
    | false => simp
    | true =>
      have va := vn_of ha
      have vb := vn_of hb
      have n1 := va.n1; have n2 := vb.n1; have d1 := va.d1; have d2 := vb.d1; have d3 := vb.d0; have d4 := vb.de
      simp only [Bool.not_true, Bool.or_self, cond_false, and_self, if_true]
      by_cases hz : b.Num = 0
      · rw [if_pos hz, show (b.Num == 0) = true by simpa using hz]; rfl
      · rw [if_neg hz, show (b.Num == 0) = false by simpa using hz, cond_false]
        have inv : ∀ x y : Int, x.natAbs = b.Den.natAbs → y = (b.Num.natAbs : Int) → (decide (x < 0) = decide (b.Num < 0)) → ratio_Div_j1 a x y = some (redOf (sgn a b) (a.Num.natAbs * b.Den.natAbs) (a.Den.natAbs * b.Num.natAbs)) := by
          intro x y hx hy hs
          unfold ratio_Div_j1
          rw [Mul_eq]
          have hv : vR ⟨x, y⟩ = true := by
            rw [vR_iff]
            refine ⟨by show 1 ≤ y; omega, by show y ≤ _; omega, by show _ ≤ x; omega, by show x ≤ _; omega, ?_⟩
            show Nat.gcd x.natAbs y.natAbs = 1
            rw [hx, hy, Int.natAbs_natCast, Nat.gcd_comm]; exact vb.cop
          unfold mulOf
          rw [if_pos ⟨ha, hv⟩]
          have hs' : sgn a ⟨x, y⟩ = sgn a b := by unfold sgn; simp only [hs]
          rw [hs']
          show some (redOf _ (a.Num.natAbs * x.natAbs) (a.Den.natAbs * y.natAbs)) = _
          rw [hx, hy, Int.natAbs_natCast]
        rcases bcases (decide (b.Num < 0)) with hc | hc <;> rw [hc]
        · have hc' : b.Num < 0 := by simpa using hc
          rw [cond_true, wrap64 (n := 0 - b.Den) (by omega) (by omega), wrap64 (n := 0 - b.Num) (by omega) (by omega)]
          exact inv _ _ (by omega) (by omega) (by rw [Bool.eq_iff_iff]; simp; omega)
        · have hc' : 0 ≤ b.Num := by simpa using hc
          rw [cond_false]
          exact inv _ _ rfl (by omega) (by rw [Bool.eq_iff_iff]; simp; omega)
def tab8 : Str := ((List.append (List.append [0, 1, 2, 2, 3, 3, 3, 3, 4, 4, 4, 4, 4, 4, 4, 4, 5, 5, 5, 5, 5, 5, 5, 5, 5, 5, 5, 5, 5, 5, 5, 5, 6, 6, 6, 6, 6, 6, 6, 6, 6, 6, 6, 6, 6, 6, 6, 6, 6, 6, 6, 6, 6, 6, 6, 6, 6, 6, 6, 6, 6, 6, 6, 6] [7, 7, 7, 7, 7, 7, 7, 7, 7, 7, 7, 7, 7, 7, 7, 7, 7, 7, 7, 7, 7, 7, 7, 7, 7, 7, 7, 7, 7, 7, 7, 7, 7, 7, 7, 7, 7, 7, 7, 7, 7, 7, 7, 7, 7, 7, 7, 7, 7, 7, 7, 7, 7, 7, 7, 7, 7, 7, 7, 7, 7, 7, 7, 7]) (List.append [8, 8, 8, 8, 8, 8, 8, 8, 8, 8, 8, 8, 8, 8, 8, 8, 8, 8, 8, 8, 8, 8, 8, 8, 8, 8, 8, 8, 8, 8, 8, 8, 8, 8, 8, 8, 8, 8, 8, 8, 8, 8, 8, 8, 8, 8, 8, 8, 8, 8, 8, 8, 8, 8, 8, 8, 8, 8, 8, 8, 8, 8, 8, 8] [8, 8, 8, 8, 8, 8, 8, 8, 8, 8, 8, 8, 8, 8, 8, 8, 8, 8, 8, 8, 8, 8, 8, 8, 8, 8, 8, 8, 8, 8, 8, 8, 8, 8, 8, 8, 8, 8, 8, 8, 8, 8, 8, 8, 8, 8, 8, 8, 8, 8, 8, 8, 8, 8, 8, 8, 8, 8, 8, 8, 8, 8, 8, 8])) : Str)
theorem tab8_ok : ∀ x : _root_.Fin 256, x.val = 0 ∨ (1 ≤ (tab8.getD x.val 0).toNat ∧ (tab8.getD x.val 0).toNat ≤ 8 ∧ 2 ^ ((tab8.getD x.val 0).toNat - 1) ≤ x.val ∧ x.val < 2 ^ (tab8.getD x.val 0).toNat) := by decide +kernel
theorem len1 (y x n : Nat) (hx0 : 0 < x) (hx : x < 256) (hn : n ≤ 56) (he : y / 2 ^ n = x) : ∃ L : Nat, 1 ≤ L ∧ L ≤ n + 8 ∧ bits_Len64_j1 (x : Int) (n : Int) = some (L : Int) ∧ 2 ^ (L - 1) ≤ y ∧ y < 2 ^ L := by
  have h := tab8_ok ⟨x, hx⟩
  simp only at h
  generalize ht : (tab8.getD x 0).toNat = t at h
  rcases h with h | ⟨h1, h2, h3, h4⟩
  · omega
  have ew : IntKind.u8.wrap (x : Int) = (x : Int) := by
    simp only [IntKind.wrap, IntKind.bits, IntKind.signed]; simp; omega
  refine ⟨n + t, by omega, by omega, ?_, ?_, ?_⟩
  · show (req ((0 ≤ IntKind.u8.wrap (x : Int) ∧ IntKind.u8.wrap (x : Int) < (tab8.length : Int))) <| bindV (IntKind.i64.wrap ((n : Int) + (IntKind.i64.wrap (sx tab8 (IntKind.u8.wrap (x : Int)))))) fun n3 => some n3) = _
    rw [ew, req_pos ⟨by omega, by rw [show tab8.length = 256 by decide]; omega⟩]
    have e2 : sx tab8 (x : Int) = (t : Int) := by unfold sx; rw [Int.toNat_natCast, ht]
    rw [e2]
    unfold bindV
    rw [wrap64 (n := (t : Int)) (by omega) (by omega), wrap64 (by omega) (by omega)]
    simp
  · rw [show n + t - 1 = (t - 1) + n by omega, Nat.pow_add]
    rw [← he] at h3
    exact (Nat.le_div_iff_mul_le (Nat.two_pow_pos n)).1 h3
  · rw [Nat.add_comm n t, Nat.pow_add]
    rw [← he] at h4
    exact (Nat.div_lt_iff_lt_mul (Nat.two_pow_pos n)).1 h4
theorem shr_lit (x j : Nat) (J : Int) (hJ : J = (j : Int)) (hj : j ≤ 64) : bShr .u64 (x : Int) J = ((x / 2 ^ j : Nat) : Int) := by rw [hJ]; exact shrN x j hj
theorem len2 (y x n : Nat) (hx0 : 0 < x) (hx : x < 65536) (hn : n ≤ 48) (he : y / 2 ^ n = x) : ∃ L : Nat, 1 ≤ L ∧ L ≤ n + 16 ∧ bits_Len64_j2 (x : Int) (n : Int) = some (L : Int) ∧ 2 ^ (L - 1) ≤ y ∧ y < 2 ^ L := by
  unfold bits_Len64_j2
  by_cases hc : 256 ≤ x
  · rw [show decide ((256 : Int) ≤ (x : Int)) = true by simp only [decide_eq_true_eq]; omega, cond_true, shr_lit x 8 8 rfl (by omega), wrap64 (by omega) (by omega), show (n : Int) + 8 = ((n + 8 : Nat) : Int) by omega]
    obtain ⟨L, h1, h2, h3⟩ := len1 y (x / 2 ^ 8) (n + 8) (by omega) (by omega) (by omega) (by rw [Nat.pow_add, ← Nat.div_div_eq_div_mul, he])
    exact ⟨L, h1, by omega, h3⟩
  · rw [show decide ((256 : Int) ≤ (x : Int)) = false by simp only [decide_eq_false_iff_not]; omega, cond_false]
    obtain ⟨L, h1, h2, h3⟩ := len1 y x n hx0 (by omega) (by omega) he
    exact ⟨L, h1, by omega, h3⟩
theorem len3 (y x n : Nat) (hx0 : 0 < x) (hx : x < 4294967296) (hn : n ≤ 32) (he : y / 2 ^ n = x) : ∃ L : Nat, 1 ≤ L ∧ L ≤ n + 32 ∧ bits_Len64_j3 (x : Int) (n : Int) = some (L : Int) ∧ 2 ^ (L - 1) ≤ y ∧ y < 2 ^ L := by
  unfold bits_Len64_j3
  by_cases hc : 65536 ≤ x
  · rw [show decide ((65536 : Int) ≤ (x : Int)) = true by simp only [decide_eq_true_eq]; omega, cond_true, shr_lit x 16 16 rfl (by omega), wrap64 (by omega) (by omega), show (n : Int) + 16 = ((n + 16 : Nat) : Int) by omega]
    obtain ⟨L, h1, h2, h3⟩ := len2 y (x / 2 ^ 16) (n + 16) (by omega) (by omega) (by omega) (by rw [Nat.pow_add, ← Nat.div_div_eq_div_mul, he])
    exact ⟨L, h1, by omega, h3⟩
  · rw [show decide ((65536 : Int) ≤ (x : Int)) = false by simp only [decide_eq_false_iff_not]; omega, cond_false]
    obtain ⟨L, h1, h2, h3⟩ := len2 y x n hx0 (by omega) (by omega) he
    exact ⟨L, h1, by omega, h3⟩
theorem Len64_eq (y : Nat) (h0 : 0 < y) (h : y < 18446744073709551616) : ∃ L : Nat, 1 ≤ L ∧ L ≤ 64 ∧ bits_Len64 (y : Int) = some (L : Int) ∧ 2 ^ (L - 1) ≤ y ∧ y < 2 ^ L := by
  unfold bits_Len64
  by_cases hc : 4294967296 ≤ y
  · rw [show decide ((4294967296 : Int) ≤ (y : Int)) = true by simp only [decide_eq_true_eq]; omega, cond_true, shr_lit y 32 32 rfl (by omega), show (32 : Int) = ((32 : Nat) : Int) by rfl]
    exact len3 y (y / 2 ^ 32) 32 (by omega) (by omega) (by omega) rfl
  · rw [show decide ((4294967296 : Int) ≤ (y : Int)) = false by simp only [decide_eq_false_iff_not]; omega, cond_false]
    obtain ⟨L, h1, h2, h3⟩ := len3 y y 0 h0 (by omega) (by omega) (by simp)
    exact ⟨L, h1, by omega, h3⟩
theorem Lead_eq (y : Nat) (h0 : 0 < y) (h : y < 18446744073709551616) : ∃ s : Nat, s ≤ 63 ∧ bits_LeadingZeros64 (y : Int) = some (s : Int) ∧ 9223372036854775808 ≤ y * 2 ^ s ∧ y * 2 ^ s < 18446744073709551616 := by
  obtain ⟨L, h1, h2, h3, h4, h5⟩ := Len64_eq y h0 h
  refine ⟨64 - L, by omega, ?_, ?_, ?_⟩
  · unfold bits_LeadingZeros64
    rw [h3]
    simp only [Option.bind]
    rw [wrap64 (by omega) (by omega), show (64 : Int) - (L : Int) = ((64 - L : Nat) : Int) by omega]
  · have := Nat.mul_le_mul_right (2 ^ (64 - L)) h4
    rw [← Nat.pow_add, show L - 1 + (64 - L) = 63 by omega] at this
    simpa using this
  · have := Nat.mul_lt_mul_of_pos_right h5 (Nat.two_pow_pos (64 - L))
    rw [← Nat.pow_add, show L + (64 - L) = 64 by omega] at this
    simpa using this

theorem knuth {σ : Type} {f : σ → Option (σ ⊕ Int)} (en : Nat → Nat → σ) (v1 v0 d u : Nat) (hv1 : 2147483648 ≤ v1) (hv1' : v1 < 4294967296) (hv0 : v0 < 4294967296) (hd : d < 4294967296) (hu : u < v1 * 4294967296 + v0)
    (hf : ∀ q r, q ≤ 4294967297 → r < 4294967296 → f (en q r) = some (if 4294967296 ≤ q ∨ 4294967296 * r + d < q * v0 then (if 4294967296 ≤ r + v1 then .inr ((q - 1 : Nat) : Int) else .inl (en (q - 1) (r + v1))) else .inr (q : Int))) :
    ∀ q r, q * v1 + r = u → q ≤ 4294967297 → r < 4294967296 → (u * 4294967296 + d) / (v1 * 4294967296 + v0) ≤ q → iter f (en q r) = some (((u * 4294967296 + d) / (v1 * 4294967296 + v0) : Nat) : Int) := by
  have hy : 0 < v1 * 4294967296 + v0 := by omega
  have hQ : (u * 4294967296 + d) / (v1 * 4294967296 + v0) < 4294967296 := by
    rw [Nat.div_lt_iff_lt_mul hy]; omega
  -- what a candidate says
  have cand : ∀ q r, q * v1 + r = u → (q * v0 ≤ 4294967296 * r + d ↔ q ≤ (u * 4294967296 + d) / (v1 * 4294967296 + v0)) := by
    intro q r he
    rw [Nat.le_div_iff_mul_le hy, Nat.mul_add, ← Nat.mul_assoc]
    omega
  intro q
  induction q with
  | zero =>
    intro r he hq hr hle
    have h1 := hf 0 r hq hr
    rw [if_neg (by omega)] at h1
    rw [iter_inr h1]
    congr 1
    have : (u * 4294967296 + d) / (v1 * 4294967296 + v0) = 0 := Nat.le_zero.1 hle
    rw [this]
  | succ q ih =>
    intro r he hq hr hle
    have h1 := hf (q + 1) r hq hr
    have hc := cand (q + 1) r he
    by_cases hb : 4294967296 ≤ q + 1 ∨ 4294967296 * r + d < (q + 1) * v0
    · rw [if_pos hb] at h1
      have hlt : (u * 4294967296 + d) / (v1 * 4294967296 + v0) ≤ q := by
        rcases hb with hb | hb
        · omega
        · have : ¬ (q + 1 ≤ (u * 4294967296 + d) / (v1 * 4294967296 + v0)) := fun h => by have := hc.2 h; omega
          omega
      have he' : q * v1 + (r + v1) = u := by rw [Nat.add_mul] at he; omega
      by_cases hs : 4294967296 ≤ r + v1
      · rw [if_pos hs] at h1
        rw [iter_inr h1]
        congr 1
        have h2 : q * v0 ≤ 4294967296 * 4294967296 := Nat.mul_le_mul (by omega) (by omega)
        have h3 := (cand q (r + v1) he').1 (by omega)
        have : q = (u * 4294967296 + d) / (v1 * 4294967296 + v0) := by omega
        simp only [Nat.add_sub_cancel]
        rw [← this]
      · rw [if_neg hs] at h1
        rw [iter_inl h1]
        exact ih (r + v1) he' (by omega) (by omega) hlt
    · rw [if_neg hb] at h1
      rw [iter_inr h1]
      congr 1
      have h3 := hc.1 (by omega)
      have : q + 1 = (u * 4294967296 + d) / (v1 * 4294967296 + v0) := by omega
      rw [← this]
theorem knuth_first (v1 v0 d u : Nat) (hv1 : 2147483648 ≤ v1) (hv0 : v0 < 4294967296) (hd : d < 4294967296) (hu : u < v1 * 4294967296 + v0) :
    u / v1 * v1 + u % v1 = u ∧ u / v1 ≤ 4294967297 ∧ u % v1 < v1 ∧ (u * 4294967296 + d) / (v1 * 4294967296 + v0) ≤ u / v1 := by
  have h0 : 0 < v1 := by omega
  refine ⟨by rw [Nat.mul_comm]; exact Nat.div_add_mod u v1, ?_, Nat.mod_lt _ h0, ?_⟩
  · have : u / v1 < 4294967298 := by
      rw [Nat.div_lt_iff_lt_mul h0]; omega
    omega
  · have h1 := Nat.div_add_mod u v1
    have h2 := Nat.mod_lt u h0
    have : (u * 4294967296 + d) / (v1 * 4294967296 + v0) < u / v1 + 1 := by
      rw [Nat.div_lt_iff_lt_mul (by omega)]
      have e : (u / v1 + 1) * (v1 * 4294967296 + v0) = (v1 * (u / v1)) * 4294967296 + v1 * 4294967296 + (u / v1 + 1) * v0 := by
        rw [Nat.mul_add, Nat.add_mul, ← Nat.mul_assoc, Nat.mul_comm (u / v1) v1]; omega
      omega
    omega

theorem and32n (x : Nat) (hx : x < 18446744073709551616) : bAnd .u64 (x : Int) 4294967295 = ((x % 4294967296 : Nat) : Int) := and32 x hx
theorem wrap3 (u d P R : Nat) (h : P + R = u * 4294967296 + d) (hR : R < 18446744073709551616) : IntKind.u64.wrap (IntKind.u64.wrap (IntKind.u64.wrap ((u : Int) * 4294967296) + (d : Int)) - IntKind.u64.wrap (P : Int)) = (R : Int) := by
  rw [wrapU, wrapU, wrapU, wrapU]
  omega
theorem wrap2 (q x : Nat) (hq : q < 4294967296) (hx : x < 4294967296) : IntKind.u64.wrap (IntKind.u64.wrap ((q : Int) * 4294967296) + (x : Int)) = ((q * 4294967296 + x : Nat) : Int) := by
  rw [wrapU, wrapU]
  omega
noncomputable def kl4 (Y d : Nat) : Int × Int → Option ((Int × Int) ⊕ Int) :=
  fun (q12, rhat4) =>
    bif ((decide ((4294967296 : Int) ≤ q12)) || (decide ((IntKind.u64.wrap ((IntKind.u64.wrap ((4294967296 : Int) * rhat4)) + (d : Int))) < (IntKind.u64.wrap (q12 * ((Y % 4294967296 : Nat) : Int)))))) then
      bindV (IntKind.u64.wrap (rhat4 + ((Y / 4294967296 : Nat) : Int))) fun rhat5 =>
      bif (decide ((4294967296 : Int) ≤ rhat5)) then
        some (.inr (IntKind.u64.wrap (q12 - (1 : Int))))
      else
        some (.inl ((IntKind.u64.wrap (q12 - (1 : Int))), rhat5))
    else
      some (.inr q12)
noncomputable def kl2 (Y d : Nat) : Int × Int → Option ((Int × Int) ⊕ Int) :=
  fun (rhat2, q02) =>
    bif ((decide ((4294967296 : Int) ≤ q02)) || (decide ((IntKind.u64.wrap ((IntKind.u64.wrap ((4294967296 : Int) * rhat2)) + (d : Int))) < (IntKind.u64.wrap (q02 * ((Y % 4294967296 : Nat) : Int)))))) then
      bindV (IntKind.u64.wrap (rhat2 + ((Y / 4294967296 : Nat) : Int))) fun rhat3 =>
      bif (decide ((4294967296 : Int) ≤ rhat3)) then
        some (.inr (IntKind.u64.wrap (q02 - (1 : Int))))
      else
        some (.inl (rhat3, (IntKind.u64.wrap (q02 - (1 : Int)))))
    else
      some (.inr q02)
theorem Div64_eq (hi lo y : Nat) (hh : hi < y) (hl : lo < 18446744073709551616) (hy : y < 18446744073709551616) : bits_Div64 (hi : Int) (lo : Int) (y : Int) = some ((((hi * 18446744073709551616 + lo) / y : Nat) : Int), (((hi * 18446744073709551616 + lo) % y : Nat) : Int)) := by
  have hy0 : 0 < y := by omega
  by_cases h0 : hi = 0
  · subst h0
    have := Div64_0 lo y hl hy0
    simpa using this
  unfold bits_Div64 bits_Div64_j6 bits_Div64_j5
  rw [show ((y : Int) == 0) = false by simp; omega, cond_false, show decide ((y : Int) ≤ (hi : Int)) = false by simp only [decide_eq_false_iff_not]; omega, cond_false, show ((hi : Int) == 0) = false by simp; omega, cond_false]
  obtain ⟨s, hs, e1, n1, n2⟩ := Lead_eq y hy0 hy
  rw [e1, some_bind]
  rw [wrapU_nat s (by omega), wrapU_id (n := (64 : Int) - (s : Int)) (by omega) (by omega), req_pos (by omega), req_pos (by omega)]
  have hsp := Nat.two_pow_pos s
  have hB : 2 ^ (64 - s) * 2 ^ s = 18446744073709551616 := by rw [← Nat.pow_add, show 64 - s + s = 64 by omega]
  -- the divisor, shifted
  have ey : bShl .u64 (y : Int) (s : Int) = ((y * 2 ^ s : Nat) : Int) := by rw [shlN y s (by omega), Nat.mod_eq_of_lt n2]
  -- the dividend, shifted
  have hhs : hi * 2 ^ s + 2 ^ s ≤ y * 2 ^ s := by
    have := Nat.mul_le_mul_right (2 ^ s) (show hi + 1 ≤ y by omega)
    rw [Nat.add_mul, Nat.one_mul] at this; exact this
  have hlo : lo / 2 ^ (64 - s) < 2 ^ s := by
    rw [Nat.div_lt_iff_lt_mul (Nat.two_pow_pos _), Nat.mul_comm, hB]; exact hl
  have eu : bOr .u64 (bShl .u64 (hi : Int) (s : Int)) (bShr .u64 (lo : Int) ((64 : Int) - (s : Int))) = ((hi * 2 ^ s + lo / 2 ^ (64 - s) : Nat) : Int) := by
    rw [shlN hi s (by omega), Nat.mod_eq_of_lt (by omega), shr_lit lo (64 - s) _ (by omega) (by omega)]
    unfold bOr
    have := Nat.two_pow_add_eq_or_of_lt (i := s) (b := lo / 2 ^ (64 - s)) hlo hi
    rw [Nat.mul_comm _ hi] at this
    rw [BitVec.toNat_or, ofU _ (by omega), ofU _ (by omega), ← this, wrapU_id (by omega) (by omega)]
  have el : bShl .u64 (lo : Int) (s : Int) = ((lo * 2 ^ s % 18446744073709551616 : Nat) : Int) := shlN lo s (by omega)
  have hU : (hi * 18446744073709551616 + lo) * 2 ^ s = (hi * 2 ^ s + lo / 2 ^ (64 - s)) * 18446744073709551616 + lo * 2 ^ s % 18446744073709551616 := by
    have h1 : lo * 2 ^ s / 18446744073709551616 = lo / 2 ^ (64 - s) := by
      rw [← hB, Nat.mul_div_mul_right _ _ hsp]
    have h2 := Nat.div_add_mod (lo * 2 ^ s) 18446744073709551616
    rw [h1] at h2
    rw [Nat.add_mul, Nat.add_mul, Nat.mul_right_comm]; omega
  have hMy : (hi * 18446744073709551616 + lo) / y = (hi * 18446744073709551616 + lo) * 2 ^ s / (y * 2 ^ s) := (Nat.mul_div_mul_right _ _ hsp).symm
  have hMm : (hi * 18446744073709551616 + lo) % y = (hi * 18446744073709551616 + lo) * 2 ^ s % (y * 2 ^ s) / 2 ^ s := by
    rw [Nat.mul_mod_mul_right, Nat.mul_div_cancel _ hsp]
  rw [hMy, hMm, hU]
  have hun : hi * 2 ^ s + lo / 2 ^ (64 - s) < y * 2 ^ s := by omega
  have hul : lo * 2 ^ s % 18446744073709551616 < 18446744073709551616 := Nat.mod_lt _ (by omega)
  unfold bits_Div64_j3 bits_Div64_j1 bindV
  dsimp only
  have fl4 : bits_Div64_l4 (lo : Int) (y : Int) (s : Int) = kl4 (y * 2 ^ s) (lo * 2 ^ s % 18446744073709551616 / 4294967296) := by
    funext ⟨q, r⟩
    simp only [bits_Div64_l4, kl4]
    rw [wrapU_nat s (by omega), ey, el, shr32, shr32, and32 _ n2]
  have fl2 : bits_Div64_l2 (lo : Int) (y : Int) (s : Int) = kl2 (y * 2 ^ s) (lo * 2 ^ s % 18446744073709551616 % 4294967296) := by
    funext ⟨r, q⟩
    simp only [bits_Div64_l2, kl2]
    rw [wrapU_nat s (by omega), ey, el, shr32, and32 _ n2, and32 _ hul]
  rw [fl4, fl2, req_pos (by omega)]
  simp only [wrapU_nat s (by omega)]
  rw [ey, eu, el]
  simp only [shr32]
  rw [and32 _ hul]
  generalize hYdef : y * 2 ^ s = Y at *
  generalize hUdef : hi * 2 ^ s + lo / 2 ^ (64 - s) = u at *
  generalize hLdef : lo * 2 ^ s % 18446744073709551616 = l at *
  have hv1 : 2147483648 ≤ Y / 4294967296 := by omega
  have hv1' : Y / 4294967296 < 4294967296 := by omega
  have hv0 : Y % 4294967296 < 4294967296 := by omega
  have hYe : Y / 4294967296 * 4294967296 + Y % 4294967296 = Y := by omega
  rw [req_pos (by omega)]
  have step : ∀ (d q r : Nat), d < 4294967296 → q ≤ 4294967297 → r < 4294967296 →
      (((decide ((4294967296 : Int) ≤ (q : Int))) || (decide ((IntKind.u64.wrap ((IntKind.u64.wrap ((4294967296 : Int) * (r : Int))) + (d : Int))) < (IntKind.u64.wrap ((q : Int) * ((Y % 4294967296 : Nat) : Int)))))) = decide (4294967296 ≤ q ∨ 4294967296 * r + d < q * (Y % 4294967296))) ∧ IntKind.u64.wrap ((r : Int) + ((Y / 4294967296 : Nat) : Int)) = ((r + Y / 4294967296 : Nat) : Int) := by
    intro d q r hd hq hr
    have hm : q * (Y % 4294967296) ≤ 4294967297 * 4294967295 := Nat.mul_le_mul hq (by omega)
    have e1 : (q : Int) * ((Y % 4294967296 : Nat) : Int) = ((q * (Y % 4294967296) : Nat) : Int) := by rw [Int.natCast_mul]
    rw [e1, wrapU_id (n := (4294967296 : Int) * (r : Int)) (by omega) (by omega), wrapU_id (n := (4294967296 : Int) * (r : Int) + (d : Int)) (by omega) (by omega), wrapU_id (n := ((q * (Y % 4294967296) : Nat) : Int)) (by omega) (by omega), wrapU_id (n := (r : Int) + ((Y / 4294967296 : Nat) : Int)) (by omega) (by omega)]
    refine ⟨?_, by omega⟩
    rw [Bool.eq_iff_iff]
    simp only [Bool.or_eq_true, decide_eq_true_eq]
    omega
  -- the first digit
  obtain ⟨f1, f2, f3, f4⟩ := knuth_first (Y / 4294967296) (Y % 4294967296) (l / 4294967296) u hv1 hv0 (by omega) (by omega)
  have k1 := knuth (f := kl4 Y (l / 4294967296)) (fun q r => ((q : Int), (r : Int))) (Y / 4294967296) (Y % 4294967296) (l / 4294967296) u hv1 hv1' hv0 (by omega) (by omega) (by
    intro q r hq hr
    obtain ⟨s1, s2⟩ := step (l / 4294967296) q r (by omega) hq hr
    simp only [kl4]
    rw [s1, s2]
    unfold bindV
    dsimp only
    by_cases hc : 4294967296 ≤ q ∨ 4294967296 * r + l / 4294967296 < q * (Y % 4294967296)
    · rw [if_pos hc, show decide (4294967296 ≤ q ∨ 4294967296 * r + l / 4294967296 < q * (Y % 4294967296)) = true by simpa using hc, cond_true]
      have hq1 : 1 ≤ q := by
        rcases hc with hc | hc
        · omega
        · rcases Nat.eq_zero_or_pos q with h | h
          · subst h; omega
          · exact h
      rw [wrapU_id (n := (q : Int) - 1) (by omega) (by omega), show (q : Int) - 1 = ((q - 1 : Nat) : Int) by omega]
      by_cases hd : 4294967296 ≤ r + Y / 4294967296
      · rw [if_pos hd, show decide ((4294967296 : Int) ≤ ((r + Y / 4294967296 : Nat) : Int)) = true by simp only [decide_eq_true_eq]; omega, cond_true]
      · rw [if_neg hd, show decide ((4294967296 : Int) ≤ ((r + Y / 4294967296 : Nat) : Int)) = false by simp only [decide_eq_false_iff_not]; omega, cond_false]
    · rw [if_neg hc, show decide (4294967296 ≤ q ∨ 4294967296 * r + l / 4294967296 < q * (Y % 4294967296)) = false by simpa using hc, cond_false]) (u / (Y / 4294967296)) (u % (Y / 4294967296)) f1 f2 (by omega) f4
  rw [hYe] at k1
  have hQ1 : (u * 4294967296 + l / 4294967296) / Y < 4294967296 := by
    rw [Nat.div_lt_iff_lt_mul (by omega)]; omega
  have r1 := Nat.div_add_mod (u * 4294967296 + l / 4294967296) Y
  have r1' := Nat.mod_lt (u * 4294967296 + l / 4294967296) (show 0 < Y by omega)
  have eq1 : IntKind.u64.wrap (Int.tdiv (u : Int) ((Y / 4294967296 : Nat) : Int)) = ((u / (Y / 4294967296) : Nat) : Int) := by rw [tdiv_nat, wrapU_nat _ (by omega)]
  have er1 : IntKind.u64.wrap ((u : Int) - IntKind.u64.wrap (((u / (Y / 4294967296) : Nat) : Int) * ((Y / 4294967296 : Nat) : Int))) = ((u % (Y / 4294967296) : Nat) : Int) := by
    rw [← Int.natCast_mul, wrapU_nat _ (by omega), wrapU_id (by omega) (by omega)]; omega
  try dsimp only at k1
  rw [eq1, er1, k1, some_bind]
  -- what is left of the first digit
  have e21 : IntKind.u64.wrap (IntKind.u64.wrap (IntKind.u64.wrap ((u : Int) * 4294967296) + ((l / 4294967296 : Nat) : Int)) - IntKind.u64.wrap ((((u * 4294967296 + l / 4294967296) / Y : Nat) : Int) * (Y : Int))) = (((u * 4294967296 + l / 4294967296) % Y : Nat) : Int) := by
    rw [← Int.natCast_mul, Nat.mul_comm _ Y]
    exact wrap3 u (l / 4294967296) _ _ r1 (by omega)
  rw [e21, req_pos (by omega)]
  obtain ⟨R1, hR1⟩ : ∃ R1, (u * 4294967296 + l / 4294967296) % Y = R1 := ⟨_, rfl⟩
  obtain ⟨Q1, hQ1d⟩ : ∃ Q1, (u * 4294967296 + l / 4294967296) / Y = Q1 := ⟨_, rfl⟩
  rw [hR1, hQ1d] at r1
  rw [hR1] at r1'
  rw [hQ1d] at hQ1
  rw [hR1, hQ1d]
  clear k1 e21 f1 f2 f3 f4 eq1 er1
  -- the second digit
  obtain ⟨g1, g2, g3, g4⟩ := knuth_first (Y / 4294967296) (Y % 4294967296) (l % 4294967296) R1 hv1 hv0 (by omega) (by omega)
  have k2 := knuth (f := kl2 Y (l % 4294967296)) (fun q r => ((r : Int), (q : Int))) (Y / 4294967296) (Y % 4294967296) (l % 4294967296) R1 hv1 hv1' hv0 (by omega) (by omega) (by
    intro q r hq hr
    obtain ⟨s1, s2⟩ := step (l % 4294967296) q r (by omega) hq hr
    simp only [kl2]
    rw [s1, s2]
    unfold bindV
    dsimp only
    by_cases hc : 4294967296 ≤ q ∨ 4294967296 * r + l % 4294967296 < q * (Y % 4294967296)
    · rw [if_pos hc, show decide (4294967296 ≤ q ∨ 4294967296 * r + l % 4294967296 < q * (Y % 4294967296)) = true by simpa using hc, cond_true]
      have hq1 : 1 ≤ q := by
        rcases hc with hc | hc
        · omega
        · rcases Nat.eq_zero_or_pos q with h | h
          · subst h; omega
          · exact h
      rw [wrapU_id (n := (q : Int) - 1) (by omega) (by omega), show (q : Int) - 1 = ((q - 1 : Nat) : Int) by omega]
      by_cases hd : 4294967296 ≤ r + Y / 4294967296
      · rw [if_pos hd, show decide ((4294967296 : Int) ≤ ((r + Y / 4294967296 : Nat) : Int)) = true by simp only [decide_eq_true_eq]; omega, cond_true]
      · rw [if_neg hd, show decide ((4294967296 : Int) ≤ ((r + Y / 4294967296 : Nat) : Int)) = false by simp only [decide_eq_false_iff_not]; omega, cond_false]
    · rw [if_neg hc, show decide (4294967296 ≤ q ∨ 4294967296 * r + l % 4294967296 < q * (Y % 4294967296)) = false by simpa using hc, cond_false]) (R1 / (Y / 4294967296)) (R1 % (Y / 4294967296)) g1 g2 (by omega) g4
  rw [hYe] at k2
  have hQ2 : (R1 * 4294967296 + l % 4294967296) / Y < 4294967296 := by
    rw [Nat.div_lt_iff_lt_mul (by omega)]; omega
  have r2 := Nat.div_add_mod (R1 * 4294967296 + l % 4294967296) Y
  have r2' := Nat.mod_lt (R1 * 4294967296 + l % 4294967296) (show 0 < Y by omega)
  have eq2 : IntKind.u64.wrap (Int.tdiv (R1 : Int) ((Y / 4294967296 : Nat) : Int)) = ((R1 / (Y / 4294967296) : Nat) : Int) := by rw [tdiv_nat, wrapU_nat _ (by omega)]
  have er2 : IntKind.u64.wrap ((R1 : Int) - IntKind.u64.wrap (((R1 / (Y / 4294967296) : Nat) : Int) * ((Y / 4294967296 : Nat) : Int))) = ((R1 % (Y / 4294967296) : Nat) : Int) := by
    rw [← Int.natCast_mul, wrapU_nat _ (by omega), wrapU_id (by omega) (by omega)]; omega
  try dsimp only at k2
  rw [eq2, er2, k2, some_bind]
  have e22 : IntKind.u64.wrap (IntKind.u64.wrap (IntKind.u64.wrap ((R1 : Int) * 4294967296) + ((l % 4294967296 : Nat) : Int)) - IntKind.u64.wrap ((((R1 * 4294967296 + l % 4294967296) / Y : Nat) : Int) * (Y : Int))) = (((R1 * 4294967296 + l % 4294967296) % Y : Nat) : Int) := by
    rw [← Int.natCast_mul, Nat.mul_comm _ Y]
    exact wrap3 R1 (l % 4294967296) _ _ r2 (by omega)
  rw [req_pos (by omega), e22, shrN _ s (by omega)]
  -- together
  have hfin := (Nat.div_mod_unique (a := u * 18446744073709551616 + l) (b := Y) (c := (R1 * 4294967296 + l % 4294967296) % Y) (d := Q1 * 4294967296 + (R1 * 4294967296 + l % 4294967296) / Y) (by omega)).2 ⟨by
    rw [Nat.mul_add, ← Nat.mul_assoc]; omega, r2'⟩
  rw [hfin.1, hfin.2, wrap2 _ _ hQ1 hQ2]
abbrev WW (n : Nat) : ratio_wide := ⟨hiW n, loW n⟩
theorem rem_core (hi lo d : Nat) (hd : 0 < d) : (hi * 18446744073709551616 + lo) % d = (hi % d * 18446744073709551616 + lo) % d := by
  have h := Nat.div_add_mod hi d
  conv => lhs; rw [← h]
  rw [Nat.add_mul, Nat.mul_assoc, Nat.add_assoc, Nat.mul_add_mod]
theorem quo_core (hi lo d : Nat) (hd : 0 < d) : (hi * 18446744073709551616 + lo) / d = hi / d * 18446744073709551616 + (hi % d * 18446744073709551616 + lo) / d := by
  have h := Nat.div_add_mod hi d
  conv => lhs; rw [← h]
  rw [Nat.add_mul, Nat.mul_assoc, Nat.add_assoc, Nat.mul_add_div hd]
theorem modW (n d : Nat) (hn : n < 340282366920938463463374607431768211456) (hd : 0 < d) (hd2 : d < 18446744073709551616) : ratio_wide_mod (WW n) (d : Int) = some ((n % d : Nat) : Int) := by
  unfold ratio_wide_mod bits_Rem64
  dsimp only [WW]
  rw [req_pos (by omega), tmod_nat, Div64_eq _ _ d (Nat.mod_lt _ hd) (by omega) hd2]
  simp only [Option.bind]
  rw [← rem_core _ _ d hd, show n / 18446744073709551616 * 18446744073709551616 + n % 18446744073709551616 = n by omega]
theorem overW (n d : Nat) (hn : n < 340282366920938463463374607431768211456) (hd : 0 < d) (hd2 : d < 18446744073709551616) : ratio_wide_over (WW n) (d : Int) = some (WW (n / d)) := by
  unfold ratio_wide_over
  dsimp only [WW]
  have h1 := Nat.div_le_self (n / 18446744073709551616) d
  rw [req_pos (by omega), tmod_nat, tdiv_nat, Div64_eq _ _ d (Nat.mod_lt _ hd) (by omega) hd2, wrapU_nat _ (by omega)]
  simp only [Option.bind]
  have e := quo_core (n / 18446744073709551616) (n % 18446744073709551616) d hd
  rw [show n / 18446744073709551616 * 18446744073709551616 + n % 18446744073709551616 = n by omega] at e
  have hlt : (n / 18446744073709551616 % d * 18446744073709551616 + n % 18446744073709551616) / d < 18446744073709551616 := by
    rw [Nat.div_lt_iff_lt_mul hd]
    have := Nat.mod_lt (n / 18446744073709551616) hd
    have h2 : n / 18446744073709551616 % d * 18446744073709551616 + 18446744073709551616 ≤ 18446744073709551616 * d := by omega
    omega
  rw [e]
  generalize (n / 18446744073709551616 % d * 18446744073709551616 + n % 18446744073709551616) / d = x at *
  generalize n / 18446744073709551616 / d = z at *
  simp only [Option.some.injEq, hiW, loW, ratio_wide.mk.injEq]
  constructor <;> omega
theorem plusW (m n : Nat) (h : m + n < 340282366920938463463374607431768211456) : ratio_wide_plus (WW m) (WW n) = some (WW (m + n)) := by
  unfold ratio_wide_plus bits_Add64
  dsimp only [WW, hiW, loW]
  rw [req_pos (by omega)]
  simp only [Option.bind]
  rw [req_pos (by omega)]
  simp only [Option.some.injEq, ratio_wide.mk.injEq]
  constructor <;> omega
theorem minusW (m n : Nat) (h : n ≤ m) (hm : m < 340282366920938463463374607431768211456) : ratio_wide_minus (WW m) (WW n) = some (WW (m - n)) := by
  unfold ratio_wide_minus bits_Sub64
  dsimp only [WW, hiW, loW]
  rw [req_pos (by omega)]
  simp only [Option.bind]
  by_cases hlt : ((m % 18446744073709551616 : Nat) : Int) < ((n % 18446744073709551616 : Nat) : Int) + 0
  · rw [if_pos hlt, req_pos (by omega)]
    simp only [Option.some.injEq, ratio_wide.mk.injEq]
    constructor <;> omega
  · rw [if_neg hlt, req_pos (by omega)]
    simp only [Option.some.injEq, ratio_wide.mk.injEq]
    constructor <;> omega
def addS (x : Bool) (m : Nat) (y : Bool) (n : Nat) : Bool × Nat := if x = y then (x, m + n) else if n ≤ m then (x, m - n) else (y, n - m)
theorem addS_le (x : Bool) (m : Nat) (y : Bool) (n : Nat) : (addS x m y n).2 ≤ m + n := by
  unfold addS; (repeat' split) <;> simp <;> omega
theorem addS_val (x : Bool) (m : Nat) (y : Bool) (n : Nat) : sv (addS x m y n).1 (addS x m y n).2 = sv x m + sv y n := by
  unfold addS
  split
  · rename_i h; subst h; cases x <;> simp [sv] <;> omega
  · rename_i h
    have hy : y = !x := by cases x <;> cases y <;> simp_all
    subst hy
    split <;> cases x <;> simp [sv] <;> omega
theorem addS_scale (x : Bool) (m : Nat) (y : Bool) (n g : Nat) (hg : 0 < g) : addS x (m * g) y (n * g) = ((addS x m y n).1, (addS x m y n).2 * g) := by
  unfold addS
  split
  · rw [Nat.add_mul]
  · by_cases h : n ≤ m
    · rw [if_pos h, if_pos (Nat.mul_le_mul_right g h), Nat.sub_mul]
    · rw [if_neg h, if_neg (fun h2 => h (Nat.le_of_mul_le_mul_right h2 hg)), Nat.sub_mul]
theorem cmpI_le (m n : Nat) : decide ((0 : Int) ≤ cmpI m n) = decide (n ≤ m) := by
  unfold cmpI
  rw [Bool.eq_iff_iff]
  simp only [decide_eq_true_eq]
  split
  · omega
  · split <;> omega
theorem plusS (x : Bool) (m : Nat) (y : Bool) (n : Nat) (h : m + n < 340282366920938463463374607431768211456) :
    ratio_signed_plus ⟨x, WW m⟩ ⟨y, WW n⟩ = some ⟨(addS x m y n).1, WW (addS x m y n).2⟩ := by
  unfold ratio_signed_plus addS
  dsimp only
  by_cases hxy : x = y
  · subst hxy
    rw [if_pos rfl, show (x == x) = true by simp, cond_true, plusW m n h]
    rfl
  · rw [if_neg hxy, show (x == y) = false by simpa using hxy, cond_false]
    have hc : ratio_wide_compare (WW m) (WW n) = some (cmpI m n) := wideCmp m n
    rw [hc, some_bind, cmpI_le]
    by_cases hmn : n ≤ m
    · rw [if_pos hmn, show decide (n ≤ m) = true by simpa using hmn, cond_true, minusW m n hmn (by omega)]; rfl
    · rw [if_neg hmn, show decide (n ≤ m) = false by simpa using hmn, cond_false, minusW n m (by omega) (by omega)]; rfl
theorem addS_cop (x : Bool) (m : Nat) (y : Bool) (n d : Nat) (hm : Nat.Coprime m d) (hn : d ∣ n) : Nat.Coprime (addS x m y n).2 d := by
  have key : ∀ k, Nat.gcd k d ∣ m → Nat.Coprime k d := fun k hk => by
    have := Nat.dvd_gcd hk (Nat.gcd_dvd_right k d)
    rw [hm] at this
    exact Nat.dvd_one.1 this
  apply key
  have h1 := Nat.gcd_dvd_left (addS x m y n).2 d
  have h2 : Nat.gcd (addS x m y n).2 d ∣ n := Nat.dvd_trans (Nat.gcd_dvd_right _ d) hn
  have h3 : (addS x m y n).2 = m + n ∨ (addS x m y n).2 + n = m ∨ (addS x m y n).2 + m = n := by
    unfold addS; (repeat' split) <;> simp <;> omega
  generalize (addS x m y n).2 = k at *
  generalize Nat.gcd k d = g at *
  rcases h3 with h3 | h3 | h3
  · rw [h3] at h1
    exact (Nat.dvd_add_iff_left h2).2 h1
  · have := Nat.dvd_add h1 h2
    rwa [h3] at this
  · rw [← h3] at h2
    exact (Nat.dvd_add_iff_right h1).2 h2
theorem addS_swap (x : Bool) (m : Nat) (y : Bool) (n : Nat) : (addS x m y n).2 = (addS y n x m).2 := by
  unfold addS
  by_cases h : x = y
  · subst h; simp; omega
  · have h' : ¬ y = x := fun e => h e.symm
    simp only [if_neg h, if_neg h']
    split <;> split <;> simp <;> omega
def addOf2 (a b : api_Ratio) : api_Ratio × Int :=
  if vR a = true ∧ vR b = true then redOf (addS (decide (a.Num < 0)) (a.Num.natAbs * b.Den.natAbs) (decide (b.Num < 0)) (b.Num.natAbs * a.Den.natAbs)).1 (addS (decide (a.Num < 0)) (a.Num.natAbs * b.Den.natAbs) (decide (b.Num < 0)) (b.Num.natAbs * a.Den.natAbs)).2 (a.Den.natAbs * b.Den.natAbs) else (⟨0, 0⟩, 1)
theorem add_lowest (x y : Bool) (na nb da db : Nat) (ha : Nat.gcd na da = 1) (hb : Nat.gcd nb db = 1) (h1 : 0 < da) (h2 : 0 < db) :
    redOf (addS x (na * db) y (nb * da)).1 (addS x (na * db) y (nb * da)).2 (da * db) =
      fitOf (addS x (na * (db / Nat.gcd da db)) y (nb * (da / Nat.gcd da db))).1 ((addS x (na * (db / Nat.gcd da db)) y (nb * (da / Nat.gcd da db))).2 / Nat.gcd (addS x (na * (db / Nat.gcd da db)) y (nb * (da / Nat.gcd da db))).2 (Nat.gcd da db))
        (da / Nat.gcd da db * (db / Nat.gcd (addS x (na * (db / Nat.gcd da db)) y (nb * (da / Nat.gcd da db))).2 (Nat.gcd da db))) := by
  have hg : 0 < Nat.gcd da db := Nat.gcd_pos_of_pos_left _ h1
  have ea := Nat.div_mul_cancel (Nat.gcd_dvd_left da db)
  have eb := Nat.div_mul_cancel (Nat.gcd_dvd_right da db)
  have hcop : Nat.Coprime (da / Nat.gcd da db) (db / Nat.gcd da db) := Nat.coprime_div_gcd_div_gcd hg
  generalize Nat.gcd da db = g at *
  generalize hd1 : da / g = d1 at *
  generalize hd2 : db / g = d2 at *
  have hs : addS x (na * db) y (nb * da) = ((addS x (na * d2) y (nb * d1)).1, (addS x (na * d2) y (nb * d1)).2 * g) := by
    rw [← addS_scale _ _ _ _ _ hg, Nat.mul_assoc, Nat.mul_assoc, ea, eb]
  rw [hs]
  have c1 : Nat.Coprime (addS x (na * d2) y (nb * d1)).2 d1 := addS_cop _ _ _ _ _ (Nat.Coprime.mul_left (Nat.Coprime.coprime_dvd_right ⟨g, ea.symm⟩ ha) hcop.symm) ⟨nb, Nat.mul_comm _ _⟩
  have c2 : Nat.Coprime (addS x (na * d2) y (nb * d1)).2 d2 := by
    rw [addS_swap]
    exact addS_cop _ _ _ _ _ (Nat.Coprime.mul_left (Nat.Coprime.coprime_dvd_right ⟨g, eb.symm⟩ hb) hcop) ⟨na, Nat.mul_comm _ _⟩
  generalize addS x (na * d2) y (nb * d1) = sk at *
  obtain ⟨s, k⟩ := sk
  dsimp only at *
  have hc : 0 < Nat.gcd k g := Nat.gcd_pos_of_pos_right _ hg
  have ek := Nat.div_mul_cancel (Nat.gcd_dvd_left k g)
  have eg := Nat.div_mul_cancel (Nat.gcd_dvd_right k g)
  have hcg : Nat.Coprime (k / Nat.gcd k g) (g / Nat.gcd k g) := Nat.coprime_div_gcd_div_gcd hc
  generalize Nat.gcd k g = c at *
  have hdb : db / c = d2 * (g / c) := by
    rw [← eb]
    conv => lhs; rw [← eg]
    rw [← Nat.mul_assoc, Nat.mul_div_cancel _ hc]
  rw [hdb]
  have hkk : k / c ∣ k := ⟨c, ek.symm⟩
  refine red_unique s _ _ _ _ (g * c) (Nat.mul_pos hg hc) ?_ ?_ ?_
  · conv => lhs; rw [← ek]
    rw [Nat.mul_assoc, Nat.mul_comm c g]
  · rw [← ea, ← eb]
    have : d1 * (d2 * (g / c)) * (g * c) = d1 * g * (d2 * (g / c * c)) := by
      simp only [Nat.mul_assoc, Nat.mul_left_comm, Nat.mul_comm]
    rw [this, eg]
  · exact (Nat.Coprime.mul_right (c1.coprime_dvd_left hkk) ((c2.coprime_dvd_left hkk).mul_right hcg))
theorem Add_eq (a b : api_Ratio) : ratio_Add a b = some (addOf2 a b) := by
  unfold ratio_Add addOf2
  rw [Valid_eq, Valid_eq]
  simp only [Option.bind]
  rw [req_pos (by intro _; rfl)]
  simp only [Option.getD_some]
  cases ha : vR a with
  | false => simp
  | true =>
    cases hb : vR b with
    | false => simp
    | true =>
      have va := vn_of ha
      have vb := vn_of hb
      simp only [Bool.not_true, Bool.or_self, cond_false, and_self, if_true]
      have n1 := va.n1; have n2 := vb.n1; have d1 := va.d1; have d2 := vb.d1; have d3 := va.d0; have d4 := vb.d0
      have hg : 0 < Nat.gcd a.Den.natAbs b.Den.natAbs := Nat.gcd_pos_of_pos_left _ va.d0
      have hg2 : Nat.gcd a.Den.natAbs b.Den.natAbs ≤ a.Den.natAbs := Nat.gcd_le_left _ va.d0
      have q3 := Nat.div_le_self a.Den.natAbs (Nat.gcd a.Den.natAbs b.Den.natAbs)
      have q4 := Nat.div_le_self b.Den.natAbs (Nat.gcd a.Den.natAbs b.Den.natAbs)
      rw [wrapU_den va, wrapU_den vb, gcd_eq]
      simp only
      rw [req_pos (by omega)]
      simp only [tdiv_nat]
      rw [wrapU_nat _ (by omega), wrapU_nat _ (by omega), signedProduct_eq _ _ va.i1 (by omega)]
      simp only
      rw [req_pos (by omega), signedProduct_eq _ _ vb.i1 (by omega)]
      simp only
      have m1 := mul_lt n1 (show b.Den.natAbs / Nat.gcd a.Den.natAbs b.Den.natAbs ≤ 1152921504606846976 by omega)
      have m2 := mul_lt n2 (show a.Den.natAbs / Nat.gcd a.Den.natAbs b.Den.natAbs ≤ 1152921504606846976 by omega)
      have hp := plusS (decide (a.Num < 0)) (a.Num.natAbs * (b.Den.natAbs / Nat.gcd a.Den.natAbs b.Den.natAbs)) (decide (b.Num < 0)) (b.Num.natAbs * (a.Den.natAbs / Nat.gcd a.Den.natAbs b.Den.natAbs)) (by omega)
      have hle := addS_le (decide (a.Num < 0)) (a.Num.natAbs * (b.Den.natAbs / Nat.gcd a.Den.natAbs b.Den.natAbs)) (decide (b.Num < 0)) (b.Num.natAbs * (a.Den.natAbs / Nat.gcd a.Den.natAbs b.Den.natAbs))
      rw [hp]
      simp only
      rw [add_lowest _ _ _ _ _ _ va.cop vb.cop va.d0 vb.d0]
      generalize addS (decide (a.Num < 0)) (a.Num.natAbs * (b.Den.natAbs / Nat.gcd a.Den.natAbs b.Den.natAbs)) (decide (b.Num < 0)) (b.Num.natAbs * (a.Den.natAbs / Nat.gcd a.Den.natAbs b.Den.natAbs)) = sk at *
      obtain ⟨s, k⟩ := sk
      dsimp only at *
      rw [modW k _ (by omega) hg (by omega)]
      simp only
      rw [gcd_eq, show Nat.gcd (k % Nat.gcd a.Den.natAbs b.Den.natAbs) (Nat.gcd a.Den.natAbs b.Den.natAbs) = Nat.gcd k (Nat.gcd a.Den.natAbs b.Den.natAbs) by rw [Nat.gcd_comm, Nat.gcd_comm k, Nat.gcd_rec (Nat.gcd a.Den.natAbs b.Den.natAbs) k, Nat.gcd_comm]]
      simp only
      have hc : 0 < Nat.gcd k (Nat.gcd a.Den.natAbs b.Den.natAbs) := Nat.gcd_pos_of_pos_right _ hg
      have hc2 : Nat.gcd k (Nat.gcd a.Den.natAbs b.Den.natAbs) ≤ Nat.gcd a.Den.natAbs b.Den.natAbs := Nat.gcd_le_right _ hg
      have q5 := Nat.div_le_self b.Den.natAbs (Nat.gcd k (Nat.gcd a.Den.natAbs b.Den.natAbs))
      rw [overW k _ (by omega) hc (by omega)]
      simp only
      rw [req_pos (by omega), tdiv_nat, wrapU_nat _ (by omega), product_eq _ _ (by omega) (by omega)]
      simp only
      rw [fittedW]
def subOf (a b : api_Ratio) : api_Ratio × Int := if vR a = true ∧ vR b = true then addOf2 a ⟨-b.Num, b.Den⟩ else (⟨0, 0⟩, 1)
theorem neg_wrap {b : api_Ratio} (h : vR b = true) : IntKind.i64.wrap (0 - b.Num) = -b.Num := by
  have := (vn_of h).n1
  rw [wrap64 (by omega) (by omega)]; omega
theorem Sub_eq (a b : api_Ratio) : ratio_Sub a b = some (subOf a b) := by
  unfold ratio_Sub subOf
  rw [Valid_eq, Valid_eq]
  simp only [Option.bind]
  rw [req_pos (by intro _; rfl)]
  simp only [Option.getD_some]
  cases ha : vR a with
  | false => simp
  | true =>
    cases hb : vR b with
    | false => simp
    | true =>
      simp only [Bool.not_true, Bool.or_self, cond_false, and_self, if_true]
      rw [neg_wrap hb, Add_eq]
def rg (k : Nat) : List Int := (List.range k).map fun (j : Nat) => (j : Int)
theorem rg_succ (k : Nat) : rg (k + 1) = rg k ++ [(k : Int)] := by simp [rg, List.range_succ]
theorem mem_rg {k : Nat} {x : Int} : x ∈ rg k ↔ 0 ≤ x ∧ x < k := by
  simp only [rg, List.mem_map, List.mem_range]
  constructor
  · rintro ⟨a, h, rfl⟩; omega
  · rintro ⟨h1, h2⟩; exact ⟨x.toNat, by omega, by omega⟩
theorem map_rg {α : Type} [Inhabited α] (l : List α) : (rg l.length).map (ix l) = l := by
  apply List.ext_getElem
  · simp [rg]
  · intro i h1 h2
    simp [rg]
    exact ix_nat l i h2
theorem ins_perm (a : Int) (l : List Int) (y : Nat) : ((([] : List Int) ++ List.take y l) ++ [a] ++ List.drop y l).Perm (l ++ [a]) := by
  have h := List.perm_middle (a := a) (l₁ := List.take y l) (l₂ := List.drop y l)
  rw [List.take_append_drop] at h
  simp only [List.nil_append, List.append_assoc, List.singleton_append]
  refine h.trans ?_
  exact (List.perm_append_singleton a l).symm
theorem WW_small (x : Nat) (h : x < 18446744073709551616) : WW x = ⟨0, (x : Int)⟩ := by
  simp only [WW, hiW, loW, ratio_wide.mk.injEq]; omega
theorem reducedW (neg : Bool) (n d : Nat) (hn : n < 340282366920938463463374607431768211456) (hd : 0 < d) (hd2 : d < 18446744073709551616) : ratio_reduced ⟨neg, WW n⟩ (d : Int) = some (redOf neg n d) := by
  have hg : 0 < Nat.gcd n d := Nat.gcd_pos_of_pos_right _ hd
  have hg2 : Nat.gcd n d ≤ d := Nat.gcd_le_right _ hd
  have h2 := Nat.div_le_self d (Nat.gcd n d)
  unfold ratio_reduced redOf
  dsimp only
  rw [modW n d hn hd hd2, some_bind, gcd_eq, some_bind, show Nat.gcd (n % d) d = Nat.gcd n d by rw [Nat.gcd_comm, Nat.gcd_comm n, Nat.gcd_rec d n, Nat.gcd_comm], overW n _ hn hg (by omega), some_bind, req_pos (by omega), tdiv_nat, wrapU_nat _ (by omega)]
  have e : (⟨(0 : Int), ((d / Nat.gcd n d : Nat) : Int)⟩ : ratio_wide) = WW (d / Nat.gcd n d) := (WW_small _ (by omega)).symm
  rw [e, fittedW]
  rfl
abbrev MX : Nat := 1152921504606846976
def lcmF : List api_Ratio → Nat → Option Nat
  | [], c => some c
  | a :: l, c => if Nat.lcm c a.Den.natAbs ≤ 1152921504606846976 then lcmF l (Nat.lcm c a.Den.natAbs) else none
def sumF (C : Nat) (l : List api_Ratio) (p : Bool × Nat) : Bool × Nat := l.foldl (fun p a => addS p.1 p.2 (decide (a.Num < 0)) (a.Num.natAbs * (C / a.Den.natAbs))) p
def sumOf (l : List api_Ratio) : api_Ratio × Int :=
  if 100 < l.length then (⟨0, 0⟩, 3)
  else if (l.all fun a => vR a) = true then (match lcmF l 1 with | some C => redOf (sumF C l (false, 0)).1 (sumF C l (false, 0)).2 C | none => (⟨0, 0⟩, 6))
  else (⟨0, 0⟩, 1)
theorem lcm_mul (c d : Nat) : c * (d / Nat.gcd c d) = Nat.lcm c d := by
  unfold Nat.lcm
  rw [Nat.mul_div_assoc _ (Nat.gcd_dvd_right c d)]
theorem drop_cons {α : Type} (l : List α) (k : Nat) (h : k < l.length) : l.drop k = l[k] :: l.drop (k + 1) := List.drop_eq_getElem_cons h
theorem lcm_pos' {c d : Nat} (hc : 0 < c) (hd : 0 < d) : 0 < Nat.lcm c d := Nat.lcm_pos hc hd
theorem lcmF_pos : ∀ (l : List api_Ratio) (c C : Nat), 0 < c → c ≤ MX → (∀ a ∈ l, vR a = true) → lcmF l c = some C → 0 < C ∧ C ≤ MX ∧ c ∣ C ∧ ∀ a ∈ l, a.Den.natAbs ∣ C
  | [], c, C, h0, h1, _, h => by
    simp only [lcmF, Option.some.injEq] at h
    subst h
    exact ⟨h0, h1, Nat.dvd_refl c, by simp⟩
  | a :: l, c, C, h0, h1, hv, h => by
    simp only [lcmF] at h
    split at h
    · rename_i hle
      obtain ⟨g1, g2, g3, g4⟩ := lcmF_pos l _ C (lcm_pos' h0 (vn_of (hv a (by simp))).d0) hle (fun x hx => hv x (by simp [hx])) h
      refine ⟨g1, g2, Nat.dvd_trans (Nat.dvd_lcm_left _ _) g3, fun x hx => ?_⟩
      rcases List.mem_cons.1 hx with rfl | hx
      · exact Nat.dvd_trans (Nat.dvd_lcm_right _ _) g3
      · exact g4 x hx
    · cases h
theorem term_le {a : api_Ratio} (va : VN a) {C : Nat} (hC : C ≤ MX) : a.Num.natAbs * (C / a.Den.natAbs) ≤ 1329227995784915872903807060280344576 :=
  mul_lt va.n1 (Nat.le_trans (Nat.div_le_self _ _) hC)
theorem red_zero (neg : Bool) (C : Nat) : redOf neg 0 C = redOf false 0 C := by
  unfold redOf fitOf
  cases neg <;> simp
theorem all_valid {l : List api_Ratio} (h : (l.all fun a => vR a) = true) : ∀ a ∈ l, vR a = true := List.all_eq_true.1 h
theorem newOf_ok' (a N : Int) (h1 : -1152921504606846976 ≤ a) (h2 : a ≤ 1152921504606846976) (h3 : 0 < N) (h4 : N ≤ 1152921504606846976) : ∃ r, newOf a N = (r, 0) ∧ vR r = true ∧ r.Num * N = a * r.Den ∧ 0 < r.Den := by
  unfold newOf
  rw [if_neg (by omega)]
  have e : ∃ r, redOf (!(decide (a < 0) == decide (N < 0))) a.natAbs N.natAbs = (r, 0) := by
    unfold redOf fitOf
    have k1 := Nat.div_le_self a.natAbs (Nat.gcd a.natAbs N.natAbs)
    have k2 := Nat.div_le_self N.natAbs (Nat.gcd a.natAbs N.natAbs)
    rw [if_pos ⟨by omega, by omega⟩]
    exact ⟨_, rfl⟩
  obtain ⟨r, hr⟩ := e
  obtain ⟨g1, g2, g3⟩ := redOf_val _ _ _ (by omega) r hr
  refine ⟨r, hr, g1, ?_, g3⟩
  rw [show ((N.natAbs : Nat) : Int) = N by omega] at g2
  rw [g2]
  congr 1
  unfold sv
  rw [show decide (N < 0) = false by simp; omega]
  by_cases h : a < 0
  · simp [h]; omega
  · simp [h]; omega
def lcmL : List api_Ratio → Nat
  | [] => 1
  | a :: l => Nat.lcm a.Den.natAbs (lcmL l)
theorem lcmL_pos : ∀ (l : List api_Ratio), (∀ a ∈ l, vR a = true) → 0 < lcmL l
  | [], _ => by simp [lcmL]
  | a :: l, h => lcm_pos' (vn_of (h a (by simp))).d0 (lcmL_pos l fun x hx => h x (by simp [hx]))
theorem lcmF_eq : ∀ (l : List api_Ratio) (c : Nat), 0 < c → c ≤ MX → (∀ a ∈ l, vR a = true) → lcmF l c = if Nat.lcm c (lcmL l) ≤ MX then some (Nat.lcm c (lcmL l)) else none
  | [], c, h0, h1, _ => by simp [lcmF, lcmL, h1]
  | a :: l, c, h0, h1, hv => by
    have hd := (vn_of (hv a (by simp))).d0
    have hv' : ∀ x ∈ l, vR x = true := fun x hx => hv x (by simp [hx])
    have eL : Nat.lcm c (lcmL (a :: l)) = Nat.lcm (Nat.lcm c a.Den.natAbs) (lcmL l) := (Nat.lcm_assoc _ _ _).symm
    rw [eL]
    simp only [lcmF]
    by_cases hc : Nat.lcm c a.Den.natAbs ≤ 1152921504606846976
    · rw [if_pos hc]
      exact lcmF_eq l _ (lcm_pos' h0 hd) hc hv'
    · rw [if_neg hc]
      have h2 : Nat.lcm c a.Den.natAbs ≤ Nat.lcm (Nat.lcm c a.Den.natAbs) (lcmL l) := Nat.le_of_dvd (lcm_pos' (lcm_pos' h0 hd) (lcmL_pos l hv')) (Nat.dvd_lcm_left _ _)
      rw [if_neg (by unfold MX; omega)]
theorem lcmL_perm {l m : List api_Ratio} (h : l.Perm m) : lcmL l = lcmL m := by
  induction h with
  | nil => rfl
  | cons x _ ih => simp only [lcmL, ih]
  | swap x y l => simp only [lcmL]; rw [← Nat.lcm_assoc, ← Nat.lcm_assoc, Nat.lcm_comm y.Den.natAbs]
  | trans _ _ ih1 ih2 => exact ih1.trans ih2
def sumT (C : Nat) : List api_Ratio → Int
  | [] => 0
  | a :: l => a.Num * ((C / a.Den.natAbs : Nat) : Int) + sumT C l
theorem sumT_perm (C : Nat) {l m : List api_Ratio} (h : l.Perm m) : sumT C l = sumT C m := by
  induction h with
  | nil => rfl
  | cons x _ ih => simp only [sumT, ih]
  | swap x y l => simp only [sumT]; omega
  | trans _ _ ih1 ih2 => exact ih1.trans ih2
theorem sv_num (a : Int) (n : Nat) : sv (decide (a < 0)) (a.natAbs * n) = a * (n : Int) := by
  unfold sv
  by_cases h : a < 0
  · rw [if_pos (by simpa using h), Int.natCast_mul, show ((a.natAbs : Nat) : Int) = -a by omega, Int.neg_mul, Int.neg_neg]
  · rw [if_neg (by simpa using h), Int.natCast_mul, show ((a.natAbs : Nat) : Int) = a by omega]
theorem sumF_val (C : Nat) : ∀ (l : List api_Ratio) (p : Bool × Nat), sv (sumF C l p).1 (sumF C l p).2 = sv p.1 p.2 + sumT C l
  | [], p => by simp [sumF, sumT]
  | a :: l, p => by
    have := sumF_val C l (addS p.1 p.2 (decide (a.Num < 0)) (a.Num.natAbs * (C / a.Den.natAbs)))
    rw [addS_val, sv_num] at this
    simp only [sumT]
    show sv (sumF C l (addS p.1 p.2 (decide (a.Num < 0)) (a.Num.natAbs * (C / a.Den.natAbs)))).1 _ = _
    rw [show sumF C (a :: l) p = sumF C l (addS p.1 p.2 (decide (a.Num < 0)) (a.Num.natAbs * (C / a.Den.natAbs))) from rfl, this]
    omega
def redV (v : Int) (C : Nat) : api_Ratio × Int := redOf (decide (v < 0)) v.natAbs C
theorem red_val (s : Bool) (k C : Nat) : redOf s k C = redV (sv s k) C := by
  unfold redV sv
  cases s with
  | false => simp [show ¬ ((k : Int) < 0) by omega]
  | true =>
    rcases Nat.eq_zero_or_pos k with h | h
    · subst h; simp; exact red_zero true C
    · simp [h]
theorem sumOf_eq (l : List api_Ratio) : sumOf l = if 100 < l.length then (⟨0, 0⟩, 3) else if (l.all fun a => vR a) = true then (if lcmL l ≤ MX then redV (sumT (lcmL l) l) (lcmL l) else (⟨0, 0⟩, 6)) else (⟨0, 0⟩, 1) := by
  unfold sumOf
  split
  · rfl
  · split
    · rename_i h1 h2
      rw [lcmF_eq l 1 (by omega) (by decide) (all_valid h2), show Nat.lcm 1 (lcmL l) = lcmL l by simp [Nat.lcm]]
      by_cases hc : lcmL l ≤ MX
      · rw [if_pos hc, if_pos hc]
        dsimp only
        rw [red_val, sumF_val]
        simp [sv]
      · rw [if_neg hc, if_neg hc]
    · rfl
theorem sumOf_perm {l m : List api_Ratio} (h : l.Perm m) : sumOf l = sumOf m := by
  rw [sumOf_eq, sumOf_eq, h.length_eq, h.all_eq, lcmL_perm h, sumT_perm _ h]
theorem foldl_snoc {α β : Type} (f : β → α) : ∀ (l : List β) (b : List α), l.foldl (fun b n => b ++ [f n]) b = b ++ l.map f
  | [], b => by simp
  | x :: l, b => by simp [foldl_snoc f l]
theorem cmpI_neg (x y : Int) : cmpI x y = -cmpI y x := by
  unfold cmpI; (repeat' split) <;> omega
theorem cmpI_zero (x y : Int) : cmpI x y = 0 ↔ x = y := by
  unfold cmpI; (repeat' split) <;> omega
theorem cmpI_nonpos (x y : Int) : cmpI x y ≤ 0 ↔ x ≤ y := by
  unfold cmpI; (repeat' split) <;> omega
theorem cmpI_pos (x y : Int) : 0 < cmpI x y ↔ y < x := by
  unfold cmpI; (repeat' split) <;> omega
theorem cmpI_mul' (x y c : Int) (h : 0 < c) : cmpI (x * c) (y * c) = cmpI x y := by
  unfold cmpI
  have e1 : x * c < y * c ↔ x < y := ⟨fun hh => Int.lt_of_mul_lt_mul_right hh (by omega), fun hh => Int.mul_lt_mul_of_pos_right hh h⟩
  have e2 : y * c < x * c ↔ y < x := ⟨fun hh => Int.lt_of_mul_lt_mul_right hh (by omega), fun hh => Int.mul_lt_mul_of_pos_right hh h⟩
  simp only [e1, e2]
theorem cmpI_shift (x y z : Int) : cmpI (x + z) (y + z) = cmpI x y := by
  unfold cmpI
  simp only [show x + z < y + z ↔ x < y by omega, show y + z < x + z ↔ y < x by omega]
theorem cmpR_v {a b : api_Ratio} (ha : vR a = true) (hb : vR b = true) : cmpR a b = cmpI (a.Num * b.Den) (b.Num * a.Den) := by unfold cmpR; rw [if_pos ⟨ha, hb⟩]
theorem lowest_eq {a b : api_Ratio} (ha : vR a = true) (hb : vR b = true) (h : a.Num * b.Den = b.Num * a.Den) : a = b := by
  have va := vn_of ha
  have vb := vn_of hb
  have hn : a.Num.natAbs * b.Den.natAbs = b.Num.natAbs * a.Den.natAbs := by
    rw [← Int.natAbs_mul, ← Int.natAbs_mul, h]
  have d1 : a.Den.natAbs ∣ b.Den.natAbs := Nat.Coprime.dvd_of_dvd_mul_left (Nat.Coprime.symm va.cop) ⟨b.Num.natAbs, by rw [hn, Nat.mul_comm]⟩
  have d2 : b.Den.natAbs ∣ a.Den.natAbs := Nat.Coprime.dvd_of_dvd_mul_left (Nat.Coprime.symm vb.cop) ⟨a.Num.natAbs, by rw [← hn, Nat.mul_comm]⟩
  have hd := Nat.dvd_antisymm d1 d2
  have hD : a.Den = b.Den := by rw [← va.de, ← vb.de, hd]
  have h0 : a.Den ≠ 0 := by have := va.d0; omega
  rw [← hD] at h
  have hN := Int.eq_of_mul_eq_mul_right h0 h
  cases a; cases b
  simp_all
theorem cmpR_trans {a b c : api_Ratio} (ha : vR a = true) (hb : vR b = true) (hc : vR c = true) (h1 : cmpR a b ≤ 0) (h2 : cmpR b c ≤ 0) : cmpR a c ≤ 0 := by
  rw [cmpR_v ha hb, cmpI_nonpos] at h1
  rw [cmpR_v hb hc, cmpI_nonpos] at h2
  rw [cmpR_v ha hc, cmpI_nonpos]
  have da := (vd_of ha).d0; have db := (vd_of hb).d0; have dc := (vd_of hc).d0
  have k1 := Int.mul_le_mul_of_nonneg_right h1 (show 0 ≤ c.Den by omega)
  have k2 := Int.mul_le_mul_of_nonneg_right h2 (show 0 ≤ a.Den by omega)
  have k3 : a.Num * c.Den * b.Den ≤ c.Num * a.Den * b.Den := by
    have e1 : a.Num * c.Den * b.Den = a.Num * b.Den * c.Den := by rw [Int.mul_right_comm]
    have e2 : c.Num * a.Den * b.Den = c.Num * b.Den * a.Den := by rw [Int.mul_right_comm]
    have e3 : b.Num * a.Den * c.Den = b.Num * c.Den * a.Den := by rw [Int.mul_right_comm]
    omega
  exact Int.le_of_mul_le_mul_right k3 (by omega)
theorem addOf2_val {a b x : api_Ratio} (ha : vR a = true) (hb : vR b = true) (h : addOf2 a b = (x, 0)) : vR x = true ∧ x.Num * (a.Den * b.Den) = (a.Num * b.Den + b.Num * a.Den) * x.Den ∧ 0 < x.Den := by
  have va := vn_of ha
  have vb := vn_of hb
  unfold addOf2 at h
  rw [if_pos ⟨ha, hb⟩] at h
  obtain ⟨g1, g2, g3⟩ := redOf_val _ _ _ (Nat.mul_pos va.d0 vb.d0) x h
  refine ⟨g1, ?_, g3⟩
  rw [addS_val, sv_num, sv_num, Int.natCast_mul, va.de, vb.de] at g2
  exact g2
theorem cmpR_add {a b c x y : api_Ratio} (ha : vR a = true) (hb : vR b = true) (hc : vR c = true) (hx : addOf2 a c = (x, 0)) (hy : addOf2 b c = (y, 0)) : cmpR x y = cmpR a b := by
  obtain ⟨x1, x2, x3⟩ := addOf2_val ha hc hx
  obtain ⟨y1, y2, y3⟩ := addOf2_val hb hc hy
  have da := (vd_of ha).d0; have db := (vd_of hb).d0; have dc := (vd_of hc).d0
  rw [cmpR_v x1 y1, cmpR_v ha hb]
  have hD : 0 < a.Den * c.Den * (b.Den * c.Den) := Int.mul_pos (Int.mul_pos (by omega) (by omega)) (Int.mul_pos (by omega) (by omega))
  have hE : 0 < x.Den * y.Den := Int.mul_pos x3 y3
  have hF : 0 < c.Den * c.Den := Int.mul_pos (by omega) (by omega)
  rw [← cmpI_mul' _ _ _ hD]
  have e1 : x.Num * y.Den * (a.Den * c.Den * (b.Den * c.Den)) = (a.Num * b.Den * (c.Den * c.Den) + c.Num * a.Den * b.Den * c.Den) * (x.Den * y.Den) := by
    have : x.Num * y.Den * (a.Den * c.Den * (b.Den * c.Den)) = x.Num * (a.Den * c.Den) * (y.Den * (b.Den * c.Den)) := by grind
    rw [this, x2]; grind
  have e2 : y.Num * x.Den * (a.Den * c.Den * (b.Den * c.Den)) = (b.Num * a.Den * (c.Den * c.Den) + c.Num * a.Den * b.Den * c.Den) * (x.Den * y.Den) := by
    have : y.Num * x.Den * (a.Den * c.Den * (b.Den * c.Den)) = y.Num * (b.Den * c.Den) * (x.Den * (a.Den * c.Den)) := by grind
    rw [this, y2]; grind
  rw [e1, e2, cmpI_mul' _ _ _ hE, cmpI_shift, cmpI_mul' _ _ _ hF]
theorem cmpR_anti (a b : api_Ratio) : cmpR a b = -cmpR b a := by
  unfold cmpR
  by_cases h : vR a = true ∧ vR b = true
  · rw [if_pos h, if_pos h.symm]; exact cmpI_neg _ _
  · rw [if_neg h, if_neg (fun h2 => h h2.symm)]; rfl
structure ValB (a : api_Ratio) (P Q : Int) (N D : Nat) : Prop where
  v : vR a = true
  q : 0 < Q
  e : a.Num * Q = P * a.Den
  bn : P.natAbs ≤ N
  bd : Q.natAbs ≤ D
theorem ValB.le {a : api_Ratio} {P Q : Int} {N D : Nat} (h : ValB a P Q N D) : a.Num.natAbs ≤ N ∧ a.Den.natAbs ≤ D := by
  have va := vn_of h.v
  have hn : a.Num.natAbs * Q.natAbs = P.natAbs * a.Den.natAbs := by rw [← Int.natAbs_mul, ← Int.natAbs_mul, h.e]
  obtain ⟨k, hk⟩ : a.Den.natAbs ∣ Q.natAbs := Nat.Coprime.dvd_of_dvd_mul_left (Nat.Coprime.symm va.cop) ⟨P.natAbs, by rw [hn, Nat.mul_comm]⟩
  have hq := h.q
  have hk0 : 0 < k := by
    rcases Nat.eq_zero_or_pos k with h0 | h0
    · rw [h0, Nat.mul_zero] at hk; omega
    · exact h0
  have hb := h.bd
  have hb2 := h.bn
  constructor
  · have : a.Num.natAbs * k = P.natAbs := by
      have h2 : a.Num.natAbs * k * a.Den.natAbs = P.natAbs * a.Den.natAbs := by rw [← hn, hk, Nat.mul_assoc, Nat.mul_comm k]
      exact Nat.eq_of_mul_eq_mul_right va.d0 h2
    have := Nat.le_mul_of_pos_right a.Num.natAbs hk0
    omega
  · have := Nat.le_mul_of_pos_right a.Den.natAbs hk0
    omega
theorem ValB.eq {x y : api_Ratio} {P Q P' Q' : Int} {N D N' D' : Nat} (hx : ValB x P Q N D) (hy : ValB y P' Q' N' D') (h : P * Q' = P' * Q) : x = y := by
  refine lowest_eq hx.v hy.v ?_
  have hQ := hx.q; have hQ' := hy.q
  have e1 := hx.e; have e2 := hy.e
  have : x.Num * y.Den * (Q * Q') = y.Num * x.Den * (Q * Q') := by
    have a1 : x.Num * y.Den * (Q * Q') = x.Num * Q * (y.Den * Q') := by grind
    have a2 : y.Num * x.Den * (Q * Q') = y.Num * Q' * (x.Den * Q) := by grind
    rw [a1, a2, e1, e2]
    have a3 : P * x.Den * (y.Den * Q') = P * Q' * (x.Den * y.Den) := by grind
    have a4 : P' * y.Den * (x.Den * Q) = P' * Q * (x.Den * y.Den) := by grind
    rw [a3, a4, h]
  exact Int.eq_of_mul_eq_mul_right (by have := Int.mul_pos hQ hQ'; omega) this
theorem fit_ok (neg : Bool) (n d : Nat) (hn : n ≤ MX) (hd : d ≤ MX) : ∃ x, redOf neg n d = (x, 0) := by
  unfold redOf fitOf
  have k1 := Nat.div_le_self n (Nat.gcd n d)
  have k2 := Nat.div_le_self d (Nat.gcd n d)
  unfold MX at hn hd
  rw [if_pos ⟨by omega, by omega⟩]
  exact ⟨_, rfl⟩
theorem natAbs_lin (P1 Q1 P2 Q2 : Int) (N1 D1 N2 D2 : Nat) (h1 : P1.natAbs ≤ N1) (h2 : Q1.natAbs ≤ D1) (h3 : P2.natAbs ≤ N2) (h4 : Q2.natAbs ≤ D2) : (P1 * Q2 + P2 * Q1).natAbs ≤ N1 * D2 + N2 * D1 := by
  have a1 := Int.natAbs_add_le (P1 * Q2) (P2 * Q1)
  rw [Int.natAbs_mul, Int.natAbs_mul] at a1
  have a2 := Nat.mul_le_mul h1 h4
  have a3 := Nat.mul_le_mul h3 h2
  omega
theorem add_go {a b : api_Ratio} {P1 Q1 P2 Q2 : Int} {N1 D1 N2 D2 : Nat} (ha : ValB a P1 Q1 N1 D1) (hb : ValB b P2 Q2 N2 D2) (h1 : N1 * D2 + N2 * D1 ≤ MX) (h2 : D1 * D2 ≤ MX) :
    ∃ x, addOf2 a b = (x, 0) ∧ ValB x (P1 * Q2 + P2 * Q1) (Q1 * Q2) (N1 * D2 + N2 * D1) (D1 * D2) := by
  have va := vn_of ha.v
  have vb := vn_of hb.v
  obtain ⟨la, da⟩ := ha.le
  obtain ⟨lb, db⟩ := hb.le
  have hx : ∃ x, addOf2 a b = (x, 0) := by
    unfold addOf2
    rw [if_pos ⟨ha.v, hb.v⟩]
    have hle := addS_le (decide (a.Num < 0)) (a.Num.natAbs * b.Den.natAbs) (decide (b.Num < 0)) (b.Num.natAbs * a.Den.natAbs)
    have k1 := Nat.mul_le_mul la db
    have k2 := Nat.mul_le_mul lb da
    have k3 := Nat.mul_le_mul da db
    exact fit_ok _ _ _ (by omega) (by omega)
  obtain ⟨x, hx⟩ := hx
  obtain ⟨g1, g2, g3⟩ := addOf2_val ha.v hb.v hx
  refine ⟨x, hx, g1, Int.mul_pos ha.q hb.q, ?_, natAbs_lin _ _ _ _ _ _ _ _ ha.bn ha.bd hb.bn hb.bd, by rw [Int.natAbs_mul]; exact Nat.mul_le_mul ha.bd hb.bd⟩
  have hab : a.Den * b.Den ≠ 0 := by
    have := Int.mul_pos (show 0 < a.Den by have := (vd_of ha.v).d0; omega) (show 0 < b.Den by have := (vd_of hb.v).d0; omega)
    omega
  refine Int.eq_of_mul_eq_mul_right hab ?_
  have e1 := ha.e; have e2 := hb.e
  have a1 : x.Num * (Q1 * Q2) * (a.Den * b.Den) = x.Num * (a.Den * b.Den) * (Q1 * Q2) := by grind
  rw [a1, g2]
  have a2 : (a.Num * b.Den + b.Num * a.Den) * x.Den * (Q1 * Q2) = (a.Num * Q1 * (b.Den * Q2) + b.Num * Q2 * (a.Den * Q1)) * x.Den := by grind
  rw [a2, e1, e2]
  grind
theorem mulOf_val {a b x : api_Ratio} (ha : vR a = true) (hb : vR b = true) (h : mulOf a b = (x, 0)) : vR x = true ∧ x.Num * (a.Den * b.Den) = a.Num * b.Num * x.Den ∧ 0 < x.Den := by
  have va := vn_of ha
  have vb := vn_of hb
  unfold mulOf at h
  rw [if_pos ⟨ha, hb⟩] at h
  obtain ⟨g1, g2, g3⟩ := redOf_val _ _ _ (Nat.mul_pos va.d0 vb.d0) x h
  refine ⟨g1, ?_, g3⟩
  rw [Int.natCast_mul, va.de, vb.de] at g2
  rw [g2]
  congr 1
  unfold sv sgn
  rw [Int.natCast_mul]
  by_cases h1 : a.Num < 0 <;> by_cases h2 : b.Num < 0
  · simp [h1, h2]; rw [show ((a.Num.natAbs : Nat) : Int) = -a.Num by omega, show ((b.Num.natAbs : Nat) : Int) = -b.Num by omega, Int.neg_mul_neg]
  · simp [h1, h2]; rw [show ((a.Num.natAbs : Nat) : Int) = -a.Num by omega, show ((b.Num.natAbs : Nat) : Int) = b.Num by omega, Int.neg_mul, Int.neg_neg]
  · simp [h1, h2]; rw [show ((a.Num.natAbs : Nat) : Int) = a.Num by omega, show ((b.Num.natAbs : Nat) : Int) = -b.Num by omega, Int.mul_neg, Int.neg_neg]
  · simp [h1, h2]; rw [show ((a.Num.natAbs : Nat) : Int) = a.Num by omega, show ((b.Num.natAbs : Nat) : Int) = b.Num by omega]
theorem mul_go {a b : api_Ratio} {P1 Q1 P2 Q2 : Int} {N1 D1 N2 D2 : Nat} (ha : ValB a P1 Q1 N1 D1) (hb : ValB b P2 Q2 N2 D2) (h1 : N1 * N2 ≤ MX) (h2 : D1 * D2 ≤ MX) :
    ∃ x, mulOf a b = (x, 0) ∧ ValB x (P1 * P2) (Q1 * Q2) (N1 * N2) (D1 * D2) := by
  have va := vn_of ha.v
  have vb := vn_of hb.v
  obtain ⟨la, da⟩ := ha.le
  obtain ⟨lb, db⟩ := hb.le
  have hx : ∃ x, mulOf a b = (x, 0) := by
    unfold mulOf
    rw [if_pos ⟨ha.v, hb.v⟩]
    have k1 := Nat.mul_le_mul la lb
    have k3 := Nat.mul_le_mul da db
    exact fit_ok _ _ _ (by omega) (by omega)
  obtain ⟨x, hx⟩ := hx
  obtain ⟨g1, g2, g3⟩ := mulOf_val ha.v hb.v hx
  refine ⟨x, hx, g1, Int.mul_pos ha.q hb.q, ?_, by rw [Int.natAbs_mul]; exact Nat.mul_le_mul ha.bn hb.bn, by rw [Int.natAbs_mul]; exact Nat.mul_le_mul ha.bd hb.bd⟩
  have hab : a.Den * b.Den ≠ 0 := by
    have := Int.mul_pos (show 0 < a.Den by have := (vd_of ha.v).d0; omega) (show 0 < b.Den by have := (vd_of hb.v).d0; omega)
    omega
  refine Int.eq_of_mul_eq_mul_right hab ?_
  have e1 := ha.e; have e2 := hb.e
  have a1 : x.Num * (Q1 * Q2) * (a.Den * b.Den) = x.Num * (a.Den * b.Den) * (Q1 * Q2) := by grind
  rw [a1, g2]
  have a2 : a.Num * b.Num * x.Den * (Q1 * Q2) = a.Num * Q1 * (b.Num * Q2) * x.Den := by grind
  rw [a2, e1, e2]
  grind
theorem neg_v {b : api_Ratio} (h : vR b = true) : vR ⟨-b.Num, b.Den⟩ = true := by
  rw [vR_iff] at h ⊢
  obtain ⟨h1, h2, h3, h4, h5⟩ := h
  refine ⟨h1, h2, by show _ ≤ -b.Num; omega, by show -b.Num ≤ _; omega, ?_⟩
  show Nat.gcd (-b.Num).natAbs _ = 1
  rw [Int.natAbs_neg]; exact h5
theorem neg_go {b : api_Ratio} {P Q : Int} {N D : Nat} (h : ValB b P Q N D) : ValB ⟨-b.Num, b.Den⟩ (-P) Q N D :=
  ⟨neg_v h.v, h.q, by show -b.Num * Q = -P * b.Den; rw [Int.neg_mul, h.e, Int.neg_mul], by rw [Int.natAbs_neg]; exact h.bn, h.bd⟩
theorem sub_go {a b : api_Ratio} {P1 Q1 P2 Q2 : Int} {N1 D1 N2 D2 : Nat} (ha : ValB a P1 Q1 N1 D1) (hb : ValB b P2 Q2 N2 D2) (h1 : N1 * D2 + N2 * D1 ≤ MX) (h2 : D1 * D2 ≤ MX) :
    ∃ x, subOf a b = (x, 0) ∧ ValB x (P1 * Q2 + -P2 * Q1) (Q1 * Q2) (N1 * D2 + N2 * D1) (D1 * D2) := by
  unfold subOf
  rw [if_pos ⟨ha.v, hb.v⟩]
  exact add_go ha (neg_go hb) h1 h2
theorem div_back {a b p : api_Ratio} {P1 Q1 P2 Q2 : Int} {N1 D1 N2 D2 : Nat} (ha : ValB a P1 Q1 N1 D1) (hb : ValB b P2 Q2 N2 D2) (hp : ValB p (P1 * P2) (Q1 * Q2) (N1 * N2) (D1 * D2)) (hz : b.Num ≠ 0) (h1 : N1 * N2 * D2 ≤ MX) (h2 : D1 * D2 * N2 ≤ MX) : divOf p b = (a, 0) := by
  have vp := vn_of hp.v
  have vb := vn_of hb.v
  obtain ⟨lp, dp⟩ := hp.le
  obtain ⟨lb, db⟩ := hb.le
  unfold divOf
  rw [if_pos ⟨hp.v, hb.v⟩, if_neg hz]
  obtain ⟨x, hx⟩ := fit_ok (sgn p b) (p.Num.natAbs * b.Den.natAbs) (p.Den.natAbs * b.Num.natAbs) (Nat.le_trans (Nat.mul_le_mul lp db) h1) (Nat.le_trans (Nat.mul_le_mul dp lb) h2)
  rw [hx]
  obtain ⟨g1, g2, g3⟩ := redOf_val _ _ _ (Nat.mul_pos vp.d0 (by omega)) x hx
  have key : x.Num * (p.Den * b.Num) = p.Num * b.Den * x.Den := by
    rw [Int.natCast_mul, vp.de] at g2
    unfold sv sgn at g2
    rw [Int.natCast_mul, vb.de] at g2
    by_cases k1 : p.Num < 0 <;> by_cases k2 : b.Num < 0
    · simp [k1, k2] at g2; rw [show ((b.Num.natAbs : Nat) : Int) = -b.Num by omega, show ((p.Num.natAbs : Nat) : Int) = -p.Num by omega] at g2; grind
    · simp [k1, k2] at g2; rw [show ((b.Num.natAbs : Nat) : Int) = b.Num by omega, show ((p.Num.natAbs : Nat) : Int) = -p.Num by omega] at g2; grind
    · simp [k1, k2] at g2; rw [show ((b.Num.natAbs : Nat) : Int) = -b.Num by omega, show ((p.Num.natAbs : Nat) : Int) = p.Num by omega] at g2; grind
    · simp [k1, k2] at g2; rw [show ((b.Num.natAbs : Nat) : Int) = b.Num by omega, show ((p.Num.natAbs : Nat) : Int) = p.Num by omega] at g2; grind
  have : x = a := by
    refine lowest_eq g1 ha.v ?_
    have ep := hp.e; have ea := ha.e; have eb := hb.e
    have hQ1 := ha.q; have hQ2 := hb.q
    have hbd : 0 < b.Den := by have := (vd_of hb.v).d0; omega
    have hpd : 0 < p.Den := by have := (vd_of hp.v).d0; omega
    have hne : p.Den * b.Num * (b.Den * (Q1 * Q2)) ≠ 0 := by
      refine Int.mul_ne_zero (Int.mul_ne_zero (by omega) hz) (Int.mul_ne_zero (by omega) (Int.mul_ne_zero (by omega) (by omega)))
    refine Int.eq_of_mul_eq_mul_right hne ?_
    have s1 : x.Num * a.Den * (p.Den * b.Num * (b.Den * (Q1 * Q2))) = x.Num * (p.Den * b.Num) * (a.Den * b.Den * (Q1 * Q2)) := by grind
    rw [s1, key]
    have s2 : p.Num * b.Den * x.Den * (a.Den * b.Den * (Q1 * Q2)) = p.Num * (Q1 * Q2) * (b.Den * x.Den * a.Den * b.Den) := by grind
    rw [s2, ep]
    have s3 : P1 * P2 * p.Den * (b.Den * x.Den * a.Den * b.Den) = P1 * a.Den * (P2 * b.Den) * (p.Den * b.Den * x.Den) := by grind
    rw [s3, ← ea, ← eb]
    grind
  rw [this]
theorem new_one (f : Int) (h1 : -1152921504606846976 ≤ f) (h2 : f ≤ 1152921504606846976) : newOf f 1 = (⟨f, 1⟩, 0) := by
  unfold newOf redOf fitOf
  rw [if_neg (by omega)]
  simp only [Int.natAbs_one, Nat.gcd_one_right, Nat.div_one]
  rw [if_pos ⟨by omega, by omega⟩]
  by_cases h : f < 0
  · simp [h]; omega
  · simp [h]; omega
theorem v_one (f : Int) (h1 : -1152921504606846976 ≤ f) (h2 : f ≤ 1152921504606846976) : vR ⟨f, 1⟩ = true := by
  rw [vR_iff]
  exact ⟨by show (1 : Int) ≤ 1; decide, by show (1 : Int) ≤ 1152921504606846976; decide, h1, h2, by simp⟩
theorem fl_neg {a : api_Ratio} (hv : vR a = true) : -flR ⟨-a.Num, a.Den⟩ = ceilR a := by
  have h := vd_of hv
  have h0 := h.d0; have hr := h.rs
  have e := h.eq
  unfold ceilR up
  have ef : flR ⟨-a.Num, a.Den⟩ = (-a.Num) / a.Den := rfl
  rw [ef]
  by_cases hz : 0 < rsR a
  · have := (div_is (n := -a.Num) (d := a.Den) (q := -flR a - 1) (r := a.Den - rsR a) (by omega) (by rw [Int.mul_sub, Int.mul_neg]; omega) (by omega) (by omega)).1
    rw [this]; simp [hz]; omega
  · have := (div_is (n := -a.Num) (d := a.Den) (q := -flR a) (r := 0) (by omega) (by rw [Int.mul_neg]; omega) (by omega) (by omega)).1
    rw [this]; simp [hz]
theorem less_v {a b : api_Ratio} (ha : vR a = true) (hb : vR b = true) : (cmpR a b == -1) = decide (a.Num * b.Den < b.Num * a.Den) := by
  rw [cmpR_v ha hb, Bool.eq_iff_iff]
  simp only [beq_iff_eq, decide_eq_true_eq]
  unfold cmpI
  (repeat' split) <;> omega
theorem sumT_rep (C : Nat) (a : api_Ratio) : ∀ n : Nat, sumT C (List.replicate n a) = (n : Int) * (a.Num * ((C / a.Den.natAbs : Nat) : Int))
  | 0 => by simp [sumT]
  | n + 1 => by
    rw [List.replicate_succ]
    simp only [sumT]
    rw [sumT_rep C a n]
    have : ((n + 1 : Nat) : Int) = (n : Int) + 1 := by omega
    rw [this, Int.add_mul, Int.one_mul]; omega
theorem lcmL_rep (a : api_Ratio) (h : 0 < a.Den.natAbs) : ∀ n : Nat, lcmL (List.replicate (n + 1) a) = a.Den.natAbs
  | 0 => by simp [lcmL, Nat.lcm]
  | n + 1 => by
    rw [List.replicate_succ]
    simp only [lcmL]
    rw [lcmL_rep a h n, Nat.lcm_self]

structure DOK (t : mark_Dice) : Prop where
  len : t.L.length ≤ 600
  lo : 0 ≤ t.At
  hi : t.At ≤ t.L.length
theorem dNext (t : mark_Dice) (n : Int) (h : DOK t) (hn : n ≤ 4611686018427387904) : ∃ y t', mark_Dice_Next t n = some (y, t') ∧ DOK t' ∧ 0 ≤ y ∧ (1 ≤ n → y < n) := by
  obtain ⟨h1, h2, h3⟩ := h
  unfold mark_Dice_Next mark_Dice_Next_j1
  rcases bcases ((decide ((t.L.length : Int) ≤ t.At)) || (decide (n < (1 : Int)))) with hc | hc <;> rw [hc]
  · exact ⟨_, _, rfl, ⟨h1, h2, h3⟩, by omega, by omega⟩
  · simp only [Bool.or_eq_false_iff, decide_eq_false_iff_not] at hc
    rw [cond_false, req_pos (by omega)]
    generalize ix t.L t.At = x
    have h4 := Int.tmod_lt_of_pos x (show 0 < n by omega)
    have h5 : -n < x.tmod n := Int.lt_tmod_of_pos x (show 0 < n by omega)
    have hd : DOK ⟨t.L, IntKind.i64.wrap (t.At + 1)⟩ := ⟨h1, by show 0 ≤ IntKind.i64.wrap (t.At + 1); rw [wrap64 (by omega) (by omega)]; omega, by show IntKind.i64.wrap (t.At + 1) ≤ (t.L.length : Int); rw [wrap64 (by omega) (by omega)]; omega⟩
    rcases bcases (decide (Int.tmod x n < (0 : Int))) with hd2 | hd2 <;> rw [hd2]
    · have : x.tmod n < 0 := by simpa using hd2
      exact ⟨_, _, rfl, hd, by rw [wrap64 (by omega) (by omega)]; omega, by rw [wrap64 (by omega) (by omega)]; omega⟩
    · have : 0 ≤ x.tmod n := by simpa using hd2
      exact ⟨_, _, rfl, hd, this, fun _ => h4⟩
theorem iter_scanI {α ρ : Type} (l : List α) (f : Int → Option (Int ⊕ ρ)) (p : α → Bool) (hit : Nat → ρ) (miss : ρ)
    (hstep : ∀ (k : Nat) (hk : k < l.length), f (k : Int) = some (if p l[k] = true then .inr (hit k) else .inl ((k + 1 : Nat) : Int)))
    (hend : f (l.length : Int) = some (.inr miss)) : iter f (0 : Int) = some (if l.findIdx p < l.length then hit (l.findIdx p) else miss) := by
  have key : ∀ (n k : Nat), l.length - k = n → k ≤ l.findIdx p → iter f (k : Int) = some (if l.findIdx p < l.length then hit (l.findIdx p) else miss) := by
    intro n
    induction n with
    | zero =>
      intro k hn hk
      have h1 : l.findIdx p ≤ l.length := List.findIdx_le_length
      have : k = l.length := by omega
      subst this
      rw [iter_inr hend, if_neg (by omega)]
    | succ n ih =>
      intro k hn hk
      have hk' : k < l.length := by omega
      have h1 := hstep k hk'
      cases hp : p l[k] with
      | true =>
        rw [hp, if_pos rfl] at h1
        have e : l.findIdx p = k := by
          rcases Nat.lt_or_ge k (l.findIdx p) with hlt | hge
          · exact absurd (List.not_of_lt_findIdx hlt) (by simp [hp])
          · omega
        rw [iter_inr h1, e, if_pos hk']
      | false =>
        rw [hp, if_neg (by simp)] at h1
        rw [iter_inl h1]
        apply ih (k + 1) (by omega)
        rcases Nat.lt_or_ge k (l.findIdx p) with hlt | hge
        · exact hlt
        · have e : l.findIdx p = k := by omega
          have := List.findIdx_getElem (w := by rw [e]; exact hk') (p := p) (xs := l)
          simp only [e] at this
          rw [hp] at this
          cases this
  exact key _ 0 rfl (by omega)
def gr (b : List Int) (m : Int) : Nat := b.findIdx (fun x => decide (x ≤ m))
theorem gr_le (b : List Int) (m : Int) : gr b m ≤ b.length := List.findIdx_le_length
theorem Grade_eq (b : List Int) (m : Int) (h : b.length ≤ 1000) : boundary_Grade b m = some (gr b m : Int) := by
  unfold boundary_Grade boundary_Grade_j1
  rw [iter_scanI b (boundary_Grade_l2 b m) (fun x => decide (x ≤ m)) (fun k => .inr (k : Int)) (.inl ())]
  · have := gr_le b m
    unfold gr at this ⊢
    by_cases hc : b.findIdx (fun x => decide (x ≤ m)) < b.length
    · rw [if_pos hc]; rfl
    · rw [if_neg hc]
      have e : b.findIdx (fun x => decide (x ≤ m)) = b.length := by omega
      rw [e]; rfl
  · intro k hk
    simp only [boundary_Grade_l2]
    rw [show decide ((k : Int) < (b.length : Int)) = true by simp; omega, cond_true, req_pos (by omega), ix_nat _ _ hk, i64_add1 k (by omega)]
    by_cases hc : b[k] ≤ m <;> simp [hc]
  · simp [boundary_Grade_l2]
structure Bd (b : List Int) (most : Int) : Prop where
  lo : 1 ≤ b.length
  hi : b.length ≤ 9
  r : ∀ x ∈ b, 0 ≤ x ∧ x ≤ most + 1
  dn : ∀ i j (hi : i < b.length) (hj : j < b.length), i ≤ j → b[j] ≤ b[i]
theorem Check_eq (b : List Int) (most : Int) (h : Bd b most) (h0 : 0 ≤ most) (h1 : most ≤ 200) : boundary_Check b most = some 0 := by
  have hl := h.lo; have hh := h.hi
  unfold boundary_Check boundary_isScore
  simp only [Option.bind]
  rw [show (!(decide ((0 : Int) ≤ most) && decide (most ≤ (200 : Int)))) = false by simp; omega, cond_false]
  rw [show ((decide ((b.length : Int) < (1 : Int))) || (decide ((9 : Int) < (b.length : Int)))) = false by simp; omega, cond_false]
  have e1 : iter (boundary_Check_l4 b most) (0 : Int) = some (.inl ()) := by
    obtain ⟨r, e, hr⟩ := iter_inv (f := boundary_Check_l4 b most) (fun s => 0 ≤ s ∧ s ≤ b.length) (fun s => b.length - s.toNat) (fun r => r = .inl ()) (by
      rintro s ⟨s0, s1⟩
      simp only [boundary_Check_l4]
      rcases bcases (decide (s < (b.length : Int))) with hc | hc <;> rw [hc]
      · left
        have hc' : s < b.length := by simpa using hc
        have hm := h.r _ (ix_mem b s s0 hc')
        rw [cond_true, req_pos (by omega), wrap64 (n := most + 1) (by omega) (by omega), wrap64 (n := s + 1) (by omega) (by omega)]
        rw [show ((decide ((ix b s) < (0 : Int))) || (decide (most + 1 < (ix b s)))) = false by simp; omega, cond_false]
        exact ⟨_, rfl, by omega, by omega⟩
      · right
        exact ⟨_, rfl, rfl⟩) 0 (by omega)
    rw [e, hr]
  rw [e1]
  simp only [boundary_Check_j3, boundary_Check_j1]
  have e2 : iter (boundary_Check_l2 b) (1 : Int) = some (.inl ()) := by
    obtain ⟨r, e, hr⟩ := iter_inv (f := boundary_Check_l2 b) (fun s => 1 ≤ s ∧ s ≤ b.length) (fun s => b.length - s.toNat) (fun r => r = .inl ()) (by
      rintro s ⟨s0, s1⟩
      simp only [boundary_Check_l2]
      rcases bcases (decide (s < (b.length : Int))) with hc | hc <;> rw [hc]
      · left
        have hc' : s < b.length := by simpa using hc
        obtain ⟨k, rfl⟩ : ∃ k : Nat, s = ((k + 1 : Nat) : Int) := ⟨(s - 1).toNat, by omega⟩
        rw [cond_true, show IntKind.i64.wrap (((k + 1 : Nat) : Int) - 1) = (k : Int) by rw [wrap64 (by omega) (by omega)]; omega, req_pos (by omega), wrap64 (n := ((k + 1 : Nat) : Int) + 1) (by omega) (by omega), ix_nat _ k (by omega), ix_nat _ (k + 1) (by omega)]
        have := h.dn k (k + 1) (by omega) (by omega) (by omega)
        rw [show decide (b[k] < b[k + 1]) = false by simp; omega, cond_false]
        exact ⟨_, rfl, by omega, by omega⟩
      · right
        exact ⟨_, rfl, rfl⟩) 1 (by omega)
    rw [e, hr]
  rw [e2]
  rfl
theorem dBounds (t : mark_Dice) (most : Int) (h : DOK t) (h0 : 0 ≤ most) (h1 : most ≤ 200) : ∃ b t', mark_Dice_Bounds t most = some (b, t') ∧ DOK t' ∧ Bd b most := by
  unfold mark_Dice_Bounds
  obtain ⟨y, t1, e1, h2, h3, h4⟩ := dNext t 4 h (by omega)
  have h5 := h4 (by omega)
  rw [e1]
  simp only [Option.bind]
  rw [wrap64 (n := most + 1) (by omega) (by omega), wrap64 (n := 1 + y) (by omega) (by omega)]
  obtain ⟨⟨L, A, w⟩, e2, g1, g2, g3, g4⟩ := iter_inv (f := mark_Dice_Bounds_l2) (fun s => 0 ≤ s.2.1 ∧ s.2.1 + s.2.2.2.2.length = 1 + y ∧ DOK ⟨s.2.2.1, s.2.2.2.1⟩ ∧ (0 ≤ s.1 ∧ s.1 ≤ most + 1) ∧ (∀ c ∈ s.2.2.2.2, s.1 ≤ c ∧ c ≤ most + 1) ∧ s.2.2.2.2.Pairwise (fun a b => b ≤ a)) (fun s => s.2.1.toNat)
    (fun r => DOK ⟨r.1, r.2.1⟩ ∧ (r.2.2.length : Int) = 1 + y ∧ (∀ c ∈ r.2.2, 0 ≤ c ∧ c ≤ most + 1) ∧ r.2.2.Pairwise (fun a b => b ≤ a)) (by
      rintro ⟨b, i, L, A, w⟩ ⟨k1, k2, k3, k4, k5, k6⟩
      simp only at k1 k2 k3 k4 k5 k6
      simp only [mark_Dice_Bounds_l2]
      rcases bcases (decide ((0 : Int) < i)) with hc | hc <;> rw [hc]
      · left
        have hi : 0 < i := by simpa using hc
        rw [Int.tdiv_eq_ediv_of_nonneg k4.1, wrap64 (n := b / 2) (by omega) (by omega), wrap64 (n := b / 2 + 1) (by omega) (by omega)]
        obtain ⟨a, ta, ea, ha, a1, a2⟩ := dNext ⟨L, A⟩ (b / 2 + 1) k3 (by omega)
        have a3 := a2 (by omega)
        simp only [cond_true, ea, Option.bind]
        rw [req_pos (by simp; omega), wrap64 (n := i - 1) (by omega) (by omega), wrap64 (n := b - a) (by omega) (by omega)]
        refine ⟨_, rfl, ⟨by show 0 ≤ i - 1; omega, by simp; omega, ha, ⟨by simp; omega, by simp; omega⟩, ?_, ?_⟩, ?_⟩
        · intro c hc
          rcases List.mem_append.1 hc with hc | hc
          · have := k5 c hc; simp only []; omega
          · simp at hc; simp only []; omega
        · simp only []
          rw [List.pairwise_append]
          refine ⟨k6, by simp, ?_⟩
          intro x hx z hz
          have := k5 x hx
          simp at hz
          omega
        · show (i - 1).toNat < i.toNat
          omega
      · right
        have hi : i = 0 := by simp at hc; omega
        exact ⟨_, rfl, k3, by show (w.length : Int) = 1 + y; omega, fun c hc => by have := k5 c hc; omega, k6⟩) (most + 1, 1 + y, t1.L, t1.At, []) ⟨by show 0 ≤ 1 + y; omega, by simp, h2, ⟨by simp; omega, by simp⟩, by simp, by simp⟩
  rw [e2]
  simp only at g2 g3 g4
  refine ⟨w, ⟨L, A⟩, rfl, g1, ⟨by omega, by omega, g3, ?_⟩⟩
  intro i j hi hj hij
  rcases Nat.lt_or_eq_of_le hij with hlt | rfl
  · exact List.pairwise_iff_getElem.1 g4 i j hi hj hlt
  · exact Int.le_refl _
theorem gr_iff (b : List Int) (m : Int) (most : Int) (hb : Bd b most) (v : Nat) (hv : v < b.length) : b[v] ≤ m ↔ gr b m ≤ v := by
  constructor
  · intro h
    rcases Nat.lt_or_ge v (gr b m) with hlt | hge
    · exact absurd (List.not_of_lt_findIdx hlt) (by simp [h])
    · exact hge
  · intro h
    have hl : b.findIdx (fun x => decide (x ≤ m)) < b.length := Nat.lt_of_le_of_lt h hv
    have h1 := List.findIdx_getElem (w := hl)
    have h2 := hb.dn (gr b m) v hl hv h
    simp only [decide_eq_true_eq] at h1
    exact Int.le_trans h2 h1
theorem gr_anti (b : List Int) (most : Int) (hb : Bd b most) (m m' : Int) (h : m ≤ m') : gr b m' ≤ gr b m := by
  rcases Nat.lt_or_ge (gr b m) b.length with hlt | hge
  · have := (gr_iff b m most hb (gr b m) hlt).2 (Nat.le_refl _)
    exact (gr_iff b m' most hb (gr b m) hlt).1 (by omega)
  · have := gr_le b m'; omega

theorem round_b {x : api_Ratio} (h : vR x = true) : (2 * roundR x - 1) * x.Den ≤ 2 * x.Num ∧ 2 * x.Num < (2 * roundR x + 1) * x.Den := by
  have v := vd_of h
  have r := v.rs
  have e := v.eq
  have d0 := v.d0
  unfold roundR up
  have e2 : x.Den * flR x = flR x * x.Den := Int.mul_comm _ _
  by_cases hc : x.Den ≤ 2 * rsR x
  · rw [if_pos (by simpa using hc)]
    have e3 : (2 * (flR x + 1) - 1) * x.Den = 2 * (flR x * x.Den) + x.Den := by grind
    have e4 : (2 * (flR x + 1) + 1) * x.Den = 2 * (flR x * x.Den) + 3 * x.Den := by grind
    rw [e3, e4]; omega
  · rw [if_neg (by simpa using hc)]
    have e3 : (2 * (flR x + 0) - 1) * x.Den = 2 * (flR x * x.Den) - x.Den := by grind
    have e4 : (2 * (flR x + 0) + 1) * x.Den = 2 * (flR x * x.Den) + x.Den := by grind
    rw [e3, e4]; omega
theorem round_mono {x y : api_Ratio} (hx : vR x = true) (hy : vR y = true) (h : x.Num * y.Den ≤ y.Num * x.Den) : roundR x ≤ roundR y := by
  have bx := (round_b hx).1
  have by' := (round_b hy).2
  have dx : 0 < x.Den := by have := (vd_of hx).d0; omega
  have dy : 0 < y.Den := by have := (vd_of hy).d0; omega
  have h1 := Int.mul_le_mul_of_nonneg_right bx (show 0 ≤ y.Den by omega)
  have h2 := Int.mul_lt_mul_of_pos_right by' dx
  have h3 : (2 * roundR x - 1) * (x.Den * y.Den) < (2 * roundR y + 1) * (x.Den * y.Den) := by
    have e1 : (2 * roundR x - 1) * (x.Den * y.Den) = (2 * roundR x - 1) * x.Den * y.Den := by grind
    have e2 : (2 * roundR y + 1) * (x.Den * y.Den) = (2 * roundR y + 1) * y.Den * x.Den := by grind
    have e3 : 2 * x.Num * y.Den = 2 * (x.Num * y.Den) := by grind
    have e4 : 2 * y.Num * x.Den = 2 * (y.Num * x.Den) := by grind
    rw [e1, e2]; omega
  have := Int.lt_of_mul_lt_mul_right h3 (Int.le_of_lt (Int.mul_pos dx dy))
  omega
theorem round_one (n : Int) : roundR ⟨n, 1⟩ = n := by
  simp only [roundR, flR, rsR, up]
  simp
theorem v_half (n : Int) (h0 : 0 ≤ n) (h1 : n ≤ 1000) (h : n % 2 = 1) : vR ⟨n, 2⟩ = true := by
  rw [vR_iff]
  refine ⟨by show (1 : Int) ≤ 2; omega, by show (2 : Int) ≤ _; omega, by show _ ≤ n; omega, by show n ≤ _; omega, ?_⟩
  show Nat.gcd n.natAbs 2 = 1
  rw [Nat.gcd_comm, Nat.gcd_rec, show n.natAbs % 2 = 1 by omega]
  rfl

theorem iter_foldR {α β ρ : Type} (l : List α) (f : β × Int → Option ((β × Int) ⊕ ρ)) (g : β → α → β) (fin : β → ρ) (I : Nat → β → Prop)
    (hstep : ∀ (k : Nat) (b : β) (hk : k < l.length), I k b → f (b, (k : Int)) = some (.inl (g b l[k], ((k + 1 : Nat) : Int))) ∧ I (k + 1) (g b l[k]))
    (hend : ∀ b, I l.length b → f (b, (l.length : Int)) = some (.inr (fin b))) (b : β) (h0 : I 0 b) : iter f (b, (0 : Int)) = some (fin (l.foldl g b)) := by
  have key : ∀ (n k : Nat) (b : β), l.length - k = n → k ≤ l.length → I k b → iter f (b, (k : Int)) = some (fin ((l.drop k).foldl g b)) := by
    intro n
    induction n with
    | zero =>
      intro k b hn hk hI
      have : k = l.length := by omega
      subst this
      rw [iter_inr (hend b hI), List.drop_length]; rfl
    | succ n ih =>
      intro k b hn hk hI
      have hk' : k < l.length := by omega
      obtain ⟨h1, h2⟩ := hstep k b hk' hI
      rw [iter_inl h1, ih (k + 1) _ (by omega) (by omega) h2, List.drop_eq_getElem_cons hk']; rfl
  have := key _ 0 b rfl (by omega) h0
  simpa using this
theorem iter_of_N {σ ρ : Type} {f : σ → Option (σ ⊕ ρ)} {s : σ} {r : ρ} (n : Nat) (h : iterN f n s = some r) : iter f s = some r := iter_iff.2 ⟨n, h⟩

def sumI : List Int → Int
  | [] => 0
  | a :: l => a + sumI l
theorem sumI_append (l m : List Int) : sumI (l ++ m) = sumI l + sumI m := by
  induction l with
  | nil => simp [sumI]
  | cons a l ih => simp only [List.cons_append, sumI, ih]; omega
theorem sumI_take_succ (l : List Int) (k : Nat) (h : k < l.length) : sumI (l.take (k + 1)) = sumI (l.take k) + l[k] := by
  rw [List.take_succ_eq_append_getElem h, sumI_append]; simp [sumI]
theorem foldl_sum (l : List Int) : ∀ b : Int, l.foldl (fun b a => b + a) b = b + sumI l := by
  induction l with
  | nil => intro b; simp [sumI]
  | cons a l ih => intro b; simp only [List.foldl_cons, ih, sumI]; omega
theorem sumI_bound (l : List Int) (k : Int) (h : ∀ c ∈ l, 0 ≤ c ∧ c ≤ k) : 0 ≤ sumI l ∧ sumI l ≤ k * l.length := by
  induction l with
  | nil => simp [sumI]
  | cons a l ih =>
    have h1 := h a (by simp)
    have h2 := ih fun c hc => h c (by simp [hc])
    simp only [sumI, List.length_cons]
    have : k * ((l.length + 1 : Nat) : Int) = k * l.length + k := by rw [Int.natCast_add, Int.mul_add]; simp
    omega
theorem sumI_mono (l : List Int) (h : ∀ c ∈ l, 0 ≤ c) : ∀ (j k : Nat), j ≤ k → sumI (l.take j) ≤ sumI (l.take k) := by
  intro j k hjk
  induction k with
  | zero => have : j = 0 := by omega
            subst this; omega
  | succ k ih =>
    by_cases hj : j = k + 1
    · subst hj; omega
    · have h1 := ih (by omega)
      by_cases hk : k < l.length
      · rw [sumI_take_succ l k hk]
        have := h l[k] (List.getElem_mem hk)
        omega
      · rw [List.take_of_length_le (show l.length ≤ k + 1 by omega)]
        rw [List.take_of_length_le (show l.length ≤ k by omega)] at h1
        exact h1
structure Sm (d : api_Distribution) : Prop where
  lo : 1 ≤ d.Counts.length
  hi : d.Counts.length ≤ 20
  c : ∀ c ∈ d.Counts, 0 ≤ c ∧ c ≤ 100
theorem Sm.take {d : api_Distribution} (h : Sm d) (k : Nat) : 0 ≤ sumI (d.Counts.take k) ∧ sumI (d.Counts.take k) ≤ 2000 := by
  have := sumI_bound (d.Counts.take k) 100 (fun c hc => h.c c (List.mem_of_mem_take hc))
  have h2 : ((d.Counts.take k).length : Int) ≤ 20 := by have := h.hi; simp; omega
  omega
theorem Sm.all {d : api_Distribution} (h : Sm d) : 0 ≤ sumI d.Counts ∧ sumI d.Counts ≤ 2000 := by
  have := h.take d.Counts.length
  rwa [List.take_length] at this
theorem dValid (d : api_Distribution) (h : Sm d) : distribution_Valid d = some true := by
  unfold distribution_Valid
  have h1 := h.lo
  have h2 := h.hi
  rw [show ((decide ((d.Counts.length : Int) < (1 : Int))) || (decide ((201 : Int) < (d.Counts.length : Int)))) = false by simp; omega, cond_false]
  rw [iter_foldR d.Counts (distribution_Valid_l2 d) (fun b c => b + c) (fun b => .inl b) (fun k b => b = sumI (d.Counts.take k)) (fun k b hk hb => by
    have hc := h.c d.Counts[k] (List.getElem_mem hk)
    have ht := h.take k
    refine ⟨?_, by rw [sumI_take_succ _ _ hk, hb]⟩
    simp only [distribution_Valid_l2, ix_nat d.Counts k hk]
    rw [show decide ((k : Int) < (d.Counts.length : Int)) = true by simp; omega, cond_true, req_pos (by omega), show ((decide (d.Counts[k] < (0 : Int))) || (decide ((1048576 : Int) < d.Counts[k]))) = false by simp; omega, cond_false, i64_add1 k (by omega), wrap64 (by omega) (by omega)]) (fun b _ => by simp [distribution_Valid_l2]) 0 (by simp [sumI])]
  simp only [Option.bind, distribution_Valid_j1, foldl_sum]
  have := h.all
  rw [show decide (0 + sumI d.Counts ≤ (1048576 : Int)) = true by simp; omega]
def below (d : api_Distribution) (s : Int) : Int := sumI (d.Counts.take s.toNat)
theorem dBelow (d : api_Distribution) (s : Int) (h : Sm d) : distribution_Below d s = some (below d s) := by
  unfold distribution_Below below
  rw [dValid d h]
  simp only [Option.bind, Bool.not_true, cond_false]
  have h2 := h.hi
  have := iter_val (f := distribution_Below_l2 d s) (fun x => 0 ≤ x.2 ∧ x.2 ≤ d.Counts.length ∧ x.2.toNat ≤ s.toNat ∧ x.1 = sumI (d.Counts.take x.2.toNat)) (fun x => (d.Counts.length - x.2).toNat) (fun _ => sumI (d.Counts.take s.toNat)) (by
    rintro ⟨b, i⟩ ⟨k1, k2, k3, k4⟩
    simp only at k1 k2 k3 k4
    obtain ⟨k, rfl⟩ : ∃ k : Nat, i = k := ⟨i.toNat, by omega⟩
    simp only [Int.toNat_natCast] at k3 k4
    simp only [distribution_Below_l2]
    rcases bcases ((decide ((k : Int) < (d.Counts.length : Int))) && (decide ((k : Int) < s))) with hc | hc <;> rw [hc]
    · left
      simp only [Bool.and_eq_true, decide_eq_true_eq] at hc
      have hk : k < d.Counts.length := by omega
      have hcc := h.c d.Counts[k] (List.getElem_mem hk)
      have ht := h.take k
      rw [cond_true, req_pos (by omega), ix_nat d.Counts k hk, i64_add1 k (by omega), wrap64 (by omega) (by omega)]
      refine ⟨_, rfl, ⟨by omega, by simp; omega, by simp; omega, ?_⟩, ?_, by first | rfl | trivial⟩
      · show b + d.Counts[k] = sumI (d.Counts.take ((k + 1 : Nat) : Int).toNat)
        rw [Int.toNat_natCast, sumI_take_succ _ _ hk, k4]
      · show ((d.Counts.length : Int) - ((k + 1 : Nat) : Int)).toNat < ((d.Counts.length : Int) - (k : Int)).toNat
        omega
    · right
      simp only [Bool.and_eq_false_iff, decide_eq_false_iff_not] at hc
      rw [cond_false, k4]
      congr 3
      by_cases hl : k = d.Counts.length
      · rw [hl, List.take_length, List.take_of_length_le (by omega)]
      · have : k = s.toNat := by omega
        rw [this]) (0, 0) ⟨by simp, by simp, by simp, by simp [sumI]⟩
  rw [this]
  rfl
def count (d : api_Distribution) : Int := sumI d.Counts
theorem below_len (d : api_Distribution) : below d (d.Counts.length : Int) = count d := by simp [below, count]
theorem dCount (d : api_Distribution) (h : Sm d) : distribution_Count d = some (count d) := by
  unfold distribution_Count
  rw [dBelow d _ h, below_len]; rfl
theorem dRoll (t : List Int) (h : t.length ≤ 600) : ∃ d, mark_Roll t = some d ∧ DOK d := ⟨_, rfl, ⟨h, by simp, by simp⟩⟩
theorem cmpI_mul (x y c : Int) (h : 0 < c) : cmpI (x * c) (y * c) = cmpI x y := by
  unfold cmpI
  have e1 : x * c < y * c ↔ x < y := ⟨fun hh => Int.lt_of_mul_lt_mul_right hh (by omega), fun hh => Int.mul_lt_mul_of_pos_right hh h⟩
  have e2 : y * c < x * c ↔ y < x := ⟨fun hh => Int.lt_of_mul_lt_mul_right hh (by omega), fun hh => Int.mul_lt_mul_of_pos_right hh h⟩
  simp only [e1, e2]
theorem newOf_ok (a N : Int) (h1 : -1152921504606846976 ≤ a) (h2 : a ≤ 1152921504606846976) (h3 : 0 < N) (h4 : N ≤ 1152921504606846976) : ∃ r, newOf a N = (r, 0) ∧ vR r = true ∧ r.Num * N = a * r.Den ∧ 0 < r.Den := by
  unfold newOf
  rw [if_neg (by omega)]
  have e : ∃ r, redOf (!(decide (a < 0) == decide (N < 0))) a.natAbs N.natAbs = (r, 0) := by
    unfold redOf fitOf
    have k1 := Nat.div_le_self a.natAbs (Nat.gcd a.natAbs N.natAbs)
    have k2 := Nat.div_le_self N.natAbs (Nat.gcd a.natAbs N.natAbs)
    rw [if_pos ⟨by omega, by omega⟩]
    exact ⟨_, rfl⟩
  obtain ⟨r, hr⟩ := e
  obtain ⟨g1, g2, g3⟩ := redOf_val _ _ _ (by omega) r hr
  refine ⟨r, hr, g1, ?_, g3⟩
  rw [show ((N.natAbs : Nat) : Int) = N by omega] at g2
  rw [g2]
  congr 1
  unfold sv
  rw [show decide (N < 0) = false by simp; omega]
  by_cases h : a < 0
  · simp [h]; omega
  · simp [h]; omega
theorem cmpR_new (r1 r2 : api_Ratio) (a N b M : Int) (v1 : vR r1 = true) (v2 : vR r2 = true) (e1 : r1.Num * N = a * r1.Den) (e2 : r2.Num * M = b * r2.Den) (d1 : 0 < r1.Den) (d2 : 0 < r2.Den) (hN : 0 < N) (hM : 0 < M) : cmpR r1 r2 = cmpI (a * M) (b * N) := by
  unfold cmpR
  rw [if_pos ⟨v1, v2⟩, ← cmpI_mul _ _ (N * M) (Int.mul_pos hN hM), ← cmpI_mul (a * M) (b * N) (r1.Den * r2.Den) (Int.mul_pos d1 d2)]
  congr 1
  · have : r1.Num * r2.Den * (N * M) = (r1.Num * N) * (r2.Den * M) := by grind
    rw [this, e1]; grind
  · have : r2.Num * r1.Den * (N * M) = (r2.Num * M) * (r1.Den * N) := by grind
    rw [this, e2]; grind
theorem cmpI_ge (x y : Int) : (0 ≤ cmpI x y) ↔ y ≤ x := by
  unfold cmpI; split <;> (try split) <;> omega
theorem light_eq (t : List Int) : mark_Light t = some (decide ((t.length : Int) ≤ 600)) := rfl

theorem setI_len {α : Type} (l : List α) (n : Int) (x : α) : (setI l n x).length = l.length := by simp [setI]
theorem setI_get {α : Type} (l : List α) (k : Nat) (x : α) (j : Nat) (h : j < (setI l (k : Int) x).length) : (setI l (k : Int) x)[j] = if k = j then x else l[j]'(by simpa [setI] using h) := by
  simp [setI, List.getElem_set]
theorem iter_fill {ρ : Type} (N : Nat) (f : Int × List Int → Option ((Int × List Int) ⊕ ρ)) (g : Nat → Int) (fin : List Int → ρ)
    (hstep : ∀ (k : Nat) (w : List Int), k < N → w.length = N → (∀ j (hj : j < w.length), j < k → w[j] = g j) → f ((k : Int), w) = some (.inl (((k + 1 : Nat) : Int), setI w k (g k))))
    (hend : ∀ w : List Int, w.length = N → f ((N : Int), w) = some (.inr (fin w))) : iter f ((0 : Int), rep (N : Int) (0 : Int)) = some (fin ((List.range N).map g)) := by
  have key : ∀ (n k : Nat) (w : List Int), N - k = n → k ≤ N → w.length = N → (∀ j (hj : j < w.length), j < k → w[j] = g j) → iter f ((k : Int), w) = some (fin ((List.range N).map g)) := by
    intro n
    induction n with
    | zero =>
      intro k w hn hk hl hw
      have : k = N := by omega
      subst this
      rw [iter_inr (hend w hl)]
      congr 2
      apply List.ext_getElem (by simp [hl])
      intro j h1 h2
      simp only [List.getElem_map, List.getElem_range]
      exact hw j h1 (by omega)
    | succ n ih =>
      intro k w hn hk hl hw
      rw [iter_inl (hstep k w (by omega) hl hw)]
      apply ih (k + 1) _ (by omega) (by omega) (by rw [setI_len]; exact hl)
      intro j hj hjk
      rw [setI_get]
      by_cases e : k = j
      · rw [if_pos e, e]
      · rw [if_neg e]; exact hw j _ (by omega)
  exact key _ 0 (rep (N : Int) 0) rfl (by omega) (by simp [rep]) (by omega)

def interp (high low : Int) (n : Nat) : List Int := (List.range (n + 1)).map (fun (v : Nat) => high - ((v : Int) * (high - low) + n - 1) / n)
theorem Interp_eq (high low : Int) (n : Nat) (h0 : 0 ≤ low) (h1 : low ≤ high) (h2 : high ≤ 200) (h3 : 1 ≤ n) (h4 : n ≤ 8) : boundary_Interpolate high low n = some (interp high low n, 0) := by
  unfold boundary_Interpolate boundary_Interpolate_j1
  rw [show (((((decide (low < (0 : Int))) || (decide (high < low))) || (decide ((200 : Int) < high))) || (decide ((n : Int) < (1 : Int)))) || (decide ((8 : Int) < n))) = false by
    simp; omega, cond_false]
  rw [wrap64 (n := (n : Int) + 1) (by omega) (by omega), req_pos (by omega)]
  have e : ((n : Int) + 1) = ((n + 1 : Nat) : Int) := by omega
  rw [e, iter_fill (n + 1) (boundary_Interpolate_l2 high low n) (fun (v : Nat) => high - ((v : Int) * (high - low) + n - 1) / n) (fun w => w) ?_ ?_]
  · rfl
  · intro k w hk hl hw
    have hm : (k : Int) * (high - low) ≤ 8 * 200 := Int.mul_le_mul (by omega) (by omega) (by omega) (by omega)
    have hm0 : 0 ≤ (k : Int) * (high - low) := Int.mul_nonneg (by omega) (by omega)
    simp only [boundary_Interpolate_l2, bindV]
    rw [wrap64 (n := (n : Int) + 1) (by omega) (by omega)]
    rw [show (decide ((k : Int) < ((rep ((n : Int) + 1) (0 : Int)).length : Int))) = true by simp [rep]; omega, cond_true, req_pos (by omega)]
    have hq := Int.ediv_le_self (b := (n : Int)) (a := (k : Int) * (high - low) + n - 1) (by omega)
    have hq0 : 0 ≤ ((k : Int) * (high - low) + n - 1) / (n : Int) := Int.ediv_nonneg (by omega) (by omega)
    rw [wrap64 (n := high - low) (by omega) (by omega), wrap64 (n := (k : Int) * (high - low)) (by omega) (by omega), wrap64 (n := (k : Int) * (high - low) + n) (by omega) (by omega), wrap64 (n := (k : Int) * (high - low) + n - 1) (by omega) (by omega), Int.tdiv_eq_ediv_of_nonneg (by omega), wrap64 (n := ((k : Int) * (high - low) + n - 1) / n) (by omega) (by omega), wrap64 (n := high - _) (by omega) (by omega), i64_add1 k (by omega)]
  · intro w hl
    simp only [boundary_Interpolate_l2, bindV]
    rw [wrap64 (n := (n : Int) + 1) (by omega) (by omega)]
    rw [show (decide (((n + 1 : Nat) : Int) < ((rep ((n : Int) + 1) (0 : Int)).length : Int))) = false by simp [rep] <;> omega, cond_false]

def rc (d : api_Distribution) (j : Nat) : Int := sumI (d.Counts.drop j)
def RC (d : api_Distribution) : List Int := (List.range (d.Counts.length + 1)).map (rc d)
theorem rc_succ (d : api_Distribution) (k : Nat) (h : k < d.Counts.length) : rc d k = d.Counts[k] + rc d (k + 1) := by
  unfold rc
  rw [List.drop_eq_getElem_cons h]; rfl
theorem rc_len (d : api_Distribution) : rc d d.Counts.length = 0 := by simp [rc, sumI]
theorem Sm.rc {d : api_Distribution} (h : Sm d) (k : Nat) : 0 ≤ rc d k ∧ rc d k ≤ 2000 := by
  have := sumI_bound (d.Counts.drop k) 100 (fun c hc => h.c c (List.mem_of_mem_drop hc))
  have h2 := h.hi
  have h3 : (d.Counts.drop k).length ≤ 20 := by simp; omega
  unfold LS.rc
  omega
theorem RC_len (d : api_Distribution) : (RC d).length = d.Counts.length + 1 := by simp [RC]
theorem RC_ix (d : api_Distribution) (k : Nat) (h : k ≤ d.Counts.length) : ix (RC d) (k : Int) = rc d k := by
  rw [ix_nat _ k (by rw [RC_len]; omega)]; simp [RC]
theorem greatest_eq (d : api_Distribution) (h : Sm d) : boundary_greatest d = some ((d.Counts.length : Int) - 1) := by
  have := h.lo; have := h.hi
  unfold boundary_greatest; rw [wrap64 (by omega) (by omega)]
theorem reach_eq (d : api_Distribution) (h : Sm d) : boundary_reaching d = some (RC d) := by
  have h1 := h.lo; have h2 := h.hi
  unfold boundary_reaching boundary_reaching_j1
  rw [wrap64 (n := (d.Counts.length : Int) + 1) (by omega) (by omega), req_pos (by omega), greatest_eq d h]
  simp only [Option.bind]
  have key : ∀ (k : Nat) (w : List Int), k ≤ d.Counts.length → w.length = d.Counts.length + 1 → (∀ j (hj : j < w.length), k ≤ j → w[j] = rc d j) → iter (boundary_reaching_l2 d) ((k : Int) - 1, w) = some (RC d) := by
    intro k
    induction k with
    | zero =>
      intro w hk hl hw
      have : boundary_reaching_l2 d (((0 : Nat) : Int) - 1, w) = some (.inr w) := by simp [boundary_reaching_l2]
      rw [iter_inr this]
      congr 1
      apply List.ext_getElem (by simp [hl, RC])
      intro j h1 h2
      rw [hw j h1 (by omega)]
      simp [RC]
    | succ k ih =>
      intro w hk hl hw
      have hr := h.rc k
      have e1 : ix w ((k + 1 : Nat) : Int) = rc d (k + 1) := by rw [ix_nat _ _ (by omega)]; exact hw _ _ (by omega)
      have e2 : ix d.Counts (k : Int) = d.Counts[k] := ix_nat _ _ (by omega)
      have e3 := rc_succ d k (by omega)
      have : boundary_reaching_l2 d (((k + 1 : Nat) : Int) - 1, w) = some (.inl ((k : Int) - 1, setI w k (rc d k))) := by
        simp only [boundary_reaching_l2, bindV]
        rw [show ((k + 1 : Nat) : Int) - 1 = (k : Int) by omega]
        rw [show decide ((0 : Int) ≤ (k : Int)) = true by simp, cond_true, i64_add1 k (by omega), req_pos (by omega), e1, e2, wrap64 (n := (k : Int) - 1) (by omega) (by omega), wrap64 (n := rc d (k + 1) + d.Counts[k]) (by omega) (by omega)]
        rw [show rc d (k + 1) + d.Counts[k] = rc d k by omega]
      rw [iter_inl this]
      apply ih _ (by omega) (by rw [setI_len]; exact hl)
      intro j hj hjk
      rw [setI_get]
      by_cases e : k = j
      · rw [if_pos e, e]
      · rw [if_neg e]; exact hw j _ (by omega)
  rw [key d.Counts.length _ (by omega) (by simp [rep] <;> omega) (by
    intro j hj hk
    simp [rep] at hj
    have : j = d.Counts.length := by omega
    subst this
    simp [rep, rc_len])]
def tl (d : api_Distribution) (b : List Int) : Nat → List Int
  | 0 => rep ((b.length + 1 : Nat) : Int) 0
  | k + 1 => setI (tl d b k) (gr b k : Int) (IntKind.i64.wrap (ix (tl d b k) (gr b k : Int) + ix d.Counts (k : Int)))
theorem tl_len (d : api_Distribution) (b : List Int) : ∀ k, (tl d b k).length = b.length + 1
  | 0 => by simp [tl, rep]
  | k + 1 => by simp only [tl]; rw [setI_len, tl_len d b k]
theorem Tally_eq (d : api_Distribution) (b : List Int) (h : Sm d) (hb : Bd b ((d.Counts.length : Int) - 1)) : boundary_Tally d b = some (tl d b d.Counts.length, 0) := by
  have h1 := h.lo; have h2 := h.hi; have h3 := hb.lo; have h4 := hb.hi
  unfold boundary_Tally boundary_Tally_j1
  rw [dValid d h]
  simp only [Option.bind, Bool.not_true, cond_false]
  rw [greatest_eq d h]
  simp only []
  rw [Check_eq b _ hb (by omega) (by omega)]
  simp only []
  rw [show ((0 : Int) != 0) = false by simp, cond_false, wrap64 (n := (b.length : Int) + 1) (by omega) (by omega), req_pos (by omega)]
  have key : ∀ (n k : Nat), d.Counts.length - k = n → k ≤ d.Counts.length → iter (boundary_Tally_l2 d b) ((k : Int), tl d b k) = some (tl d b d.Counts.length) := by
    intro n
    induction n with
    | zero =>
      intro k hn hk
      have : k = d.Counts.length := by omega
      subst this
      exact iter_inr (by simp [boundary_Tally_l2])
    | succ n ih =>
      intro k hn hk
      have := gr_le b k
      have : boundary_Tally_l2 d b ((k : Int), tl d b k) = some (.inl (((k + 1 : Nat) : Int), tl d b (k + 1))) := by
        simp only [boundary_Tally_l2]
        rw [show decide ((k : Int) < (d.Counts.length : Int)) = true by simp; omega, cond_true, req_pos (by omega), Grade_eq b k (by omega)]
        simp only [Option.bind]
        rw [req_pos (by rw [tl_len]; omega), i64_add1 k (by omega)]
        rfl
      rw [iter_inl this, ih (k + 1) (by omega) (by omega)]
  have := key _ 0 rfl (by omega)
  simp only [tl] at this
  rw [show ((b.length : Int) + 1) = ((b.length + 1 : Nat) : Int) by omega, show ((0 : Nat) : Int) = 0 from rfl] at *
  rw [this]
theorem same_eq (a b : List Int) (h : a.length ≤ 1000) : law35_same a b = some (decide (a = b)) := by
  unfold law35_same law35_same_j1
  by_cases hl : a.length = b.length
  · rw [show ((a.length : Int) != (b.length : Int)) = false by simp [hl], cond_false]
    have key : ∀ (n k : Nat), a.length - k = n → k ≤ a.length → iter (law35_same_l2 a b) (k : Int) = some (if a.drop k = b.drop k then .inl () else .inr false) := by
      intro n
      induction n with
      | zero =>
        intro k hn hk
        have : k = a.length := by omega
        subst this
        rw [iter_inr (r := .inl ()) (by simp [law35_same_l2]), if_pos (by rw [List.drop_length, hl, List.drop_length])]
      | succ n ih =>
        intro k hn hk
        have hk1 : k < a.length := by omega
        have hk2 : k < b.length := by omega
        have he : (a.drop k = b.drop k) = (a[k] = b[k] ∧ a.drop (k + 1) = b.drop (k + 1)) := by
          rw [List.drop_eq_getElem_cons hk1, List.drop_eq_getElem_cons hk2, List.cons.injEq]
        by_cases e : a[k] = b[k]
        · rw [iter_inl (s' := ((k + 1 : Nat) : Int)) (by
            simp only [law35_same_l2]
            rw [show decide ((k : Int) < (a.length : Int)) = true by simp; omega, cond_true, req_pos (by omega), ix_nat _ _ hk1, ix_nat _ _ hk2, e, i64_add1 k (by omega), bne_self_eq_false, cond_false]), ih (k + 1) (by omega) (by omega)]
          by_cases e2 : a.drop (k + 1) = b.drop (k + 1)
          · rw [if_pos e2, if_pos (he ▸ ⟨e, e2⟩)]
          · rw [if_neg e2, if_neg (fun x => e2 (he ▸ x).2)]
        · rw [iter_inr (r := .inr false) (by
            simp only [law35_same_l2]
            rw [show decide ((k : Int) < (a.length : Int)) = true by simp; omega, cond_true, req_pos (by omega), ix_nat _ _ hk1, ix_nat _ _ hk2, bne_iff_ne.2 e, cond_true]), if_neg (fun x => e (he ▸ x).1)]
    have := key _ 0 rfl (by omega)
    rw [show ((0 : Nat) : Int) = 0 from rfl] at this
    rw [this]
    simp only [List.drop_zero]
    by_cases e : a = b
    · simp [e]
    · simp [e]
  · rw [show ((a.length : Int) != (b.length : Int)) = true by simp; omega, cond_true]
    have : a ≠ b := fun e => hl (by rw [e])
    simp [this]
instance (n : Int) : Decidable (I64 n) := by unfold I64; infer_instance
theorem cs_eq (part all : Int) (share : api_Ratio) (h : I64 part) (h2 : I64 all) : boundary_compareShare part all share = some (cmpR (newOf part all).1 share) := by
  unfold boundary_compareShare
  rw [New_eq _ _ h h2]
  simp only [Option.bind]
  rw [Compare_eq]
theorem sm4 : Sm ⟨[1, 1, 1, 1]⟩ := ⟨by decide, by decide, by decide⟩
theorem check4 (share : api_Ratio) (hv : vR share = true) (h0 : 0 ≤ share.Num) (h1 : share.Num ≤ share.Den) : boundary_check ⟨[1, 1, 1, 1]⟩ share = some 0 := by
  unfold boundary_check
  rw [dValid _ sm4, Valid_eq, hv]
  simp only [Option.bind]
  rw [req_pos (by simp), dCount _ sm4, show count ⟨[1, 1, 1, 1]⟩ = 4 by decide]
  simp only [Option.getD, Bool.not_true, Bool.or_self, cond_false]
  rw [show ((4 : Int) == 0) = false by decide, cond_false, show (decide (share.Num < (0 : Int)) || decide (share.Den < share.Num)) = false by simp; omega, cond_false]
theorem RC4 : RC ⟨[1, 1, 1, 1]⟩ = [4, 3, 2, 1, 0] := by decide
theorem l2_step (share : api_Ratio) (b : Nat) (h0 : 0 < b) (h1 : b < 5) (c : Int) (hc : cmpR (newOf (ix [(4 : Int), 3, 2, 1, 0] b) 4).1 share = c) (hi : I64 (ix [(4 : Int), 3, 2, 1, 0] b)) : boundary_Share_l2 share [4, 3, 2, 1, 0] b = bif decide (0 ≤ c) then some (.inr (.inr (b, 0))) else some (.inl (IntKind.i64.wrap ((b : Int) - 1))) := by
  simp only [boundary_Share_l2]
  rw [show decide ((0 : Int) < (b : Int)) = true by simp; omega, cond_true, req_pos (by simp; omega), show ix [(4 : Int), 3, 2, 1, 0] (0 : Int) = 4 by decide, cs_eq _ _ _ hi (by decide), hc]
  rfl
theorem share4a : boundary_Share ⟨[1, 1, 1, 1]⟩ ⟨1, 2⟩ = some (2, 0) := by
  unfold boundary_Share
  rw [check4 _ (by decide) (by decide) (by decide)]
  simp only [Option.bind]
  rw [show ((0 : Int) != 0) = false by simp, cond_false, reach_eq _ sm4, RC4]
  simp only []
  rw [show IntKind.i64.wrap ((([4, 3, 2, 1, 0] : List Int).length : Int) - 1) = ((4 : Nat) : Int) by decide]
  rw [iter_inl (l2_step ⟨1, 2⟩ 4 (by decide) (by decide) (-1) (by decide) (by decide)), show IntKind.i64.wrap (((4 : Nat) : Int) - 1) = ((3 : Nat) : Int) by decide]
  rw [iter_inl (l2_step ⟨1, 2⟩ 3 (by decide) (by decide) (-1) (by decide) (by decide)), show IntKind.i64.wrap (((3 : Nat) : Int) - 1) = ((2 : Nat) : Int) by decide]
  rw [iter_inr (l2_step ⟨1, 2⟩ 2 (by decide) (by decide) 0 (by decide) (by decide))]
  rfl
theorem share4b : boundary_Share ⟨[1, 1, 1, 1]⟩ ⟨0, 1⟩ = some (4, 0) := by
  unfold boundary_Share
  rw [check4 _ (by decide) (by decide) (by decide)]
  simp only [Option.bind]
  rw [show ((0 : Int) != 0) = false by simp, cond_false, reach_eq _ sm4, RC4]
  simp only []
  rw [show IntKind.i64.wrap ((([4, 3, 2, 1, 0] : List Int).length : Int) - 1) = ((4 : Nat) : Int) by decide]
  rw [iter_inr (l2_step ⟨0, 1⟩ 4 (by decide) (by decide) 0 (by decide) (by decide))]
  rfl
theorem bd31 : Bd [3, 1] 3 := ⟨by decide, by decide, by decide, by
  intro i j hi hj hij
  simp at hi hj
  rcases (show (i = 0 ∧ j = 0) ∨ (i = 0 ∧ j = 1) ∨ (i = 1 ∧ j = 1) by omega) with ⟨rfl, rfl⟩ | ⟨rfl, rfl⟩ | ⟨rfl, rfl⟩ <;> simp⟩
theorem sane_eq : law35_sane = some true := by
  unfold law35_sane
  rw [share4a, share4b, show (4 : Int) = ((4 : Nat) : Int) from rfl, Interp_eq 70 40 4 (by decide) (by decide) (by decide) (by decide) (by decide), Tally_eq _ _ sm4 bd31, show interp 70 40 4 = [70, 62, 55, 47, 40] by decide, show tl ⟨[1, 1, 1, 1]⟩ [3, 1] ([1, 1, 1, 1] : List Int).length = [1, 2, 1] by decide]
  simp only [Option.bind]
  rw [same_eq _ _ (by decide), same_eq _ _ (by decide), Grade_eq _ _ (by decide), Check_eq _ _ bd31 (by decide) (by decide)]
  rw [req_pos (by simp)]
  decide
theorem light_le (t : List Int) : mark_Light t = some (decide ((t.length : Int) ≤ 600)) := rfl

theorem drop_q (D n k : Int) (hn : 0 < n) : D / n ≤ ((k + 1) * D + n - 1) / n - (k * D + n - 1) / n ∧ ((k + 1) * D + n - 1) / n - (k * D + n - 1) / n ≤ D / n + 1 := by
  have e : (k + 1) * D + n - 1 = (k * D + n - 1 + D % n) + D / n * n := by
    have := Int.mul_ediv_add_emod D n
    have h2 : n * (D / n) = D / n * n := Int.mul_comm _ _
    rw [Int.add_mul]; omega
  rw [e, Int.add_mul_ediv_right _ _ (by omega)]
  have h1 := Int.emod_nonneg D (show n ≠ 0 by omega)
  have h2 := Int.emod_lt_of_pos D hn
  have h3 := Int.ediv_le_ediv hn (show k * D + n - 1 ≤ k * D + n - 1 + D % n by omega)
  have h4 := Int.ediv_le_ediv hn (show k * D + n - 1 + D % n ≤ k * D + n - 1 + 1 * n by omega)
  rw [Int.add_mul_ediv_right _ _ (by omega)] at h4
  omega
theorem interp_len (hi lo : Int) (n : Nat) : (interp hi lo n).length = n + 1 := by simp [interp]
theorem interp_ix (hi lo : Int) (n k : Nat) (h : k ≤ n) : ix (interp hi lo n) (k : Int) = hi - ((k : Int) * (hi - lo) + n - 1) / n := by
  rw [ix_nat _ _ (by rw [interp_len]; omega)]; simp [interp]
theorem sumI_set : ∀ (l : List Int) (k : Nat) (x : Int) (h : k < l.length), sumI (l.set k x) = sumI l - l[k] + x
  | a :: l, 0, x, h => by simp [sumI]; omega
  | a :: l, k + 1, x, h => by
    have := sumI_set l k x (by simpa using h)
    simp only [List.set_cons_succ, sumI, this, List.getElem_cons_succ]; omega
theorem le_sumI : ∀ (l : List Int), (∀ c ∈ l, 0 ≤ c) → ∀ x ∈ l, x ≤ sumI l
  | a :: l, h, x, hx => by
    have h0 := h a (by simp)
    have h1 : ∀ c ∈ l, 0 ≤ c := fun c hc => h c (by simp [hc])
    have h2 : 0 ≤ sumI l := by
      clear hx h h0
      induction l with
      | nil => simp [sumI]
      | cons c l ih => have := h1 c (by simp); have := ih (fun c hc => h1 c (by simp [hc])); simp only [sumI]; omega
    simp only [sumI]
    rcases List.mem_cons.1 hx with rfl | hx
    · omega
    · have := le_sumI l h1 x hx; omega
theorem tl_inv (d : api_Distribution) (b : List Int) (h : Sm d) : ∀ k, k ≤ d.Counts.length → (∀ x ∈ tl d b k, 0 ≤ x) ∧ sumI (tl d b k) = sumI (d.Counts.take k) := by
  intro k
  induction k with
  | zero =>
    intro _
    refine ⟨by simp [tl, rep], ?_⟩
    have : ∀ n : Nat, sumI (List.replicate n 0) = 0 := by
      intro n; induction n with
      | zero => rfl
      | succ n ih => simp [List.replicate_succ, sumI, ih]
    simp [tl, rep, this, sumI]
  | succ k ih =>
    intro hk
    obtain ⟨i1, i2⟩ := ih (by omega)
    have hl := tl_len d b k
    have hg := gr_le b k
    have e1 := ix_nat (tl d b k) (gr b k) (by omega)
    have e2 := ix_nat d.Counts k (by omega)
    have m1 := List.getElem_mem (l := tl d b k) (n := gr b k) (by omega)
    have b1 := i1 _ m1
    have b2 := le_sumI _ i1 _ m1
    have b3 := h.c _ (List.getElem_mem (l := d.Counts) (n := k) (by omega))
    have b4 := h.take k
    simp only [tl]
    rw [e1, e2, wrap64 (by omega) (by omega)]
    unfold setI
    rw [show ((gr b k : Nat) : Int).toNat = gr b k by omega]
    refine ⟨?_, ?_⟩
    · intro x hx
      rcases List.mem_or_eq_of_mem_set hx with hx | rfl
      · exact i1 x hx
      · omega
    · rw [sumI_set _ _ _ (by omega), sumI_take_succ _ _ (by omega)]; omega
end Go.LS
