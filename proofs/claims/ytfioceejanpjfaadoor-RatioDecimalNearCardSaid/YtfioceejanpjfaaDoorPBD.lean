/-
  Ratios, tapes, texts of numbers: plain lemmas. No condition.
-/
import Derived.Test.YtfioceejanpjfaaDoorD3
import Derived.Test.YtfioceejanpjfaaDoorLs32
namespace Go.LS
set_option linter.all false
set_option linter.unusedSimpArgs false
set_option linter.unusedVariables false
set_option maxRecDepth 20000
theorem ix_nat {α : Type} [Inhabited α] (l : List α) (k : Nat) (h : k < l.length) : ix l (k : Int) = l[k] := by simp [ix, List.getD, h]
theorem ix_mem {α : Type} [Inhabited α] (l : List α) (n : Int) (h0 : 0 ≤ n) (h : n < l.length) : ix l n ∈ l := by
  have : n.toNat < l.length := by omega
  simp [ix, List.getD, this]
theorem i64_add1 (k : Nat) (h : k < 4611686018427387904) : IntKind.i64.wrap ((k : Int) + 1) = ((k + 1 : Nat) : Int) := by
  rw [wrap64 (by omega) (by omega)]; omega
theorem i64_id {n : Int} (h1 : -9223372036854775808 ≤ n) (h2 : n < 9223372036854775808) : IntKind.i64.wrap n = n := wrap64 h1 h2

theorem iter_fold {α β ρ : Type} (l : List α) (f : Int × β → Option ((Int × β) ⊕ ρ)) (g : β → α → β) (fin : β → ρ) (I : Nat → β → Prop)
    (hstep : ∀ (k : Nat) (b : β) (hk : k < l.length), I k b → f ((k : Int), b) = some (.inl (((k + 1 : Nat) : Int), g b l[k])) ∧ I (k + 1) (g b l[k]))
    (hend : ∀ b, I l.length b → f ((l.length : Int), b) = some (.inr (fin b))) (b : β) (h0 : I 0 b) : iter f ((0 : Int), b) = some (fin (l.foldl g b)) := by
  have key : ∀ (n k : Nat) (b : β), l.length - k = n → k ≤ l.length → I k b → iter f ((k : Int), b) = some (fin ((l.drop k).foldl g b)) := by
    intro n
    induction n with
    | zero =>
      intro k b hn hk hI
      have : k = l.length := by omega
      subst this
      rw [iter_inr (hend b hI), List.drop_length]; rfl
    | succ n ih =>
      intro k b hn hk hI
      have hk' : k < l.length := by omega
      obtain ⟨h1, h2⟩ := hstep k b hk' hI
      rw [iter_inl h1, ih (k + 1) _ (by omega) (by omega) h2, List.drop_eq_getElem_cons hk']; rfl
  have := key _ 0 b rfl (by omega) h0
  simpa using this
theorem iter_scan {α ρ : Type} (l : List α) (f : Int → Option (Int ⊕ ρ)) (p : α → Bool) (hit : α → ρ) (miss : ρ)
    (hstep : ∀ (k : Nat) (hk : k < l.length), f (k : Int) = some (if p l[k] = true then .inr (hit l[k]) else .inl ((k + 1 : Nat) : Int)))
    (hend : f (l.length : Int) = some (.inr miss)) : iter f (0 : Int) = some (match l.find? p with | some a => hit a | none => miss) := by
  have key : ∀ (n k : Nat), l.length - k = n → k ≤ l.length → iter f (k : Int) = some (match (l.drop k).find? p with | some a => hit a | none => miss) := by
    intro n
    induction n with
    | zero =>
      intro k hn hk
      have : k = l.length := by omega
      subst this
      rw [iter_inr hend, List.drop_length]; rfl
    | succ n ih =>
      intro k hn hk
      have hk' : k < l.length := by omega
      have h1 := hstep k hk'
      rw [List.drop_eq_getElem_cons hk', List.find?_cons]
      cases hp : p l[k] with
      | true => rw [hp, if_pos rfl] at h1; rw [iter_inr h1]
      | false => rw [hp, if_neg (by simp)] at h1; rw [iter_inl h1, ih (k + 1) (by omega) (by omega)]
  have := key _ 0 rfl (by omega)
  simpa using this
theorem find_any {α β : Type} (l : List α) (p : α → Bool) (x y : β) : (match l.find? p with | some _ => x | none => y) = if l.any p = true then x else y := by
  cases h : l.find? p with
  | none =>
    rw [List.find?_eq_none] at h
    have : l.any p = false := by rw [List.any_eq_false]; exact h
    simp [this]
  | some a =>
    have : l.any p = true := List.any_eq_true.2 ⟨a, List.mem_of_find?_eq_some h, List.find?_some h⟩
    simp [this]

theorem bOr_nat (a b : Nat) (ha : a < 9223372036854775808) (hb : b < 9223372036854775808) : bOr .i64 (a : Int) (b : Int) = ((a ||| b : Nat) : Int) := by
  have h := Nat.or_lt_two_pow (n := 63) (by simpa using ha) (by simpa using hb)
  have e : ∀ n : Nat, n < 9223372036854775808 → (BitVec.ofInt (IntKind.bits .i64) (n : Int)).toNat = n := fun n hn => by
    simp only [IntKind.bits, BitVec.toNat_ofInt]; omega
  unfold bOr
  rw [BitVec.toNat_or, e a ha, e b hb, wrap64 (by omega) (by omega)]
theorem bAnd_nat (a b : Nat) (ha : a < 9223372036854775808) (hb : b < 9223372036854775808) : bAnd .i64 (a : Int) (b : Int) = ((a &&& b : Nat) : Int) := by
  have h : a &&& b ≤ a := Nat.and_le_left
  have e : ∀ n : Nat, n < 9223372036854775808 → (BitVec.ofInt (IntKind.bits .i64) (n : Int)).toNat = n := fun n hn => by
    simp only [IntKind.bits, BitVec.toNat_ofInt]; omega
  unfold bAnd
  rw [BitVec.toNat_and, e a ha, e b hb, wrap64 (by omega) (by omega)]
structure TOK (t : make_Tape) : Prop where
  len : t.L.length ≤ 600
  lo : 0 ≤ t.At
  hi : t.At ≤ t.L.length
theorem new_ok (l : List Int) : ∃ t, make_New l = some t ∧ TOK t := by
  unfold make_New make_New_j1
  rcases bcases (decide ((600 : Int) < (l.length : Int))) with h | h <;> rw [h]
  · have h' : (600 : Int) < l.length := by simpa using h
    refine ⟨_, by rw [cond_true, req_pos (by omega)], ?_⟩
    exact ⟨by simp; omega, by simp, by simp⟩
  · have h' : (l.length : Int) ≤ 600 := by simpa using h
    exact ⟨_, by rw [cond_false], ⟨by simp; omega, by simp, by simp⟩⟩
theorem cut_ok (x n : Int) (h : n ≤ 4611686018427387904) : ∃ y, make_Cut x n = some y ∧ 0 ≤ y ∧ (1 ≤ n → y < n) ∧ (n < 1 → y = 0) := by
  unfold make_Cut make_Cut_j1
  rcases bcases (decide (n < (1 : Int))) with hc | hc <;> rw [hc]
  · have : n < 1 := by simpa using hc
    exact ⟨0, rfl, by omega, by omega, fun _ => rfl⟩
  · have h1 : 1 ≤ n := by simpa using hc
    rw [cond_false, req_pos (by omega)]
    have h3 := Int.tmod_lt_of_pos x (show 0 < n by omega)
    have h4 : -n < x.tmod n := Int.lt_tmod_of_pos x (show 0 < n by omega)
    rcases bcases (decide (Int.tmod x n < (0 : Int))) with hd | hd <;> rw [hd]
    · have : x.tmod n < 0 := by simpa using hd
      exact ⟨_, rfl, by rw [wrap64 (by omega) (by omega)]; omega, by rw [wrap64 (by omega) (by omega)]; omega, by omega⟩
    · have : 0 ≤ x.tmod n := by simpa using hd
      exact ⟨_, rfl, this, fun _ => h3, by omega⟩
theorem raw_ok (t : make_Tape) (h : TOK t) : ∃ y t', make_Tape_Raw t = some (y, t') ∧ TOK t' := by
  obtain ⟨h1, h2, h3⟩ := h
  unfold make_Tape_Raw
  rcases bcases (decide ((t.L.length : Int) ≤ t.At)) with hc | hc <;> rw [hc]
  · exact ⟨_, _, rfl, h1, h2, h3⟩
  · have hlt : t.At < t.L.length := by simpa using hc
    rw [cond_false, wrap64 (n := t.At + 1) (by omega) (by omega), wrap64 (by omega) (by omega), req_pos (by omega)]
    exact ⟨_, _, rfl, h1, by show 0 ≤ t.At + 1; omega, by show t.At + 1 ≤ (t.L.length : Int); omega⟩
theorem next_ok (t : make_Tape) (n : Int) (h : TOK t) (hn : n ≤ 4611686018427387904) : ∃ y t', make_Tape_Next t n = some (y, t') ∧ TOK t' ∧ 0 ≤ y ∧ (1 ≤ n → y < n) ∧ (n < 1 → y = 0) := by
  obtain ⟨y, t', e1, h1⟩ := raw_ok t h
  obtain ⟨z, e2, h2⟩ := cut_ok y n hn
  exact ⟨z, t', by unfold make_Tape_Next; rw [e1]; simp only [Option.bind]; rw [e2], h1, h2⟩
theorem range_ok (t : make_Tape) (lo hi : Int) (h : TOK t) (h1 : -1152921504606846976 ≤ lo) (h2 : hi ≤ 1152921504606846976) (h3 : lo ≤ hi) : ∃ y t', make_Tape_Range t lo hi = some (y, t') ∧ TOK t' ∧ lo ≤ y ∧ y ≤ hi := by
  obtain ⟨y, t', e1, h4, h5, h6, h7⟩ := next_ok t (hi - lo + 1) h (by omega)
  refine ⟨lo + y, t', ?_, h4, by omega, by have := h6 (by omega); omega⟩
  unfold make_Tape_Range
  rw [wrap64 (n := hi - lo) (by omega) (by omega), wrap64 (by omega) (by omega), e1]
  simp only [Option.bind]
  rw [wrap64 (by omega) (by have := h6 (by omega); omega)]
theorem one_ok (t : make_Tape) (n : Int) (h : TOK t) (hn : n ≤ 4611686018427387904) : ∃ y t', make_Tape_One t n = some (y, t') ∧ TOK t' := by
  obtain ⟨y, t', e1, h1, _⟩ := next_ok t n h hn
  exact ⟨_, t', by unfold make_Tape_One; rw [e1]; rfl, h1⟩
theorem pick_ok (t : make_Tape) (l : List Int) (h : TOK t) (h1 : 1 ≤ l.length) (h2 : l.length ≤ 1000) : ∃ y t', make_Tape_Pick t l = some (y, t') ∧ TOK t' ∧ y ∈ l := by
  obtain ⟨y, t', e1, h3, h4, h5, _⟩ := next_ok t l.length h (by omega)
  have h6 := h5 (by omega)
  exact ⟨_, t', by unfold make_Tape_Pick; rw [e1]; simp only [Option.bind]; rw [req_pos ⟨h4, h6⟩], h3, ix_mem l y h4 h6⟩
theorem tmk (t : make_Tape) : make_Tape.mk t.L t.At = t := rfl
theorem wrapU (n : Int) : IntKind.u64.wrap n = n % 18446744073709551616 := by simp [IntKind.wrap, IntKind.bits, IntKind.signed]
theorem wrapU_id {n : Int} (h0 : 0 ≤ n) (h1 : n < 18446744073709551616) : IntKind.u64.wrap n = n := by rw [wrapU]; omega
theorem wrapU_nat (k : Nat) (h : k < 18446744073709551616) : IntKind.u64.wrap (k : Int) = k := wrapU_id (by omega) (by omega)
def I64 (n : Int) : Prop := -9223372036854775808 ≤ n ∧ n < 9223372036854775808
theorem mag_eq (n : Int) (h : I64 n) : ratio_magnitude n = some (n.natAbs : Int) := by
  obtain ⟨h1, h2⟩ := h
  unfold ratio_magnitude
  rcases bcases (decide (n < (0 : Int))) with hc | hc <;> rw [hc]
  · have : n < 0 := by simpa using hc
    simp only [cond_true, wrapU, Option.some.injEq]
    omega
  · have : 0 ≤ n := by simpa using hc
    simp only [cond_false, wrapU, Option.some.injEq]
    omega
theorem tmod_nat (a b : Nat) : Int.tmod (a : Int) (b : Int) = ((a % b : Nat) : Int) := by
  rw [Int.tmod_eq_emod_of_nonneg (by omega)]; exact_mod_cast rfl
theorem tdiv_nat (a b : Nat) : Int.tdiv (a : Int) (b : Int) = ((a / b : Nat) : Int) := by
  rw [Int.tdiv_eq_ediv_of_nonneg (by omega)]; exact_mod_cast rfl
theorem gcd_eq (a b : Nat) : ratio_gcd a b = some ((Nat.gcd a b : Nat) : Int) := by
  have key : ∀ n m : Nat, iter ratio_gcd_l2 ((m : Int), (n : Int)) = some ((Nat.gcd m n : Nat) : Int) := by
    intro n
    induction n using Nat.strongRecOn with
    | _ n ih =>
      intro m
      by_cases hn : n = 0
      · subst hn
        rw [iter_inr (r := (m : Int))]
        · simp
        · simp [ratio_gcd_l2]
      · have hs : ratio_gcd_l2 ((m : Int), (n : Int)) = some (.inl ((n : Int), ((m % n : Nat) : Int))) := by
          simp only [ratio_gcd_l2]
          rw [show ((n : Int) != 0) = true by simp [hn], cond_true, req_pos (by omega), tmod_nat]
        rw [iter_inl hs, ih (m % n) (Nat.mod_lt _ (by omega)) n]
        rw [Nat.gcd_comm m n, Nat.gcd_rec n m, Nat.gcd_comm]
  unfold ratio_gcd ratio_gcd_j1
  rw [key b a]; rfl
def vR (a : api_Ratio) : Bool := decide (1 ≤ a.Den ∧ a.Den ≤ 1152921504606846976 ∧ -1152921504606846976 ≤ a.Num ∧ a.Num ≤ 1152921504606846976 ∧ Nat.gcd a.Num.natAbs a.Den.natAbs = 1)
theorem Valid_eq (a : api_Ratio) : ratio_Valid a = some (vR a) := by
  unfold ratio_Valid vR
  rcases bcases ((((decide (a.Den < (1 : Int))) || (decide ((1152921504606846976 : Int) < a.Den))) || (decide (a.Num < (-1152921504606846976 : Int)))) || (decide ((1152921504606846976 : Int) < a.Num))) with hc | hc <;> rw [hc]
  · simp only [Bool.or_eq_true, decide_eq_true_eq] at hc
    rw [cond_true]
    congr 1
    symm
    rw [decide_eq_false_iff_not]
    omega
  · simp only [Bool.or_eq_false_iff, decide_eq_false_iff_not] at hc
    rw [cond_false, mag_eq a.Num ⟨by omega, by omega⟩]
    simp only [Option.bind]
    rw [wrapU_id (by omega) (by omega), show a.Den = ((a.Den.natAbs : Nat) : Int) by omega, gcd_eq]
    simp only [Int.natAbs_natCast, Option.some.injEq]
    rw [Bool.eq_iff_iff]
    simp only [beq_iff_eq, decide_eq_true_eq]
    omega
theorem Div64_0 (lo y : Nat) (h : lo < 18446744073709551616) (hy : 0 < y) : bits_Div64 0 lo y = some (((lo / y : Nat) : Int), ((lo % y : Nat) : Int)) := by
  unfold bits_Div64 bits_Div64_j6 bits_Div64_j5
  rw [show ((y : Int) == 0) = false by simp; omega, cond_false, show decide ((y : Int) ≤ 0) = false by simp; omega, cond_false, show ((0 : Int) == 0) = true by simp, cond_true, req_pos (by omega), tdiv_nat, tmod_nat, wrapU_nat _ (Nat.lt_of_le_of_lt (Nat.div_le_self lo y) h)]
def fitOf (neg : Bool) (n d : Nat) : api_Ratio × Int := if n ≤ 1152921504606846976 ∧ d ≤ 1152921504606846976 then (⟨if neg = true then -(n : Int) else n, d⟩, 0) else (⟨0, 0⟩, 6)
theorem fitted_eq (neg : Bool) (nh n dh d : Nat) (hn : n < 18446744073709551616) (hd : d < 18446744073709551616) : ratio_fitted neg ⟨nh, n⟩ ⟨dh, d⟩ = some (fitOf neg (nh * 18446744073709551616 + n) (dh * 18446744073709551616 + d)) := by
  unfold ratio_fitted ratio_fitted_j1 fitOf
  rcases bcases ((((((nh : Nat) : Int) != (0 : Int)) || (((dh : Nat) : Int) != (0 : Int))) || (decide ((1152921504606846976 : Int) < (n : Int)))) || (decide ((1152921504606846976 : Int) < (d : Int)))) with hc | hc <;> rw [hc]
  · simp only [Bool.or_eq_true, decide_eq_true_eq, bne_iff_ne] at hc
    rw [cond_true, if_neg (by omega)]
  · simp only [Bool.or_eq_false_iff, decide_eq_false_iff_not, bne_eq_false_iff_eq] at hc
    have h1 : nh = 0 := by omega
    have h2 : dh = 0 := by omega
    subst h1 h2
    rw [cond_false, if_pos (by omega)]
    simp only [Nat.zero_mul, Nat.zero_add]
    rw [wrap64 (n := (n : Int)) (by omega) (by omega), wrap64 (n := (d : Int)) (by omega) (by omega)]
    cases neg
    · rfl
    · rw [cond_true, wrap64 (by omega) (by omega)]; simp
def redOf (neg : Bool) (n d : Nat) : api_Ratio × Int := fitOf neg (n / Nat.gcd n d) (d / Nat.gcd n d)
theorem reduced0 (neg : Bool) (n d : Nat) (hn : n < 18446744073709551616) (hd : 0 < d) (hd2 : d < 18446744073709551616) : ratio_reduced ⟨neg, ⟨0, n⟩⟩ d = some (redOf neg n d) := by
  have z : ∀ y : Nat, Int.tmod 0 (y : Int) = 0 := fun y => by simp
  have zd : ∀ y : Nat, Int.tdiv 0 (y : Int) = 0 := fun y => by simp
  have hg : 0 < Nat.gcd n d := Nat.gcd_pos_of_pos_right _ hd
  have hgg : Nat.gcd (n % d) d = Nat.gcd n d := by rw [Nat.gcd_comm n d, Nat.gcd_rec d n]
  have h1 := Nat.div_le_self n (Nat.gcd n d)
  have h2 := Nat.div_le_self d (Nat.gcd n d)
  unfold ratio_reduced ratio_wide_mod bits_Rem64 ratio_wide_over redOf
  simp only [z, zd]
  rw [req_pos (by omega), Div64_0 n d hn hd]
  simp only [Option.bind, gcd_eq, hgg, z, zd]
  rw [req_pos (by omega), Div64_0 n _ hn hg]
  simp only []
  rw [req_pos (by omega), tdiv_nat, wrapU_nat _ (Nat.lt_of_le_of_lt h2 hd2), wrapU_id (n := 0) (by omega) (by omega)]
  have := fitted_eq neg 0 (n / Nat.gcd n d) 0 (d / Nat.gcd n d) (Nat.lt_of_le_of_lt h1 hn) (Nat.lt_of_le_of_lt h2 hd2)
  simp only [Int.natCast_zero, Nat.zero_mul, Nat.zero_add] at this
  rw [this]
def newOf (num den : Int) : api_Ratio × Int := if den = 0 then (⟨0, 0⟩, 2) else redOf (!(decide (num < 0) == decide (den < 0))) num.natAbs den.natAbs
theorem New_eq (num den : Int) (hn : I64 num) (hd : I64 den) : ratio_New num den = some (newOf num den) := by
  unfold ratio_New newOf
  by_cases h : den = 0
  · subst h; rfl
  · rw [if_neg h, show (den == 0) = false by simpa using h, cond_false, mag_eq num hn, mag_eq den hd]
    simp only [Option.bind]
    obtain ⟨h1, h2⟩ := hn
    obtain ⟨h3, h4⟩ := hd
    rw [reduced0 _ num.natAbs den.natAbs (by omega) (by omega) (by omega)]
theorem and32 (x : Nat) (hx : x < 18446744073709551616) : bAnd .u64 (x : Int) 4294967295 = ((x % 4294967296 : Nat) : Int) := by
  unfold bAnd
  have e : (BitVec.ofInt (IntKind.bits .u64) (x : Int)).toNat = x := by simp only [IntKind.bits, BitVec.toNat_ofInt]; omega
  have e2 : (BitVec.ofInt (IntKind.bits .u64) (4294967295 : Int)).toNat = 2 ^ 32 - 1 := by decide
  rw [BitVec.toNat_and, e, e2, Nat.and_two_pow_sub_one_eq_mod, wrapU_id (by omega) (by omega)]
theorem shr32 (x : Nat) : bShr .u64 (x : Int) 32 = ((x / 4294967296 : Nat) : Int) := by
  unfold bShr
  rw [show (2 : Int) ^ (min (Int.toNat 32) (IntKind.bits .u64)) = 4294967296 by decide, Int.fdiv_eq_ediv_of_nonneg _ (by omega)]
  omega
theorem Mul64_eq (x y : Nat) (hx : x < 18446744073709551616) (hy : y < 18446744073709551616) : bits_Mul64 x y = some (((x * y / 18446744073709551616 : Nat) : Int), ((x * y % 18446744073709551616 : Nat) : Int)) := by
  unfold bits_Mul64 bindV
  simp only [and32 x hx, and32 y hy, shr32]
  generalize hx0 : x % 4294967296 = x0
  generalize hx1 : x / 4294967296 = x1
  generalize hy0 : y % 4294967296 = y0
  generalize hy1 : y / 4294967296 = y1
  have ex : x = x1 * 4294967296 + x0 := by omega
  have ey : y = y1 * 4294967296 + y0 := by omega
  have b0 : x0 ≤ 4294967295 := by omega
  have b1 : x1 ≤ 4294967295 := by omega
  have c0 : y0 ≤ 4294967295 := by omega
  have c1 : y1 ≤ 4294967295 := by omega
  have p00 : x0 * y0 ≤ 4294967295 * 4294967295 := Nat.mul_le_mul b0 c0
  have p01 : x0 * y1 ≤ 4294967295 * 4294967295 := Nat.mul_le_mul b0 c1
  have p10 : x1 * y0 ≤ 4294967295 * 4294967295 := Nat.mul_le_mul b1 c0
  have p11 : x1 * y1 ≤ 4294967295 * 4294967295 := Nat.mul_le_mul b1 c1
  have exy : x * y = x1 * y1 * 18446744073709551616 + (x0 * y1 + x1 * y0) * 4294967296 + x0 * y0 := by
    rw [ex, ey]; grind
  rw [exy]
  have ez : (x : Int) * (y : Int) = ((x1 * y1 * 18446744073709551616 + (x0 * y1 + x1 * y0) * 4294967296 + x0 * y0 : Nat) : Int) := by rw [← exy]; exact (Int.natCast_mul x y).symm
  rw [ez]
  simp only [← Int.natCast_mul]
  generalize x0 * y0 = a at *
  generalize x0 * y1 = b at *
  generalize x1 * y0 = c at *
  generalize x1 * y1 = d at *
  rw [wrapU_id (n := (a : Int)) (by omega) (by omega), wrapU_id (n := (b : Int)) (by omega) (by omega), wrapU_id (n := (c : Int)) (by omega) (by omega), wrapU_id (n := (d : Int)) (by omega) (by omega)]
  simp only [shr32, ← Int.natCast_add]
  rw [wrapU_id (n := ((c + a / 4294967296 : Nat) : Int)) (by omega) (by omega)]
  simp only [shr32, and32 (c + a / 4294967296) (by omega), ← Int.natCast_add]
  rw [wrapU_id (n := (((c + a / 4294967296) % 4294967296 + b : Nat) : Int)) (by omega) (by omega), wrapU_id (n := ((d + (c + a / 4294967296) / 4294967296 : Nat) : Int)) (by omega) (by omega)]
  simp only [shr32, ← Int.natCast_add]
  rw [wrapU_id (by omega) (by omega), wrapU]
  simp only [Option.some.injEq, Prod.mk.injEq]
  constructor <;> omega
def cmpI (x y : Int) : Int := if x < y then -1 else if y < x then 1 else 0
theorem cmpU_eq (x y : Int) : cmp_Compare_uint64 x y = some (cmpI x y) := by
  unfold cmp_Compare_uint64 cmp_isNaN_uint64 cmpI
  simp only [bne_self_eq_false, Option.bind, cond_false]
  by_cases h : x < y
  · simp [h]
  · simp [h]
    by_cases h2 : y < x <;> simp [h2]
theorem wideCmp (m n : Nat) : ratio_wide_compare ⟨((m / 18446744073709551616 : Nat) : Int), ((m % 18446744073709551616 : Nat) : Int)⟩ ⟨((n / 18446744073709551616 : Nat) : Int), ((n % 18446744073709551616 : Nat) : Int)⟩ = some (cmpI m n) := by
  unfold ratio_wide_compare
  simp only [cmpU_eq, Option.bind]
  unfold cmpI
  by_cases h1 : m / 18446744073709551616 < n / 18446744073709551616
  · rw [if_pos (by omega), if_pos (show (m : Int) < n by omega)]; rfl
  · by_cases h2 : n / 18446744073709551616 < m / 18446744073709551616
    · rw [if_neg (by omega), if_pos (by omega), if_neg (show ¬ (m : Int) < n by omega), if_pos (show (n : Int) < m by omega)]; rfl
    · rw [if_neg (by omega), if_neg (by omega)]
      simp only [bne_self_eq_false, cond_false]
      by_cases h3 : m % 18446744073709551616 < n % 18446744073709551616
      · rw [if_pos (by omega), if_pos (show (m : Int) < n by omega)]
      · rw [if_neg (by omega), if_neg (show ¬ (m : Int) < n by omega)]
        by_cases h4 : n % 18446744073709551616 < m % 18446744073709551616
        · rw [if_pos (by omega), if_pos (show (n : Int) < m by omega)]
        · rw [if_neg (by omega), if_neg (show ¬ (n : Int) < m by omega)]
theorem signedProduct_eq (num : Int) (f : Nat) (hn : I64 num) (hf : f < 18446744073709551616) : ratio_signedProduct num f = some ⟨decide (num < 0), ⟨((num.natAbs * f / 18446744073709551616 : Nat) : Int), ((num.natAbs * f % 18446744073709551616 : Nat) : Int)⟩⟩ := by
  unfold ratio_signedProduct ratio_product
  rw [mag_eq num hn]
  simp only [Option.bind]
  obtain ⟨h1, h2⟩ := hn
  rw [Mul64_eq num.natAbs f (by omega) hf]
theorem vR_iff (a : api_Ratio) : vR a = true ↔ 1 ≤ a.Den ∧ a.Den ≤ 1152921504606846976 ∧ -1152921504606846976 ≤ a.Num ∧ a.Num ≤ 1152921504606846976 ∧ Nat.gcd a.Num.natAbs a.Den.natAbs = 1 := by simp [vR]
def cmpR (a b : api_Ratio) : Int := if vR a = true ∧ vR b = true then cmpI (a.Num * b.Den) (b.Num * a.Den) else 0
theorem Compare_eq (a b : api_Ratio) : ratio_Compare a b = some (cmpR a b) := by
  unfold ratio_Compare cmpR
  simp only [Valid_eq, Option.bind, Option.isSome_some, Option.getD_some, implies_true, req_true]
  cases ha : vR a
  · simp
  cases hb : vR b
  · simp
  obtain ⟨a1, a2, a3, a4, _⟩ := (vR_iff a).1 ha
  obtain ⟨b1, b2, b3, b4, _⟩ := (vR_iff b).1 hb
  simp only [Bool.not_true, Bool.or_self, cond_false, and_self, if_true]
  rw [wrapU_id (n := b.Den) (by omega) (by omega), wrapU_id (n := a.Den) (by omega) (by omega)]
  obtain ⟨bd, hbd⟩ : ∃ k : Nat, b.Den = k := ⟨b.Den.toNat, by omega⟩
  obtain ⟨ad, had⟩ : ∃ k : Nat, a.Den = k := ⟨a.Den.toNat, by omega⟩
  rw [hbd, had, signedProduct_eq a.Num bd ⟨by omega, by omega⟩ (by omega), signedProduct_eq b.Num ad ⟨by omega, by omega⟩ (by omega)]
  simp only [wideCmp]
  have key1 : ((a.Num.natAbs * bd : Nat) : Int) = (if a.Num < 0 then -(a.Num * bd) else a.Num * bd) := by
    rw [Int.natCast_mul]
    split
    · rw [← Int.neg_mul]; congr 1; omega
    · congr 1; omega
  have key2 : ((b.Num.natAbs * ad : Nat) : Int) = (if b.Num < 0 then -(b.Num * ad) else b.Num * ad) := by
    rw [Int.natCast_mul]
    split
    · rw [← Int.neg_mul]; congr 1; omega
    · congr 1; omega
  have s1 : a.Num < 0 → a.Num * bd < 0 := fun h => Int.mul_neg_of_neg_of_pos h (by omega)
  have s2 : 0 ≤ a.Num → 0 ≤ a.Num * bd := fun h => Int.mul_nonneg h (by omega)
  have s3 : b.Num < 0 → b.Num * ad < 0 := fun h => Int.mul_neg_of_neg_of_pos h (by omega)
  have s4 : 0 ≤ b.Num → 0 ≤ b.Num * ad := fun h => Int.mul_nonneg h (by omega)
  rw [key1, key2]
  generalize a.Num * (bd : Int) = p at *
  generalize b.Num * (ad : Int) = q at *
  by_cases ha0 : a.Num < 0 <;> by_cases hb0 : b.Num < 0 <;> simp only [ha0, hb0, decide_true, decide_false, Bool.and_self, Bool.and_false, Bool.and_true, Bool.false_and, Bool.true_and, cond_true, cond_false, if_true, if_false, Option.some.injEq] <;> unfold cmpI
  · have := s1 ha0; have := s3 hb0
    by_cases h1 : p < q
    · rw [if_pos (by omega), if_pos h1]
    · rw [if_neg (by omega), if_neg h1]
      by_cases h2 : q < p
      · rw [if_pos (by omega), if_pos h2]
      · rw [if_neg (by omega), if_neg h2]
  · have := s1 ha0; have := s4 (by omega)
    rw [if_pos (by omega)]
  · have := s2 (by omega); have := s3 hb0
    rw [if_neg (by omega), if_pos (by omega)]
theorem Size_eq (n : Int) (h : I64 n) : ref01_Size n = some (n.natAbs : Int) := by
  obtain ⟨h1, h2⟩ := h
  unfold ref01_Size bindV
  rcases bcases (decide (n < (0 : Int))) with hc | hc <;> rw [hc]
  · have : n < 0 := by simpa using hc
    rw [cond_true, wrap64 (n := n + 1) (by omega) (by omega), wrap64 (n := 0 - (n + 1)) (by omega) (by omega)]
    simp only [wrapU, Option.some.injEq]
    omega
  · have : 0 ≤ n := by simpa using hc
    simp only [cond_false, wrapU, Option.some.injEq]
    omega
theorem Divide0 (a b : Nat) (ha : a < 18446744073709551616) (hb : 0 < b) : ref01_Divide ⟨0, a⟩ ⟨0, b⟩ = some (⟨0, ((a / b : Nat) : Int)⟩, ⟨0, ((a % b : Nat) : Int)⟩) := by
  unfold ref01_Divide
  simp only [beq_self_eq_true, Bool.and_self, cond_true]
  rw [req_pos (by omega), tdiv_nat, tmod_nat, wrapU_nat _ (Nat.lt_of_le_of_lt (Nat.div_le_self a b) ha)]
theorem Divisor0 (a b : Nat) (ha : a < 18446744073709551616) (hb : b < 18446744073709551616) : ref01_Divisor ⟨0, a⟩ ⟨0, b⟩ = some ⟨0, ((Nat.gcd a b : Nat) : Int)⟩ := by
  have key : ∀ n m : Nat, m < 18446744073709551616 → n < 18446744073709551616 → iter ref01_Divisor_l2 ((0 : Int), (m : Int), (0 : Int), (n : Int)) = some ((0 : Int), ((Nat.gcd m n : Nat) : Int)) := by
    intro n
    induction n using Nat.strongRecOn with
    | _ n ih =>
      intro m hm hn'
      by_cases hn : n = 0
      · subst hn
        rw [iter_inr (r := ((0 : Int), (m : Int)))]
        · simp
        · simp [ref01_Divisor_l2]
      · have hs : ref01_Divisor_l2 ((0 : Int), (m : Int), (0 : Int), (n : Int)) = some (.inl ((0 : Int), (n : Int), (0 : Int), ((m % n : Nat) : Int))) := by
          simp only [ref01_Divisor_l2]
          rw [show (!(((0 : Int) == 0) && ((n : Int) == 0))) = true by simp [hn], cond_true, Divide0 m n hm (by omega)]
          rfl
        have hlt := Nat.mod_lt m (show 0 < n by omega)
        rw [iter_inl hs, ih (m % n) hlt n hn' (by omega)]
        rw [Nat.gcd_comm m n, Nat.gcd_rec n m, Nat.gcd_comm]
  unfold ref01_Divisor ref01_Divisor_j1
  rw [key b a ha hb]; rfl
theorem Reduce0 (neg : Bool) (n d : Nat) (hn : n < 18446744073709551616) (hd : 0 < d) (hd2 : d < 18446744073709551616) : ref01_Reduce neg ⟨0, n⟩ ⟨0, d⟩ = some (redOf neg n d) := by
  have hg : 0 < Nat.gcd n d := Nat.gcd_pos_of_pos_right _ hd
  have h1 := Nat.div_le_self n (Nat.gcd n d)
  have h2 := Nat.div_le_self d (Nat.gcd n d)
  unfold ref01_Reduce ref01_Reduce_j1 redOf fitOf
  rw [Divisor0 n d hn hd2]
  simp only [Option.bind]
  rw [Divide0 n _ hn hg, Divide0 d _ hd2 hg]
  simp only []
  generalize n / Nat.gcd n d = x at *
  generalize d / Nat.gcd n d = y at *
  rcases bcases ((((decide ((0 : Int) < 0)) || (decide ((0 : Int) < 0))) || (decide ((1152921504606846976 : Int) < (x : Int)))) || (decide ((1152921504606846976 : Int) < (y : Int)))) with hc | hc <;> rw [hc]
  · simp only [Bool.or_eq_true, decide_eq_true_eq] at hc
    rw [cond_true, if_neg (by omega)]
  · simp only [Bool.or_eq_false_iff, decide_eq_false_iff_not] at hc
    rw [cond_false, if_pos (by omega), wrap64 (n := (x : Int)) (by omega) (by omega), wrap64 (n := (y : Int)) (by omega) (by omega)]
    cases neg
    · rfl
    · rw [cond_true, wrap64 (by omega) (by omega)]; simp
theorem NewR_eq (num den : Int) (hn : I64 num) (hd : I64 den) : ref01_New num den = some (newOf num den) := by
  unfold ref01_New newOf
  by_cases h : den = 0
  · subst h; rfl
  · rw [if_neg h, show (den == 0) = false by simpa using h, cond_false, Size_eq num hn, Size_eq den hd]
    simp only [Option.bind]
    obtain ⟨h1, h2⟩ := hn
    obtain ⟨h3, h4⟩ := hd
    rw [Reduce0 _ num.natAbs den.natAbs (by omega) (by omega) (by omega)]
theorem ValidR_eq (a : api_Ratio) : ref01_Valid a = some (vR a) := by
  unfold ref01_Valid vR
  rcases bcases ((((decide (a.Den < (1 : Int))) || (decide ((1152921504606846976 : Int) < a.Den))) || (decide (a.Num < (-1152921504606846976 : Int)))) || (decide ((1152921504606846976 : Int) < a.Num))) with hc | hc <;> rw [hc]
  · simp only [Bool.or_eq_true, decide_eq_true_eq] at hc
    rw [cond_true]
    congr 1
    symm
    rw [decide_eq_false_iff_not]
    omega
  · simp only [Bool.or_eq_false_iff, decide_eq_false_iff_not] at hc
    rw [cond_false, Size_eq a.Num ⟨by omega, by omega⟩, Size_eq a.Den ⟨by omega, by omega⟩]
    simp only [Option.bind]
    rw [Divisor0 _ _ (by omega) (by omega)]
    simp only [beq_self_eq_true, Bool.true_and, Option.some.injEq]
    rw [Bool.eq_iff_iff]
    simp only [beq_iff_eq, decide_eq_true_eq]
    omega
def WR (n : Nat) : ref01_Wide := ⟨((n / 18446744073709551616 : Nat) : Int), ((n % 18446744073709551616 : Nat) : Int)⟩
theorem Product_eq (x y : Nat) (hx : x < 18446744073709551616) (hy : y < 18446744073709551616) : ref01_Product x y = some (WR (x * y)) := by
  unfold ref01_Product
  rw [Mul64_eq x y hx hy]; rfl
theorem Plus_eq (m n : Nat) (h : m + n < 340282366920938463463374607431768211456) : ref01_Plus (WR m) (WR n) = some (WR (m + n)) := by
  unfold ref01_Plus bits_Add64 WR
  dsimp only
  rw [req_pos (by omega)]
  simp only [Option.bind]
  rw [req_pos (by omega)]
  simp only [Option.some.injEq, ref01_Wide.mk.injEq]
  constructor <;> omega
theorem Minus_eq (m n : Nat) (h : n ≤ m) (hm : m < 340282366920938463463374607431768211456) : ref01_Minus (WR m) (WR n) = some (WR (m - n)) := by
  unfold ref01_Minus bits_Sub64 WR
  dsimp only
  rw [req_pos (by omega)]
  simp only [Option.bind]
  by_cases hlt : ((m % 18446744073709551616 : Nat) : Int) < ((n % 18446744073709551616 : Nat) : Int) + 0
  · rw [if_pos hlt, req_pos (by omega)]
    simp only [Option.some.injEq, ref01_Wide.mk.injEq]
    constructor <;> omega
  · rw [if_neg hlt, req_pos (by omega)]
    simp only [Option.some.injEq, ref01_Wide.mk.injEq]
    constructor <;> omega
theorem Order_eq (m n : Nat) : ref01_Order (WR m) (WR n) = some (cmpI m n) := by
  unfold ref01_Order WR cmpI
  rcases bcases ((decide (((m / 18446744073709551616 : Nat) : Int) < ((n / 18446744073709551616 : Nat) : Int))) || ((((m / 18446744073709551616 : Nat) : Int) == ((n / 18446744073709551616 : Nat) : Int)) && (decide (((m % 18446744073709551616 : Nat) : Int) < ((n % 18446744073709551616 : Nat) : Int))))) with hc | hc <;> simp only [hc]
  · simp only [Bool.or_eq_true, Bool.and_eq_true, decide_eq_true_eq, beq_iff_eq] at hc
    rw [cond_true, if_pos (by omega)]
  · simp only [Bool.or_eq_false_iff, Bool.and_eq_false_iff, decide_eq_false_iff_not, beq_eq_false_iff_ne] at hc
    rw [cond_false, if_neg (by omega)]
    rcases bcases ((((m / 18446744073709551616 : Nat) : Int) == ((n / 18446744073709551616 : Nat) : Int)) && (((m % 18446744073709551616 : Nat) : Int) == ((n % 18446744073709551616 : Nat) : Int))) with hd | hd <;> simp only [hd]
    · simp only [Bool.and_eq_true, beq_iff_eq] at hd
      rw [cond_true, if_neg (by omega)]
    · simp only [Bool.and_eq_false_iff, beq_eq_false_iff_ne] at hd
      rw [cond_false, if_pos (by omega)]
def sv (neg : Bool) (n : Nat) : Int := if neg = true then -(n : Int) else n
theorem WR_zero (k : Nat) (hk : k < 340282366920938463463374607431768211456) : (((WR k).Hi == 0) && ((WR k).Lo == 0)) = decide (k = 0) := by
  rw [Bool.eq_iff_iff]
  simp only [WR, Bool.and_eq_true, beq_iff_eq, decide_eq_true_eq]
  omega
theorem mul_lt {a b : Nat} (ha : a ≤ 1152921504606846976) (hb : b ≤ 1152921504606846976) : a * b ≤ 1329227995784915872903807060280344576 := Nat.mul_le_mul ha hb
theorem redOf_val (neg : Bool) (n d : Nat) (hd : 0 < d) (r : api_Ratio) (h : redOf neg n d = (r, 0)) : vR r = true ∧ r.Num * d = sv neg n * r.Den ∧ (0 < r.Den) := by
  have hg : 0 < Nat.gcd n d := Nat.gcd_pos_of_pos_right _ hd
  obtain ⟨x, hx⟩ := Nat.gcd_dvd_left n d
  obtain ⟨y, hy⟩ := Nat.gcd_dvd_right n d
  have hx' : n / Nat.gcd n d = x := by conv => lhs; lhs; rw [hx]
                                       exact Nat.mul_div_cancel_left x hg
  have hy' : d / Nat.gcd n d = y := by conv => lhs; lhs; rw [hy]
                                       exact Nat.mul_div_cancel_left y hg
  have hcop : Nat.gcd x y = 1 := by rw [← hx', ← hy']; exact Nat.gcd_div_gcd_div_gcd_of_pos_right hd
  have hy0 : 0 < y := by
    rcases Nat.eq_zero_or_pos y with h0 | h0
    · rw [h0, Nat.mul_zero] at hy; omega
    · exact h0
  unfold redOf fitOf at h
  rw [hx', hy'] at h
  split at h
  · rename_i hle
    obtain ⟨rfl⟩ := Prod.mk.inj h
    refine ⟨?_, ?_, by show (0 : Int) < (y : Int); omega⟩
    · rw [vR_iff]
      refine ⟨by show (1 : Int) ≤ (y : Int); omega, by show (y : Int) ≤ _; omega, ?_, ?_, ?_⟩
      · show _ ≤ (if neg = true then -(x : Int) else x); split <;> omega
      · show (if neg = true then -(x : Int) else x) ≤ _; split <;> omega
      · show Nat.gcd (if neg = true then -(x : Int) else x).natAbs ((y : Int)).natAbs = 1
        cases neg <;> simp [hcop]
    · show (if neg = true then -(x : Int) else x) * (d : Int) = sv neg n * (y : Int)
      unfold sv
      have e : (x : Int) * (d : Int) = (n : Int) * (y : Int) := by
        rw [← Int.natCast_mul, ← Int.natCast_mul]
        congr 1
        calc x * d = x * (Nat.gcd n d * y) := by rw [← hy]
          _ = Nat.gcd n d * x * y := by rw [Nat.mul_left_comm, Nat.mul_assoc]
          _ = n * y := by rw [← hx]
      cases neg
      · simpa using e
      · simp only [if_true, Int.neg_mul, e]
  · cases h
theorem some_bind {α β : Type} (x : α) (f : α → Option β) : (some x).bind f = f x := rfl
theorem awake_apportion : ratio_Apportion 3 [5, 3, 0] = some ([2, 1, 0], 0) := by
  unfold ratio_Apportion
  repeat (first | (rfl; done) | (rw [iter_eq]; simp [IntKind.wrap, IntKind.bits, IntKind.signed, ratio_Apportion_l6, ratio_Apportion_j5, ratio_Apportion_l4, ratio_Apportion_j3, ratio_Apportion_l2, ratio_Apportion_j1, req_pos, bindV, ix, setI, rep,
    slices_SortStableFunc_intint_ratio_Apportion_f1, slices_stableCmpFunc_int_ratio_Apportion_f1, slices_stableCmpFunc_int_ratio_Apportion_f1_l6, slices_stableCmpFunc_int_ratio_Apportion_f1_j5, slices_stableCmpFunc_int_ratio_Apportion_f1_l4,
    slices_insertionSortCmpFunc_int_ratio_Apportion_f1, slices_insertionSortCmpFunc_int_ratio_Apportion_f1_l3, slices_insertionSortCmpFunc_int_ratio_Apportion_f1_l2, slices_insertionSortCmpFunc_int_ratio_Apportion_f1_j1, ratio_Apportion_f1, cmp_Compare_int, cmp_isNaN_int]))
theorem awake_eq : law01_awake = some true := by
  unfold law01_awake
  rw [New_eq 6 (-4) ⟨by decide, by decide⟩ ⟨by decide, by decide⟩, awake_apportion]
  simp [newOf, redOf, fitOf, req_pos, ix]
theorem Less_eq (a b : api_Ratio) : ratio_Less a b = some (cmpR a b == -1) := by
  unfold ratio_Less; rw [Compare_eq]; rfl
theorem cmpR_vals (a b : api_Ratio) : cmpR a b = -1 ∨ cmpR a b = 0 ∨ cmpR a b = 1 := by
  unfold cmpR cmpI; (repeat' split) <;> simp
theorem less_same (a b : api_Ratio) : (cmpR a b == -1) = decide (cmpR a b < 0) := by
  rcases cmpR_vals a b with h | h | h <;> rw [h] <;> rfl
theorem div_is {n d q r : Int} (hd : 0 < d) (h : n = d * q + r) (h0 : 0 ≤ r) (h1 : r < d) : n / d = q ∧ n % d = r :=
  (Int.ediv_emod_unique hd).2 ⟨by rw [h]; omega, h0, h1⟩
theorem quot_neg (n d : Int) (hd : 0 < d) (h : Int.tmod n d < 0) : Int.tdiv n d - 1 = n / d ∧ Int.tmod n d + d = n % d := by
  have e : d * Int.tdiv n d + Int.tmod n d = n := Int.mul_tdiv_add_tmod n d
  have h4 : -d < n.tmod d := Int.lt_tmod_of_pos n hd
  have h2 := div_is (n := n) (d := d) (q := Int.tdiv n d - 1) (r := Int.tmod n d + d) hd (by rw [Int.mul_sub]; omega) (by omega) (by omega)
  exact ⟨h2.1.symm, h2.2.symm⟩
theorem quot_pos (n d : Int) (hd : 0 < d) (h : ¬ Int.tmod n d < 0) : Int.tdiv n d = n / d ∧ Int.tmod n d = n % d := by
  have e : d * Int.tdiv n d + Int.tmod n d = n := Int.mul_tdiv_add_tmod n d
  have h4 := Int.tmod_lt_of_pos n hd
  have h2 := div_is (n := n) (d := d) (q := Int.tdiv n d) (r := Int.tmod n d) hd (by omega) (by omega) h4
  exact ⟨h2.1.symm, h2.2.symm⟩
theorem div_between (n d M : Int) (hd : 0 < d) (h1 : -M ≤ n) (h2 : n ≤ M) (hM : 0 ≤ M) : -M ≤ n / d ∧ n / d ≤ M := by
  constructor
  · rw [Int.le_ediv_iff_mul_le hd]
    have : M * 1 ≤ M * d := Int.mul_le_mul_of_nonneg_left (by omega) hM
    rw [Int.neg_mul]; omega
  · have := Int.ediv_le_ediv hd h2
    have h3 : M / d ≤ M := Int.ediv_le_self _ hM
    omega
def flR (a : api_Ratio) : Int := a.Num / a.Den
def rsR (a : api_Ratio) : Int := a.Num % a.Den
structure Vd (a : api_Ratio) : Prop where
  d0 : 1 ≤ a.Den
  d1 : a.Den ≤ 1152921504606846976
  n0 : -1152921504606846976 ≤ a.Num
  n1 : a.Num ≤ 1152921504606846976
theorem vd_of {a : api_Ratio} (h : vR a = true) : Vd a := by
  obtain ⟨h1, h2, h3, h4, _⟩ := (vR_iff a).1 h
  exact ⟨h1, h2, h3, h4⟩
theorem Vd.fl {a : api_Ratio} (h : Vd a) : -1152921504606846976 ≤ flR a ∧ flR a ≤ 1152921504606846976 := div_between _ _ _ (by have := h.d0; omega) h.n0 h.n1 (by decide)
theorem Vd.rs {a : api_Ratio} (h : Vd a) : 0 ≤ rsR a ∧ rsR a < a.Den := ⟨Int.emod_nonneg _ (by have := h.d0; omega), Int.emod_lt_of_pos _ (by have := h.d0; omega)⟩
theorem Vd.eq {a : api_Ratio} (h : Vd a) : a.Num = a.Den * flR a + rsR a := (Int.mul_ediv_add_emod a.Num a.Den).symm
theorem rounded_core {a : api_Ratio} (h : Vd a) (f : Int → Int → Option Int) :
    (req (a.Den ≠ 0) <| bif (decide ((Int.tmod a.Num a.Den) < (0 : Int))) then
      bindV (IntKind.i64.wrap ((IntKind.i64.wrap (Int.tdiv a.Num a.Den)) - (1 : Int))) fun floor1 => f floor1 (IntKind.i64.wrap ((Int.tmod a.Num a.Den) + a.Den))
    else f (IntKind.i64.wrap (Int.tdiv a.Num a.Den)) (Int.tmod a.Num a.Den)) = f (flR a) (rsR a) := by
  have hd : 0 < a.Den := by have := h.d0; omega
  have hf := h.fl
  have hr := h.rs
  have hd1 := h.d1
  rw [req_pos (by omega)]
  rcases bcases (decide ((Int.tmod a.Num a.Den) < (0 : Int))) with hc | hc <;> rw [hc]
  · have hc' : Int.tmod a.Num a.Den < 0 := by simpa using hc
    obtain ⟨e1, e2⟩ := quot_neg a.Num a.Den hd hc'
    rw [cond_true, bindV, wrap64 (n := Int.tdiv a.Num a.Den) (by unfold flR at hf; omega) (by unfold flR at hf; omega), e1, e2, wrap64 (n := a.Num / a.Den) (by unfold flR at hf; omega) (by unfold flR at hf; omega), wrap64 (by unfold rsR at hr; omega) (by unfold rsR at hr; omega)]
    rfl
  · have hc' : ¬ Int.tmod a.Num a.Den < 0 := by simpa using hc
    obtain ⟨e1, e2⟩ := quot_pos a.Num a.Den hd hc'
    rw [cond_false, e1, e2, wrap64 (n := a.Num / a.Den) (by unfold flR at hf; omega) (by unfold flR at hf; omega)]
    rfl
def up (b : Bool) : Int := if b = true then 1 else 0
def ceilR (a : api_Ratio) : Int := flR a + up (decide (0 < rsR a))
def roundR (a : api_Ratio) : Int := flR a + up (decide (a.Den ≤ 2 * rsR a))
def evenR (a : api_Ratio) : Int := flR a + up (decide (a.Den < 2 * rsR a) || (decide (a.Den = 2 * rsR a) && decide (flR a % 2 ≠ 0)))
theorem tmod2 (n : Int) : (Int.tmod n 2 != 0) = decide (n % 2 ≠ 0) := by
  have h : Int.tmod n 2 = 0 ↔ n % 2 = 0 := ⟨fun h => Int.emod_eq_zero_of_dvd (Int.dvd_of_tmod_eq_zero h), fun h => Int.tmod_eq_zero_of_dvd (Int.dvd_of_emod_eq_zero h)⟩
  rw [Bool.eq_iff_iff]; simp [h]
def I64R (a : api_Ratio) : Prop := I64 a.Num ∧ I64 a.Den
theorem tRatio (t : make_Tape) (h : TOK t) : ∃ a t', make_Tape_Ratio t = some (a, t') ∧ TOK t' ∧ vR a = true := by
  have key : ∀ (num den : Int) (t : make_Tape), I64 num → 1 ≤ den → den ≤ 1152921504606846976 → ∃ a, make_Tape_Ratio_j1 num den t.L t.At = some (a, t) ∧ vR a = true := by
    intro num den t hn h1 h2
    unfold make_Tape_Ratio_j1
    rw [NewR_eq num den hn ⟨by omega, by omega⟩]
    simp only [Option.bind]
    rcases bcases ((newOf num den).2 != 0) with hc | hc <;> rw [hc]
    · exact ⟨_, rfl, by decide⟩
    · refine ⟨_, rfl, ?_⟩
      have e0 : (newOf num den).2 = 0 := by simpa using hc
      have hd : ¬ den = 0 := by omega
      unfold newOf at e0 ⊢
      rw [if_neg hd] at e0 ⊢
      exact (redOf_val _ _ _ (by omega) _ (Prod.ext rfl e0)).1
  have key2 : ∀ (y num : Int) (t : make_Tape), TOK t → I64 num → 1 ≤ y → y ≤ 1152921504606846976 → ∃ a t', make_Tape_Ratio_j2 y num t.L t.At = some (a, t') ∧ TOK t' ∧ vR a = true := by
    intro y num t ht hn h1 h2
    unfold make_Tape_Ratio_j2
    obtain ⟨b, t1, e1, ht1⟩ := one_ok t 4 ht (by decide)
    rw [tmk, e1]
    simp only [Option.bind]
    cases b with
    | true =>
      obtain ⟨d, t2, e2, ht2, hd⟩ := pick_ok t1 [1152921504606846976, 1152921504606846975, 576460752303423488, 1073741824, 1000000000, 1000000007, 432345564227567616, 1152921504606846869] ht1 (by decide) (by decide)
      rw [cond_true, e2]
      simp only
      have hd' : 1 ≤ d ∧ d ≤ 1152921504606846976 := by
        simp only [List.mem_cons, List.not_mem_nil, or_false] at hd; omega
      obtain ⟨a, e3, hv⟩ := key num d t2 hn hd'.1 hd'.2
      exact ⟨a, t2, e3, ht2, hv⟩
    | false =>
      obtain ⟨a, e3, hv⟩ := key num y t1 hn h1 h2
      exact ⟨a, t1, e3, ht1, hv⟩
  unfold make_Tape_Ratio
  obtain ⟨x, t1, e1, ht1, x1, x2⟩ := range_ok t (-9) 9 h (by decide) (by decide) (by decide)
  rw [e1]; simp only [Option.bind]
  obtain ⟨y, t2, e2, ht2, y1, y2⟩ := range_ok t1 1 9 ht1 (by decide) (by decide) (by decide)
  rw [e2]; simp only
  obtain ⟨b, t3, e3, ht3⟩ := one_ok t2 4 ht2 (by decide)
  rw [e3]; simp only
  cases b with
  | true =>
    obtain ⟨d, t4, e4, ht4, hd⟩ := pick_ok t3 [1152921504606846976, 1152921504606846975, -1152921504606846976, 576460752303423488, 1073741824, 3486784401, -1000000007, 1152921504606846883] ht3 (by decide) (by decide)
    rw [cond_true, e4]
    simp only
    exact key2 y d t4 ht4 (by simp only [List.mem_cons, List.not_mem_nil, or_false] at hd; constructor <;> omega) y1 (by omega)
  | false => exact key2 y x t3 ht3 ⟨by omega, by omega⟩ y1 (by omega)
theorem tSpoil (t : make_Tape) (x n : Int) (h : TOK t) (hx : I64 x) (hn : n ≤ 4611686018427387904) : ∃ y t', make_Tape_Spoil t x n = some (y, t') ∧ TOK t' ∧ I64 y := by
  unfold make_Tape_Spoil
  rcases bcases (decide ((0 : Int) < n)) with hc | hc <;> rw [hc]
  · obtain ⟨b, t1, e1, ht1⟩ := one_ok t n h hn
    rw [cond_true, e1]; simp only [Option.bind]
    cases b with
    | true =>
      unfold make_Tape_Wild
      obtain ⟨d, t2, e2, ht2, hd⟩ := pick_ok t1 [-1, 0, 1, 2, 31, 32, 99, 100, 200, 201, 9999, 10000, 1000000, 1000001, 1152921504606846976, 1152921504606846977, -1152921504606846976, 9223372036854775807, -9223372036854775808] ht1 (by decide) (by decide)
      rw [cond_true, e2]; simp only [Option.bind]
      exact ⟨d, t2, rfl, ht2, by simp only [List.mem_cons, List.not_mem_nil, or_false] at hd; constructor <;> omega⟩
    | false => exact ⟨x, t1, rfl, ht1, hx⟩
  · exact ⟨x, t, rfl, h, hx⟩
theorem i64_of_v {a : api_Ratio} (h : vR a = true) : I64R a := by
  have h := vd_of h
  have := h.d0; have := h.d1; have := h.n0; have := h.n1
  exact ⟨⟨by omega, by omega⟩, ⟨by omega, by omega⟩⟩
theorem tLoose (t : make_Tape) (h : TOK t) : ∃ a t', make_Tape_Loose t = some (a, t') ∧ TOK t' ∧ I64R a := by
  unfold make_Tape_Loose
  obtain ⟨a, t1, e1, ht1, hv⟩ := tRatio t h
  rw [e1]; simp only [Option.bind]
  obtain ⟨b, t2, e2, ht2⟩ := one_ok t1 3 ht1 (by decide)
  rw [e2]; simp only
  cases b with
  | true =>
    rw [cond_true]
    obtain ⟨x, t3, e3, ht3, x1, x2⟩ := range_ok t2 (-8) 8 ht2 (by decide) (by decide) (by decide)
    rw [e3]; simp only
    obtain ⟨y, t4, e4, ht4, hy⟩ := tSpoil t3 x 3 ht3 ⟨by omega, by omega⟩ (by decide)
    rw [e4]; simp only
    obtain ⟨z, t5, e5, ht5, z1, z2⟩ := range_ok t4 (-1) 8 ht4 (by decide) (by decide) (by decide)
    rw [e5]; simp only
    obtain ⟨u, t6, e6, ht6, hu⟩ := tSpoil t5 z 3 ht5 ⟨by omega, by omega⟩ (by decide)
    rw [e6]; simp only
    exact ⟨_, t6, rfl, ht6, hy, hu⟩
  | false => exact ⟨a, t2, rfl, ht2, i64_of_v hv⟩
theorem shrN (x j : Nat) (hj : j ≤ 64) : bShr .u64 (x : Int) (j : Int) = ((x / 2 ^ j : Nat) : Int) := by
  unfold bShr
  rw [show min (Int.toNat (j : Int)) (IntKind.bits .u64) = j by simp only [Int.toNat_natCast, IntKind.bits]; omega, Int.fdiv_eq_ediv_of_nonneg _ (by exact_mod_cast Nat.zero_le _)]
  norm_cast
theorem shlN (x j : Nat) (hj : j ≤ 64) : bShl .u64 (x : Int) (j : Int) = ((x * 2 ^ j % 18446744073709551616 : Nat) : Int) := by
  unfold bShl
  rw [show min (Int.toNat (j : Int)) (IntKind.bits .u64) = j by simp only [Int.toNat_natCast, IntKind.bits]; omega, wrapU, Int.natCast_emod, Int.natCast_mul, Int.natCast_pow]
  rfl
theorem ofU (x : Nat) (hx : x < 18446744073709551616) : (BitVec.ofInt (IntKind.bits .u64) (x : Int)).toNat = x := by simp only [IntKind.bits, BitVec.toNat_ofInt]; omega
theorem and1 (x : Nat) (hx : x < 18446744073709551616) : bAnd .u64 (x : Int) 1 = ((x % 2 : Nat) : Int) := by
  unfold bAnd
  have e2 : (BitVec.ofInt (IntKind.bits .u64) (1 : Int)).toNat = 2 ^ 1 - 1 := by decide
  rw [BitVec.toNat_and, ofU x hx, e2, Nat.and_two_pow_sub_one_eq_mod, wrapU_id (by omega) (by omega)]
theorem or_even (y b : Nat) (hy : 2 * y + b < 18446744073709551616) (hb : b ≤ 1) : bOr .u64 ((2 * y : Nat) : Int) (b : Int) = ((2 * y + b : Nat) : Int) := by
  unfold bOr
  have := Nat.two_pow_add_eq_or_of_lt (i := 1) (b := b) (by omega) y
  rw [Nat.pow_one] at this
  rw [BitVec.toNat_or, ofU _ (by omega), ofU _ (by omega), ← this, wrapU_id (by omega) (by omega)]
theorem Twice_eq (r : Nat) (h : r < 340282366920938463463374607431768211456) : ref01_Twice (WR r) = some (WR (2 * r % 340282366920938463463374607431768211456)) := by
  unfold ref01_Twice WR
  dsimp only
  rw [show (1 : Int) = ((1 : Nat) : Int) by rfl, show (63 : Int) = ((63 : Nat) : Int) by rfl, shlN _ 1 (by omega), shlN _ 1 (by omega), shrN _ 63 (by omega),
    show (r / 18446744073709551616 * 2 ^ 1 % 18446744073709551616) = 2 * (r / 18446744073709551616 % 9223372036854775808) by omega, or_even _ _ (by omega) (by omega)]
  simp only [Option.some.injEq, ref01_Wide.mk.injEq]
  constructor <;> omega
theorem Minus_mod (m n : Nat) (hm : m < 340282366920938463463374607431768211456) (hn : n < 340282366920938463463374607431768211456) :
    ref01_Minus (WR m) (WR n) = some (WR ((m + 340282366920938463463374607431768211456 - n) % 340282366920938463463374607431768211456)) := by
  unfold ref01_Minus bits_Sub64 WR
  dsimp only
  rw [req_pos (by omega)]
  simp only [Option.bind]
  by_cases hlt : ((m % 18446744073709551616 : Nat) : Int) < ((n % 18446744073709551616 : Nat) : Int) + 0
  · rw [if_pos hlt, req_pos (by omega)]
    simp only [Option.some.injEq, ref01_Wide.mk.injEq]
    constructor <;> omega
  · rw [if_neg hlt, req_pos (by omega)]
    simp only [Option.some.injEq, ref01_Wide.mk.injEq]
    constructor <;> omega
theorem bit_lo (a i : Nat) (hi : i < 64) : a % 18446744073709551616 / 2 ^ i % 2 = a / 2 ^ i % 2 := by
  have h1 : (18446744073709551616 : Nat) = 2 ^ i * (2 * 2 ^ (63 - i)) := by
    rw [← Nat.pow_succ', ← Nat.pow_add, show i + (63 - i).succ = 64 by omega]
  have h2 := Nat.div_add_mod a 18446744073709551616
  have h3 : a / 2 ^ i = 2 * (2 ^ (63 - i) * (a / 18446744073709551616)) + a % 18446744073709551616 / 2 ^ i := by
    conv => lhs; rw [← h2]
    conv => lhs; arg 1; arg 1; arg 1; rw [h1]
    rw [Nat.mul_assoc, Nat.mul_add_div (Nat.two_pow_pos i), Nat.mul_assoc]
  omega
theorem bit_hi (a i : Nat) (hi : 64 ≤ i) : a / 18446744073709551616 / 2 ^ (i - 64) = a / 2 ^ i := by
  rw [Nat.div_div_eq_div_mul, show (18446744073709551616 : Nat) = 2 ^ 64 by decide, ← Nat.pow_add, show 64 + (i - 64) = i by omega]
abbrev hiW (n : Nat) : Int := ((n / 18446744073709551616 : Nat) : Int)
abbrev loW (n : Nat) : Int := ((n % 18446744073709551616 : Nat) : Int)
theorem round_eq (b q r bit : Nat) (i : Int) (hb : b < 340282366920938463463374607431768211456) (hr : r < b) (hq : 2 * q + 1 < 340282366920938463463374607431768211456) (hbit : bit ≤ 1) :
    ref01_Divide_j3 (WR b) i (hiW q) (loW q) (hiW r) (loW r) bit = (if b ≤ 2 * r + bit then ref01_Divide_j2 i (hiW (2 * q + 1)) (loW (2 * q + 1)) (hiW (2 * r + bit - b)) (loW (2 * r + bit - b))
      else ref01_Divide_j2 i (hiW (2 * q)) (loW (2 * q)) (hiW (2 * r + bit)) (loW (2 * r + bit))) := by
  unfold ref01_Divide_j3
  have t1 := Twice_eq r (by omega)
  have t2 := Twice_eq q (by omega)
  have u1 : (⟨hiW r, loW r⟩ : ref01_Wide) = WR r := rfl
  have u2 : (⟨hiW q, loW q⟩ : ref01_Wide) = WR q := rfl
  rw [u1, u2, t1, t2]
  simp only [Option.bind]
  have eq1 : 2 * q % 340282366920938463463374607431768211456 = 2 * q := by omega
  rw [eq1]
  have e1 : bOr .u64 (WR (2 * r % 340282366920938463463374607431768211456)).Lo (bit : Int) = loW (2 * r % 340282366920938463463374607431768211456 + bit) := by
    show bOr .u64 ((2 * r % 340282366920938463463374607431768211456 % 18446744073709551616 : Nat) : Int) (bit : Int) = _
    rw [show 2 * r % 340282366920938463463374607431768211456 % 18446744073709551616 = 2 * (r % 9223372036854775808) by omega, or_even _ _ (by omega) hbit]
    simp only [loW]; omega
  have e2 : (WR (2 * r % 340282366920938463463374607431768211456)).Hi = hiW (2 * r % 340282366920938463463374607431768211456 + bit) := by
    simp only [WR, hiW]; omega
  have e3 : bOr .u64 (WR (2 * q)).Lo 1 = loW (2 * q + 1) := by
    show bOr .u64 ((2 * q % 18446744073709551616 : Nat) : Int) ((1 : Nat) : Int) = _
    rw [show 2 * q % 18446744073709551616 = 2 * (q % 9223372036854775808) by omega, or_even _ _ (by omega) (by omega)]
    simp only [loW]; omega
  have e4 : (WR (2 * q)).Hi = hiW (2 * q + 1) := by simp only [WR, hiW]; omega
  rw [e1, e2, e3]
  have u3 : (⟨hiW (2 * r % 340282366920938463463374607431768211456 + bit), loW (2 * r % 340282366920938463463374607431768211456 + bit)⟩ : ref01_Wide) = WR (2 * r % 340282366920938463463374607431768211456 + bit) := rfl
  rw [u3, Order_eq, req_pos (by intro _; rfl)]
  have e5 : (bShr .u64 (hiW r) 63 == 1) = decide (170141183460469231731687303715884105728 ≤ r) := by
    rw [show (63 : Int) = ((63 : Nat) : Int) by rfl]
    simp only [hiW]
    rw [shrN _ 63 (by omega), Bool.eq_iff_iff]
    simp only [beq_iff_eq, decide_eq_true_eq]
    omega
  rw [e5]
  simp only [Option.getD_some]
  by_cases hc : b ≤ 2 * r + bit
  · rw [if_pos hc]
    have e6 : (decide (170141183460469231731687303715884105728 ≤ r) || decide (0 ≤ cmpI ((2 * r % 340282366920938463463374607431768211456 + bit : Nat) : Int) (b : Int))) = true := by
      simp only [Bool.or_eq_true, decide_eq_true_eq]
      by_cases h1 : 170141183460469231731687303715884105728 ≤ r
      · exact .inl h1
      · right
        unfold cmpI
        rw [if_neg (by omega)]
        split <;> decide
    rw [e6, cond_true, Minus_mod _ _ (by omega) hb]
    simp only
    rw [e4]
    rw [show (2 * r % 340282366920938463463374607431768211456 + bit + 340282366920938463463374607431768211456 - b) % 340282366920938463463374607431768211456 = 2 * r + bit - b by omega]
    rfl
  · rw [if_neg hc]
    have e6 : (decide (170141183460469231731687303715884105728 ≤ r) || decide (0 ≤ cmpI ((2 * r % 340282366920938463463374607431768211456 + bit : Nat) : Int) (b : Int))) = false := by
      simp only [Bool.or_eq_false_iff, decide_eq_false_iff_not]
      refine ⟨by omega, ?_⟩
      unfold cmpI
      rw [if_pos (by omega)]; decide
    rw [e6, cond_false, show 2 * r % 340282366920938463463374607431768211456 + bit = 2 * r + bit by omega]
    rfl
theorem step_div (A b bit : Nat) (hb : 0 < b) (hbit : bit ≤ 1) : (if b ≤ 2 * (A % b) + bit then (2 * (A / b) + 1, 2 * (A % b) + bit - b) else (2 * (A / b), 2 * (A % b) + bit)) = ((2 * A + bit) / b, (2 * A + bit) % b) := by
  have h1 := Nat.div_add_mod A b
  have h2 := Nat.mod_lt A hb
  split
  · rename_i hc
    have := (Nat.div_mod_unique (a := 2 * A + bit) (b := b) (c := 2 * (A % b) + bit - b) (d := 2 * (A / b) + 1) hb).2 ⟨by rw [Nat.mul_add, Nat.mul_left_comm]; omega, by omega⟩
    rw [this.1, this.2]
  · rename_i hc
    have := (Nat.div_mod_unique (a := 2 * A + bit) (b := b) (c := 2 * (A % b) + bit) (d := 2 * (A / b)) hb).2 ⟨by rw [Nat.mul_left_comm]; omega, by omega⟩
    rw [this.1, this.2]
theorem loop_eq (a b : Nat) (ha : a < 340282366920938463463374607431768211456) (hb0 : 0 < b) (hb : b < 340282366920938463463374607431768211456) : ∀ k : Nat, k ≤ 128 →
    iter (ref01_Divide_l4 (WR a) (WR b)) ((k : Int) - 1, hiW (a / 2 ^ k / b), loW (a / 2 ^ k / b), hiW (a / 2 ^ k % b), loW (a / 2 ^ k % b)) = some (hiW (a / b), loW (a / b), hiW (a % b), loW (a % b)) := by
  intro k
  induction k with
  | zero =>
    intro _
    refine iter_inr ?_
    simp [ref01_Divide_l4]
  | succ k ih =>
    intro hk
    have hA : a / 2 ^ k = 2 * (a / 2 ^ (k + 1)) + a / 2 ^ k % 2 := by
      rw [Nat.pow_succ, ← Nat.div_div_eq_div_mul]; omega
    have hq : 2 * (a / 2 ^ (k + 1) / b) + 1 < 340282366920938463463374607431768211456 := by
      have h1 : a / 2 ^ (k + 1) ≤ a / 2 := by
        rw [Nat.pow_succ', ← Nat.div_div_eq_div_mul]; exact Nat.div_le_self _ _
      have h2 := Nat.div_le_self (a / 2 ^ (k + 1)) b
      omega
    have hr := Nat.mod_lt (a / 2 ^ (k + 1)) hb0
    have hs : ref01_Divide_l4 (WR a) (WR b) (((k + 1 : Nat) : Int) - 1, hiW (a / 2 ^ (k + 1) / b), loW (a / 2 ^ (k + 1) / b), hiW (a / 2 ^ (k + 1) % b), loW (a / 2 ^ (k + 1) % b))
        = some (.inl ((k : Int) - 1, hiW (a / 2 ^ k / b), loW (a / 2 ^ k / b), hiW (a / 2 ^ k % b), loW (a / 2 ^ k % b))) := by
      simp only [ref01_Divide_l4]
      have ek : (((k + 1 : Nat) : Int) - 1) = (k : Int) := by omega
      rw [ek, show decide ((0 : Int) ≤ (k : Int)) = true by simp, cond_true, show (64 : Int) = ((64 : Nat) : Int) by rfl, tmod_nat, wrapU_nat _ (by omega), req_pos (by omega)]
      have fin : ∀ bit : Nat, bit = a / 2 ^ k % 2 → ref01_Divide_j3 (WR b) (k : Int) (hiW (a / 2 ^ (k + 1) / b)) (loW (a / 2 ^ (k + 1) / b)) (hiW (a / 2 ^ (k + 1) % b)) (loW (a / 2 ^ (k + 1) % b)) (bit : Int) = some (.inl ((k : Int) - 1, hiW (a / 2 ^ k / b), loW (a / 2 ^ k / b), hiW (a / 2 ^ k % b), loW (a / 2 ^ k % b))) := by
        rintro bit rfl
        rw [round_eq b _ _ _ _ hb hr hq (by omega)]
        have hst := step_div (a / 2 ^ (k + 1)) b (a / 2 ^ k % 2) hb0 (by omega)
        rw [← hA] at hst
        unfold ref01_Divide_j2
        rw [wrap64 (n := (k : Int) - 1) (by omega) (by omega)]
        split at hst
        · rename_i hc
          rw [if_pos hc]
          have := Prod.mk.inj hst
          rw [this.1, this.2]
        · rename_i hc
          rw [if_neg hc]
          have := Prod.mk.inj hst
          rw [this.1, this.2]
      unfold bindV
      dsimp only
      by_cases h64 : 64 ≤ k
      · rw [show decide (((64 : Nat) : Int) ≤ (k : Int)) = true by simp only [decide_eq_true_eq]; omega, cond_true, wrap64 (n := (k : Int) - ((64 : Nat) : Int)) (by omega) (by omega), show (k : Int) - ((64 : Nat) : Int) = ((k - 64 : Nat) : Int) by omega, wrapU_nat _ (by omega), req_pos (by omega)]
        rw [show (WR a).Hi = ((a / 18446744073709551616 : Nat) : Int) by rfl, shrN _ _ (by omega), and1 _ (Nat.lt_of_le_of_lt (Nat.div_le_self _ _) (by omega)), bit_hi a k h64]
        exact fin _ rfl
      · rw [show decide (((64 : Nat) : Int) ≤ (k : Int)) = false by simp only [decide_eq_false_iff_not]; omega, cond_false]
        rw [show (WR a).Lo = ((a % 18446744073709551616 : Nat) : Int) by rfl, show k % 64 = k by omega, shrN _ _ (by omega), and1 _ (Nat.lt_of_le_of_lt (Nat.div_le_self _ _) (by omega)), bit_lo a k (by omega)]
        exact fin _ rfl
    rw [iter_inl hs]
    exact ih (by omega)
theorem Divide_eq (a b : Nat) (ha : a < 340282366920938463463374607431768211456) (hb0 : 0 < b) (hb : b < 340282366920938463463374607431768211456) : ref01_Divide (WR a) (WR b) = some (WR (a / b), WR (a % b)) := by
  by_cases hs : a < 18446744073709551616 ∧ b < 18446744073709551616
  · have := Divide0 a b hs.1 hb0
    have e : ∀ n : Nat, n < 18446744073709551616 → WR n = ⟨0, (n : Int)⟩ := fun n hn => by simp only [WR, ref01_Wide.mk.injEq]; omega
    rw [e a hs.1, e b hs.2, e (a / b) (Nat.lt_of_le_of_lt (Nat.div_le_self _ _) hs.1), e (a % b) (Nat.lt_trans (Nat.mod_lt _ hb0) hs.2)]
    exact this
  · unfold ref01_Divide ref01_Divide_j1
    have hc : (((WR a).Hi == (0 : Int)) && ((WR b).Hi == (0 : Int))) = false := by
      simp only [WR, Bool.and_eq_false_iff, beq_eq_false_iff_ne]; omega
    rw [hc, cond_false]
    have := loop_eq a b ha hb0 hb 128 (by omega)
    have h0 : a / 2 ^ 128 = 0 := Nat.div_eq_of_lt (by simpa using ha)
    rw [h0, Nat.zero_div, Nat.zero_mod] at this
    have e : ((((128 : Nat) : Int) - 1, hiW 0, loW 0, hiW 0, loW 0) : Int × Int × Int × Int × Int) = ((127 : Int), (0 : Int), (0 : Int), (0 : Int), (0 : Int)) := by rfl
    rw [e] at this
    rw [this]; rfl
theorem Divisor_eq (a b : Nat) (ha : a < 340282366920938463463374607431768211456) (hb : b < 340282366920938463463374607431768211456) : ref01_Divisor (WR a) (WR b) = some (WR (Nat.gcd a b)) := by
  have key : ∀ n m : Nat, m < 340282366920938463463374607431768211456 → n < 340282366920938463463374607431768211456 → iter ref01_Divisor_l2 (hiW m, loW m, hiW n, loW n) = some (hiW (Nat.gcd m n), loW (Nat.gcd m n)) := by
    intro n
    induction n using Nat.strongRecOn with
    | _ n ih =>
      intro m hm hn'
      by_cases hn : n = 0
      · subst hn
        refine iter_inr ?_
        simp [ref01_Divisor_l2]
      · have hs : ref01_Divisor_l2 (hiW m, loW m, hiW n, loW n) = some (.inl (hiW n, loW n, hiW (m % n), loW (m % n))) := by
          simp only [ref01_Divisor_l2]
          rw [show (!((hiW n == 0) && (loW n == 0))) = true by
            simp only [hiW, loW, Bool.not_eq_true', Bool.and_eq_false_iff, beq_eq_false_iff_ne]; omega, cond_true]
          rw [show (⟨hiW m, loW m⟩ : ref01_Wide) = WR m by rfl, show (⟨hiW n, loW n⟩ : ref01_Wide) = WR n by rfl, Divide_eq m n hm (by omega) hn']
          rfl
        have hlt := Nat.mod_lt m (show 0 < n by omega)
        rw [iter_inl hs, ih (m % n) hlt n hn' (by omega)]
        rw [Nat.gcd_comm m n, Nat.gcd_rec n m, Nat.gcd_comm]
  unfold ref01_Divisor ref01_Divisor_j1
  have := key b a ha hb
  rw [show ((WR a).Hi, (WR a).Lo, (WR b).Hi, (WR b).Lo) = (hiW a, loW a, hiW b, loW b) by rfl, this]; rfl
theorem redTail (neg : Bool) (x y : Nat) :
    (bif ((((decide ((0 : Int) < (WR x).Hi)) || (decide ((0 : Int) < (WR y).Hi))) || (decide ((1152921504606846976 : Int) < (WR x).Lo))) || (decide ((1152921504606846976 : Int) < (WR y).Lo))) then
      some ((api_Ratio.mk (0 : Int) (0 : Int)), (6 : Int))
    else
      bif neg then some ((api_Ratio.mk (IntKind.i64.wrap (0 - (IntKind.i64.wrap (WR x).Lo))) (IntKind.i64.wrap (WR y).Lo)), (0 : Int))
      else some ((api_Ratio.mk (IntKind.i64.wrap (WR x).Lo) (IntKind.i64.wrap (WR y).Lo)), (0 : Int))) = some (fitOf neg x y) := by
  unfold fitOf
  have e1 : (WR x).Hi = ((x / 18446744073709551616 : Nat) : Int) := rfl
  have e2 : (WR x).Lo = ((x % 18446744073709551616 : Nat) : Int) := rfl
  have e3 : (WR y).Hi = ((y / 18446744073709551616 : Nat) : Int) := rfl
  have e4 : (WR y).Lo = ((y % 18446744073709551616 : Nat) : Int) := rfl
  rw [e1, e2, e3, e4]
  by_cases hc : x ≤ 1152921504606846976 ∧ y ≤ 1152921504606846976
  · rw [show ((((decide ((0 : Int) < ((x / 18446744073709551616 : Nat) : Int))) || (decide ((0 : Int) < ((y / 18446744073709551616 : Nat) : Int)))) || (decide ((1152921504606846976 : Int) < ((x % 18446744073709551616 : Nat) : Int)))) || (decide ((1152921504606846976 : Int) < ((y % 18446744073709551616 : Nat) : Int)))) = false by
      simp only [Bool.or_eq_false_iff, decide_eq_false_iff_not]; omega]
    rw [cond_false, if_pos hc, show x % 18446744073709551616 = x by omega, show y % 18446744073709551616 = y by omega, wrap64 (n := (x : Int)) (by omega) (by omega), wrap64 (n := (y : Int)) (by omega) (by omega)]
    cases neg
    · rfl
    · rw [cond_true, wrap64 (by omega) (by omega)]; simp
  · rw [show ((((decide ((0 : Int) < ((x / 18446744073709551616 : Nat) : Int))) || (decide ((0 : Int) < ((y / 18446744073709551616 : Nat) : Int)))) || (decide ((1152921504606846976 : Int) < ((x % 18446744073709551616 : Nat) : Int)))) || (decide ((1152921504606846976 : Int) < ((y % 18446744073709551616 : Nat) : Int)))) = true by
      simp only [Bool.or_eq_true, decide_eq_true_eq]; omega]
    rw [cond_true, if_neg hc]
theorem Reduce_eq (neg : Bool) (n d : Nat) (hn : n < 340282366920938463463374607431768211456) (hd : 0 < d) (hd2 : d < 340282366920938463463374607431768211456) : ref01_Reduce neg (WR n) (WR d) = some (redOf neg n d) := by
  have hg : 0 < Nat.gcd n d := Nat.gcd_pos_of_pos_right _ hd
  have hgd : Nat.gcd n d ≤ d := Nat.gcd_le_right _ hd
  unfold ref01_Reduce ref01_Reduce_j1 redOf
  rw [Divisor_eq n d hn hd2]
  simp only [Option.bind]
  rw [Divide_eq n _ hn hg (by omega), Divide_eq d _ hd2 hg (by omega)]
  exact redTail neg (n / Nat.gcd n d) (d / Nat.gcd n d)
theorem red_unique (neg : Bool) (n d p q k : Nat) (hk : 0 < k) (hn : n = p * k) (hd : d = q * k) (hc : Nat.gcd p q = 1) : redOf neg n d = fitOf neg p q := by
  unfold redOf
  have hg : Nat.gcd n d = k := by rw [hn, hd, Nat.gcd_mul_right, hc, Nat.one_mul]
  rw [hg, hn, hd, Nat.mul_div_cancel _ hk, Nat.mul_div_cancel _ hk]
theorem product_eq (x y : Nat) (hx : x < 18446744073709551616) (hy : y < 18446744073709551616) : ratio_product x y = some ⟨hiW (x * y), loW (x * y)⟩ := by
  unfold ratio_product
  rw [Mul64_eq x y hx hy]; rfl
theorem fittedW (neg : Bool) (n d : Nat) : ratio_fitted neg ⟨hiW n, loW n⟩ ⟨hiW d, loW d⟩ = some (fitOf neg n d) := by
  have h := fitted_eq neg (n / 18446744073709551616) (n % 18446744073709551616) (d / 18446744073709551616) (d % 18446744073709551616) (by omega) (by omega)
  rw [show n / 18446744073709551616 * 18446744073709551616 + n % 18446744073709551616 = n by omega, show d / 18446744073709551616 * 18446744073709551616 + d % 18446744073709551616 = d by omega] at h
  exact h
structure VN (a : api_Ratio) : Prop where
  i1 : I64 a.Num
  i2 : I64 a.Den
  n1 : a.Num.natAbs ≤ 1152921504606846976
  d0 : 1 ≤ a.Den.natAbs
  d1 : a.Den.natAbs ≤ 1152921504606846976
  de : (a.Den.natAbs : Int) = a.Den
  cop : Nat.gcd a.Num.natAbs a.Den.natAbs = 1
theorem vn_of {a : api_Ratio} (h : vR a = true) : VN a := by
  obtain ⟨h1, h2, h3, h4, h5⟩ := (vR_iff a).1 h
  exact ⟨⟨by omega, by omega⟩, ⟨by omega, by omega⟩, by omega, by omega, by omega, by omega, h5⟩
theorem wrapU_den {a : api_Ratio} (h : VN a) : IntKind.u64.wrap a.Den = (a.Den.natAbs : Int) := by
  have h1 := h.d0; have h2 := h.d1; have h3 := h.de
  rw [wrapU_id (by omega) (by omega)]; omega
def sgn (a b : api_Ratio) : Bool := !((decide (a.Num < (0 : Int))) == (decide (b.Num < (0 : Int))))
def mulOf (a b : api_Ratio) : api_Ratio × Int := if vR a = true ∧ vR b = true then redOf (sgn a b) (a.Num.natAbs * b.Num.natAbs) (a.Den.natAbs * b.Den.natAbs) else (⟨0, 0⟩, 1)
theorem mul_lowest (na nb da db : Nat) (ha : Nat.gcd na da = 1) (hb : Nat.gcd nb db = 1) (h1 : 0 < da) (h2 : 0 < db) (neg : Bool) :
    redOf neg (na * nb) (da * db) = fitOf neg (na / Nat.gcd na db * (nb / Nat.gcd nb da)) (da / Nat.gcd nb da * (db / Nat.gcd na db)) := by
  have g1 : 0 < Nat.gcd na db := Nat.gcd_pos_of_pos_right _ h2
  have g2 : 0 < Nat.gcd nb da := Nat.gcd_pos_of_pos_right _ h1
  have e1 := Nat.div_mul_cancel (Nat.gcd_dvd_left na db)
  have e2 := Nat.div_mul_cancel (Nat.gcd_dvd_right na db)
  have e3 := Nat.div_mul_cancel (Nat.gcd_dvd_left nb da)
  have e4 := Nat.div_mul_cancel (Nat.gcd_dvd_right nb da)
  refine red_unique neg _ _ _ _ (Nat.gcd na db * Nat.gcd nb da) (Nat.mul_pos g1 g2) ?_ ?_ ?_
  · conv => lhs; rw [← e1, ← e3]
    simp only [Nat.mul_assoc, Nat.mul_left_comm, Nat.mul_comm]
  · conv => lhs; rw [← e4, ← e2]
    simp only [Nat.mul_assoc, Nat.mul_left_comm, Nat.mul_comm]
  · have c1 : Nat.Coprime na da := ha
    have c2 : Nat.Coprime nb db := hb
    have d1 : na / Nat.gcd na db ∣ na := ⟨_, e1.symm⟩
    have d2 : db / Nat.gcd na db ∣ db := ⟨_, e2.symm⟩
    have d3 : nb / Nat.gcd nb da ∣ nb := ⟨_, e3.symm⟩
    have d4 : da / Nat.gcd nb da ∣ da := ⟨_, e4.symm⟩
    have k1 : Nat.Coprime (na / Nat.gcd na db) (da / Nat.gcd nb da) := (c1.coprime_dvd_left d1).coprime_dvd_right d4
    have k2 : Nat.Coprime (na / Nat.gcd na db) (db / Nat.gcd na db) := Nat.coprime_div_gcd_div_gcd g1
    have k3 : Nat.Coprime (nb / Nat.gcd nb da) (da / Nat.gcd nb da) := Nat.coprime_div_gcd_div_gcd g2
    have k4 : Nat.Coprime (nb / Nat.gcd nb da) (db / Nat.gcd na db) := (c2.coprime_dvd_left d3).coprime_dvd_right d2
    exact Nat.Coprime.mul_left (k1.mul_right k2) (k3.mul_right k4)
def divOf (a b : api_Ratio) : api_Ratio × Int := if vR a = true ∧ vR b = true then (if b.Num = 0 then (⟨0, 0⟩, 2) else redOf (sgn a b) (a.Num.natAbs * b.Den.natAbs) (a.Den.natAbs * b.Num.natAbs)) else (⟨0, 0⟩, 1)
def tab8 : Str := ((List.append (List.append [0, 1, 2, 2, 3, 3, 3, 3, 4, 4, 4, 4, 4, 4, 4, 4, 5, 5, 5, 5, 5, 5, 5, 5, 5, 5, 5, 5, 5, 5, 5, 5, 6, 6, 6, 6, 6, 6, 6, 6, 6, 6, 6, 6, 6, 6, 6, 6, 6, 6, 6, 6, 6, 6, 6, 6, 6, 6, 6, 6, 6, 6, 6, 6] [7, 7, 7, 7, 7, 7, 7, 7, 7, 7, 7, 7, 7, 7, 7, 7, 7, 7, 7, 7, 7, 7, 7, 7, 7, 7, 7, 7, 7, 7, 7, 7, 7, 7, 7, 7, 7, 7, 7, 7, 7, 7, 7, 7, 7, 7, 7, 7, 7, 7, 7, 7, 7, 7, 7, 7, 7, 7, 7, 7, 7, 7, 7, 7]) (List.append [8, 8, 8, 8, 8, 8, 8, 8, 8, 8, 8, 8, 8, 8, 8, 8, 8, 8, 8, 8, 8, 8, 8, 8, 8, 8, 8, 8, 8, 8, 8, 8, 8, 8, 8, 8, 8, 8, 8, 8, 8, 8, 8, 8, 8, 8, 8, 8, 8, 8, 8, 8, 8, 8, 8, 8, 8, 8, 8, 8, 8, 8, 8, 8] [8, 8, 8, 8, 8, 8, 8, 8, 8, 8, 8, 8, 8, 8, 8, 8, 8, 8, 8, 8, 8, 8, 8, 8, 8, 8, 8, 8, 8, 8, 8, 8, 8, 8, 8, 8, 8, 8, 8, 8, 8, 8, 8, 8, 8, 8, 8, 8, 8, 8, 8, 8, 8, 8, 8, 8, 8, 8, 8, 8, 8, 8, 8, 8])) : Str)
theorem tab8_ok : ∀ x : _root_.Fin 256, x.val = 0 ∨ (1 ≤ (tab8.getD x.val 0).toNat ∧ (tab8.getD x.val 0).toNat ≤ 8 ∧ 2 ^ ((tab8.getD x.val 0).toNat - 1) ≤ x.val ∧ x.val < 2 ^ (tab8.getD x.val 0).toNat) := by decide +kernel
theorem len1 (y x n : Nat) (hx0 : 0 < x) (hx : x < 256) (hn : n ≤ 56) (he : y / 2 ^ n = x) : ∃ L : Nat, 1 ≤ L ∧ L ≤ n + 8 ∧ bits_Len64_j1 (x : Int) (n : Int) = some (L : Int) ∧ 2 ^ (L - 1) ≤ y ∧ y < 2 ^ L := by
  have h := tab8_ok ⟨x, hx⟩
  simp only at h
  generalize ht : (tab8.getD x 0).toNat = t at h
  rcases h with h | ⟨h1, h2, h3, h4⟩
  · omega
  have ew : IntKind.u8.wrap (x : Int) = (x : Int) := by
    simp only [IntKind.wrap, IntKind.bits, IntKind.signed]; simp; omega
  refine ⟨n + t, by omega, by omega, ?_, ?_, ?_⟩
  · show (req ((0 ≤ IntKind.u8.wrap (x : Int) ∧ IntKind.u8.wrap (x : Int) < (tab8.length : Int))) <| bindV (IntKind.i64.wrap ((n : Int) + (IntKind.i64.wrap (sx tab8 (IntKind.u8.wrap (x : Int)))))) fun n3 => some n3) = _
    rw [ew, req_pos ⟨by omega, by rw [show tab8.length = 256 by decide]; omega⟩]
    have e2 : sx tab8 (x : Int) = (t : Int) := by unfold sx; rw [Int.toNat_natCast, ht]
    rw [e2]
    unfold bindV
    rw [wrap64 (n := (t : Int)) (by omega) (by omega), wrap64 (by omega) (by omega)]
    simp
  · rw [show n + t - 1 = (t - 1) + n by omega, Nat.pow_add]
    rw [← he] at h3
    exact (Nat.le_div_iff_mul_le (Nat.two_pow_pos n)).1 h3
  · rw [Nat.add_comm n t, Nat.pow_add]
    rw [← he] at h4
    exact (Nat.div_lt_iff_lt_mul (Nat.two_pow_pos n)).1 h4
theorem shr_lit (x j : Nat) (J : Int) (hJ : J = (j : Int)) (hj : j ≤ 64) : bShr .u64 (x : Int) J = ((x / 2 ^ j : Nat) : Int) := by rw [hJ]; exact shrN x j hj
theorem len2 (y x n : Nat) (hx0 : 0 < x) (hx : x < 65536) (hn : n ≤ 48) (he : y / 2 ^ n = x) : ∃ L : Nat, 1 ≤ L ∧ L ≤ n + 16 ∧ bits_Len64_j2 (x : Int) (n : Int) = some (L : Int) ∧ 2 ^ (L - 1) ≤ y ∧ y < 2 ^ L := by
  unfold bits_Len64_j2
  by_cases hc : 256 ≤ x
  · rw [show decide ((256 : Int) ≤ (x : Int)) = true by simp only [decide_eq_true_eq]; omega, cond_true, shr_lit x 8 8 rfl (by omega), wrap64 (by omega) (by omega), show (n : Int) + 8 = ((n + 8 : Nat) : Int) by omega]
    obtain ⟨L, h1, h2, h3⟩ := len1 y (x / 2 ^ 8) (n + 8) (by omega) (by omega) (by omega) (by rw [Nat.pow_add, ← Nat.div_div_eq_div_mul, he])
    exact ⟨L, h1, by omega, h3⟩
  · rw [show decide ((256 : Int) ≤ (x : Int)) = false by simp only [decide_eq_false_iff_not]; omega, cond_false]
    obtain ⟨L, h1, h2, h3⟩ := len1 y x n hx0 (by omega) (by omega) he
    exact ⟨L, h1, by omega, h3⟩
theorem len3 (y x n : Nat) (hx0 : 0 < x) (hx : x < 4294967296) (hn : n ≤ 32) (he : y / 2 ^ n = x) : ∃ L : Nat, 1 ≤ L ∧ L ≤ n + 32 ∧ bits_Len64_j3 (x : Int) (n : Int) = some (L : Int) ∧ 2 ^ (L - 1) ≤ y ∧ y < 2 ^ L := by
  unfold bits_Len64_j3
  by_cases hc : 65536 ≤ x
  · rw [show decide ((65536 : Int) ≤ (x : Int)) = true by simp only [decide_eq_true_eq]; omega, cond_true, shr_lit x 16 16 rfl (by omega), wrap64 (by omega) (by omega), show (n : Int) + 16 = ((n + 16 : Nat) : Int) by omega]
    obtain ⟨L, h1, h2, h3⟩ := len2 y (x / 2 ^ 16) (n + 16) (by omega) (by omega) (by omega) (by rw [Nat.pow_add, ← Nat.div_div_eq_div_mul, he])
    exact ⟨L, h1, by omega, h3⟩
  · rw [show decide ((65536 : Int) ≤ (x : Int)) = false by simp only [decide_eq_false_iff_not]; omega, cond_false]
    obtain ⟨L, h1, h2, h3⟩ := len2 y x n hx0 (by omega) (by omega) he
    exact ⟨L, h1, by omega, h3⟩
theorem Len64_eq (y : Nat) (h0 : 0 < y) (h : y < 18446744073709551616) : ∃ L : Nat, 1 ≤ L ∧ L ≤ 64 ∧ bits_Len64 (y : Int) = some (L : Int) ∧ 2 ^ (L - 1) ≤ y ∧ y < 2 ^ L := by
  unfold bits_Len64
  by_cases hc : 4294967296 ≤ y
  · rw [show decide ((4294967296 : Int) ≤ (y : Int)) = true by simp only [decide_eq_true_eq]; omega, cond_true, shr_lit y 32 32 rfl (by omega), show (32 : Int) = ((32 : Nat) : Int) by rfl]
    exact len3 y (y / 2 ^ 32) 32 (by omega) (by omega) (by omega) rfl
  · rw [show decide ((4294967296 : Int) ≤ (y : Int)) = false by simp only [decide_eq_false_iff_not]; omega, cond_false]
    obtain ⟨L, h1, h2, h3⟩ := len3 y y 0 h0 (by omega) (by omega) (by simp)
    exact ⟨L, h1, by omega, h3⟩
theorem Lead_eq (y : Nat) (h0 : 0 < y) (h : y < 18446744073709551616) : ∃ s : Nat, s ≤ 63 ∧ bits_LeadingZeros64 (y : Int) = some (s : Int) ∧ 9223372036854775808 ≤ y * 2 ^ s ∧ y * 2 ^ s < 18446744073709551616 := by
  obtain ⟨L, h1, h2, h3, h4, h5⟩ := Len64_eq y h0 h
  refine ⟨64 - L, by omega, ?_, ?_, ?_⟩
  · unfold bits_LeadingZeros64
    rw [h3]
    simp only [Option.bind]
    rw [wrap64 (by omega) (by omega), show (64 : Int) - (L : Int) = ((64 - L : Nat) : Int) by omega]
  · have := Nat.mul_le_mul_right (2 ^ (64 - L)) h4
    rw [← Nat.pow_add, show L - 1 + (64 - L) = 63 by omega] at this
    simpa using this
  · have := Nat.mul_lt_mul_of_pos_right h5 (Nat.two_pow_pos (64 - L))
    rw [← Nat.pow_add, show L + (64 - L) = 64 by omega] at this
    simpa using this

theorem knuth {σ : Type} {f : σ → Option (σ ⊕ Int)} (en : Nat → Nat → σ) (v1 v0 d u : Nat) (hv1 : 2147483648 ≤ v1) (hv1' : v1 < 4294967296) (hv0 : v0 < 4294967296) (hd : d < 4294967296) (hu : u < v1 * 4294967296 + v0)
    (hf : ∀ q r, q ≤ 4294967297 → r < 4294967296 → f (en q r) = some (if 4294967296 ≤ q ∨ 4294967296 * r + d < q * v0 then (if 4294967296 ≤ r + v1 then .inr ((q - 1 : Nat) : Int) else .inl (en (q - 1) (r + v1))) else .inr (q : Int))) :
    ∀ q r, q * v1 + r = u → q ≤ 4294967297 → r < 4294967296 → (u * 4294967296 + d) / (v1 * 4294967296 + v0) ≤ q → iter f (en q r) = some (((u * 4294967296 + d) / (v1 * 4294967296 + v0) : Nat) : Int) := by
  have hy : 0 < v1 * 4294967296 + v0 := by omega
  have hQ : (u * 4294967296 + d) / (v1 * 4294967296 + v0) < 4294967296 := by
    rw [Nat.div_lt_iff_lt_mul hy]; omega
  -- what a candidate says
  have cand : ∀ q r, q * v1 + r = u → (q * v0 ≤ 4294967296 * r + d ↔ q ≤ (u * 4294967296 + d) / (v1 * 4294967296 + v0)) := by
    intro q r he
    rw [Nat.le_div_iff_mul_le hy, Nat.mul_add, ← Nat.mul_assoc]
    omega
  intro q
  induction q with
  | zero =>
    intro r he hq hr hle
    have h1 := hf 0 r hq hr
    rw [if_neg (by omega)] at h1
    rw [iter_inr h1]
    congr 1
    have : (u * 4294967296 + d) / (v1 * 4294967296 + v0) = 0 := Nat.le_zero.1 hle
    rw [this]
  | succ q ih =>
    intro r he hq hr hle
    have h1 := hf (q + 1) r hq hr
    have hc := cand (q + 1) r he
    by_cases hb : 4294967296 ≤ q + 1 ∨ 4294967296 * r + d < (q + 1) * v0
    · rw [if_pos hb] at h1
      have hlt : (u * 4294967296 + d) / (v1 * 4294967296 + v0) ≤ q := by
        rcases hb with hb | hb
        · omega
        · have : ¬ (q + 1 ≤ (u * 4294967296 + d) / (v1 * 4294967296 + v0)) := fun h => by have := hc.2 h; omega
          omega
      have he' : q * v1 + (r + v1) = u := by rw [Nat.add_mul] at he; omega
      by_cases hs : 4294967296 ≤ r + v1
      · rw [if_pos hs] at h1
        rw [iter_inr h1]
        congr 1
        have h2 : q * v0 ≤ 4294967296 * 4294967296 := Nat.mul_le_mul (by omega) (by omega)
        have h3 := (cand q (r + v1) he').1 (by omega)
        have : q = (u * 4294967296 + d) / (v1 * 4294967296 + v0) := by omega
        simp only [Nat.add_sub_cancel]
        rw [← this]
      · rw [if_neg hs] at h1
        rw [iter_inl h1]
        exact ih (r + v1) he' (by omega) (by omega) hlt
    · rw [if_neg hb] at h1
      rw [iter_inr h1]
      congr 1
      have h3 := hc.1 (by omega)
      have : q + 1 = (u * 4294967296 + d) / (v1 * 4294967296 + v0) := by omega
      rw [← this]
theorem knuth_first (v1 v0 d u : Nat) (hv1 : 2147483648 ≤ v1) (hv0 : v0 < 4294967296) (hd : d < 4294967296) (hu : u < v1 * 4294967296 + v0) :
    u / v1 * v1 + u % v1 = u ∧ u / v1 ≤ 4294967297 ∧ u % v1 < v1 ∧ (u * 4294967296 + d) / (v1 * 4294967296 + v0) ≤ u / v1 := by
  have h0 : 0 < v1 := by omega
  refine ⟨by rw [Nat.mul_comm]; exact Nat.div_add_mod u v1, ?_, Nat.mod_lt _ h0, ?_⟩
  · have : u / v1 < 4294967298 := by
      rw [Nat.div_lt_iff_lt_mul h0]; omega
    omega
  · have h1 := Nat.div_add_mod u v1
    have h2 := Nat.mod_lt u h0
    have : (u * 4294967296 + d) / (v1 * 4294967296 + v0) < u / v1 + 1 := by
      rw [Nat.div_lt_iff_lt_mul (by omega)]
      have e : (u / v1 + 1) * (v1 * 4294967296 + v0) = (v1 * (u / v1)) * 4294967296 + v1 * 4294967296 + (u / v1 + 1) * v0 := by
        rw [Nat.mul_add, Nat.add_mul, ← Nat.mul_assoc, Nat.mul_comm (u / v1) v1]; omega
      omega
    omega

theorem and32n (x : Nat) (hx : x < 18446744073709551616) : bAnd .u64 (x : Int) 4294967295 = ((x % 4294967296 : Nat) : Int) := and32 x hx
theorem wrap3 (u d P R : Nat) (h : P + R = u * 4294967296 + d) (hR : R < 18446744073709551616) : IntKind.u64.wrap (IntKind.u64.wrap (IntKind.u64.wrap ((u : Int) * 4294967296) + (d : Int)) - IntKind.u64.wrap (P : Int)) = (R : Int) := by
  rw [wrapU, wrapU, wrapU, wrapU]
  omega
theorem wrap2 (q x : Nat) (hq : q < 4294967296) (hx : x < 4294967296) : IntKind.u64.wrap (IntKind.u64.wrap ((q : Int) * 4294967296) + (x : Int)) = ((q * 4294967296 + x : Nat) : Int) := by
  rw [wrapU, wrapU]
  omega
noncomputable def kl4 (Y d : Nat) : Int × Int → Option ((Int × Int) ⊕ Int) :=
  fun (q12, rhat4) =>
    bif ((decide ((4294967296 : Int) ≤ q12)) || (decide ((IntKind.u64.wrap ((IntKind.u64.wrap ((4294967296 : Int) * rhat4)) + (d : Int))) < (IntKind.u64.wrap (q12 * ((Y % 4294967296 : Nat) : Int)))))) then
      bindV (IntKind.u64.wrap (rhat4 + ((Y / 4294967296 : Nat) : Int))) fun rhat5 =>
      bif (decide ((4294967296 : Int) ≤ rhat5)) then
        some (.inr (IntKind.u64.wrap (q12 - (1 : Int))))
      else
        some (.inl ((IntKind.u64.wrap (q12 - (1 : Int))), rhat5))
    else
      some (.inr q12)
noncomputable def kl2 (Y d : Nat) : Int × Int → Option ((Int × Int) ⊕ Int) :=
  fun (rhat2, q02) =>
    bif ((decide ((4294967296 : Int) ≤ q02)) || (decide ((IntKind.u64.wrap ((IntKind.u64.wrap ((4294967296 : Int) * rhat2)) + (d : Int))) < (IntKind.u64.wrap (q02 * ((Y % 4294967296 : Nat) : Int)))))) then
      bindV (IntKind.u64.wrap (rhat2 + ((Y / 4294967296 : Nat) : Int))) fun rhat3 =>
      bif (decide ((4294967296 : Int) ≤ rhat3)) then
        some (.inr (IntKind.u64.wrap (q02 - (1 : Int))))
      else
        some (.inl (rhat3, (IntKind.u64.wrap (q02 - (1 : Int)))))
    else
      some (.inr q02)
theorem Div64_eq (hi lo y : Nat) (hh : hi < y) (hl : lo < 18446744073709551616) (hy : y < 18446744073709551616) : bits_Div64 (hi : Int) (lo : Int) (y : Int) = some ((((hi * 18446744073709551616 + lo) / y : Nat) : Int), (((hi * 18446744073709551616 + lo) % y : Nat) : Int)) := by
  have hy0 : 0 < y := by omega
  by_cases h0 : hi = 0
  · subst h0
    have := Div64_0 lo y hl hy0
    simpa using this
  unfold bits_Div64 bits_Div64_j6 bits_Div64_j5
  rw [show ((y : Int) == 0) = false by simp; omega, cond_false, show decide ((y : Int) ≤ (hi : Int)) = false by simp only [decide_eq_false_iff_not]; omega, cond_false, show ((hi : Int) == 0) = false by simp; omega, cond_false]
  obtain ⟨s, hs, e1, n1, n2⟩ := Lead_eq y hy0 hy
  rw [e1, some_bind]
  rw [wrapU_nat s (by omega), wrapU_id (n := (64 : Int) - (s : Int)) (by omega) (by omega), req_pos (by omega), req_pos (by omega)]
  have hsp := Nat.two_pow_pos s
  have hB : 2 ^ (64 - s) * 2 ^ s = 18446744073709551616 := by rw [← Nat.pow_add, show 64 - s + s = 64 by omega]
  -- the divisor, shifted
  have ey : bShl .u64 (y : Int) (s : Int) = ((y * 2 ^ s : Nat) : Int) := by rw [shlN y s (by omega), Nat.mod_eq_of_lt n2]
  -- the dividend, shifted
  have hhs : hi * 2 ^ s + 2 ^ s ≤ y * 2 ^ s := by
    have := Nat.mul_le_mul_right (2 ^ s) (show hi + 1 ≤ y by omega)
    rw [Nat.add_mul, Nat.one_mul] at this; exact this
  have hlo : lo / 2 ^ (64 - s) < 2 ^ s := by
    rw [Nat.div_lt_iff_lt_mul (Nat.two_pow_pos _), Nat.mul_comm, hB]; exact hl
  have eu : bOr .u64 (bShl .u64 (hi : Int) (s : Int)) (bShr .u64 (lo : Int) ((64 : Int) - (s : Int))) = ((hi * 2 ^ s + lo / 2 ^ (64 - s) : Nat) : Int) := by
    rw [shlN hi s (by omega), Nat.mod_eq_of_lt (by omega), shr_lit lo (64 - s) _ (by omega) (by omega)]
    unfold bOr
    have := Nat.two_pow_add_eq_or_of_lt (i := s) (b := lo / 2 ^ (64 - s)) hlo hi
    rw [Nat.mul_comm _ hi] at this
    rw [BitVec.toNat_or, ofU _ (by omega), ofU _ (by omega), ← this, wrapU_id (by omega) (by omega)]
  have el : bShl .u64 (lo : Int) (s : Int) = ((lo * 2 ^ s % 18446744073709551616 : Nat) : Int) := shlN lo s (by omega)
  have hU : (hi * 18446744073709551616 + lo) * 2 ^ s = (hi * 2 ^ s + lo / 2 ^ (64 - s)) * 18446744073709551616 + lo * 2 ^ s % 18446744073709551616 := by
    have h1 : lo * 2 ^ s / 18446744073709551616 = lo / 2 ^ (64 - s) := by
      rw [← hB, Nat.mul_div_mul_right _ _ hsp]
    have h2 := Nat.div_add_mod (lo * 2 ^ s) 18446744073709551616
    rw [h1] at h2
    rw [Nat.add_mul, Nat.add_mul, Nat.mul_right_comm]; omega
  have hMy : (hi * 18446744073709551616 + lo) / y = (hi * 18446744073709551616 + lo) * 2 ^ s / (y * 2 ^ s) := (Nat.mul_div_mul_right _ _ hsp).symm
  have hMm : (hi * 18446744073709551616 + lo) % y = (hi * 18446744073709551616 + lo) * 2 ^ s % (y * 2 ^ s) / 2 ^ s := by
    rw [Nat.mul_mod_mul_right, Nat.mul_div_cancel _ hsp]
  rw [hMy, hMm, hU]
  have hun : hi * 2 ^ s + lo / 2 ^ (64 - s) < y * 2 ^ s := by omega
  have hul : lo * 2 ^ s % 18446744073709551616 < 18446744073709551616 := Nat.mod_lt _ (by omega)
  unfold bits_Div64_j3 bits_Div64_j1 bindV
  dsimp only
  have fl4 : bits_Div64_l4 (lo : Int) (y : Int) (s : Int) = kl4 (y * 2 ^ s) (lo * 2 ^ s % 18446744073709551616 / 4294967296) := by
    funext ⟨q, r⟩
    simp only [bits_Div64_l4, kl4]
    rw [wrapU_nat s (by omega), ey, el, shr32, shr32, and32 _ n2]
  have fl2 : bits_Div64_l2 (lo : Int) (y : Int) (s : Int) = kl2 (y * 2 ^ s) (lo * 2 ^ s % 18446744073709551616 % 4294967296) := by
    funext ⟨r, q⟩
    simp only [bits_Div64_l2, kl2]
    rw [wrapU_nat s (by omega), ey, el, shr32, and32 _ n2, and32 _ hul]
  rw [fl4, fl2, req_pos (by omega)]
  simp only [wrapU_nat s (by omega)]
  rw [ey, eu, el]
  simp only [shr32]
  rw [and32 _ hul]
  generalize hYdef : y * 2 ^ s = Y at *
  generalize hUdef : hi * 2 ^ s + lo / 2 ^ (64 - s) = u at *
  generalize hLdef : lo * 2 ^ s % 18446744073709551616 = l at *
  have hv1 : 2147483648 ≤ Y / 4294967296 := by omega
  have hv1' : Y / 4294967296 < 4294967296 := by omega
  have hv0 : Y % 4294967296 < 4294967296 := by omega
  have hYe : Y / 4294967296 * 4294967296 + Y % 4294967296 = Y := by omega
  rw [req_pos (by omega)]
  have step : ∀ (d q r : Nat), d < 4294967296 → q ≤ 4294967297 → r < 4294967296 →
      (((decide ((4294967296 : Int) ≤ (q : Int))) || (decide ((IntKind.u64.wrap ((IntKind.u64.wrap ((4294967296 : Int) * (r : Int))) + (d : Int))) < (IntKind.u64.wrap ((q : Int) * ((Y % 4294967296 : Nat) : Int)))))) = decide (4294967296 ≤ q ∨ 4294967296 * r + d < q * (Y % 4294967296))) ∧ IntKind.u64.wrap ((r : Int) + ((Y / 4294967296 : Nat) : Int)) = ((r + Y / 4294967296 : Nat) : Int) := by
    intro d q r hd hq hr
    have hm : q * (Y % 4294967296) ≤ 4294967297 * 4294967295 := Nat.mul_le_mul hq (by omega)
    have e1 : (q : Int) * ((Y % 4294967296 : Nat) : Int) = ((q * (Y % 4294967296) : Nat) : Int) := by rw [Int.natCast_mul]
    rw [e1, wrapU_id (n := (4294967296 : Int) * (r : Int)) (by omega) (by omega), wrapU_id (n := (4294967296 : Int) * (r : Int) + (d : Int)) (by omega) (by omega), wrapU_id (n := ((q * (Y % 4294967296) : Nat) : Int)) (by omega) (by omega), wrapU_id (n := (r : Int) + ((Y / 4294967296 : Nat) : Int)) (by omega) (by omega)]
    refine ⟨?_, by omega⟩
    rw [Bool.eq_iff_iff]
    simp only [Bool.or_eq_true, decide_eq_true_eq]
    omega
  -- the first digit
  obtain ⟨f1, f2, f3, f4⟩ := knuth_first (Y / 4294967296) (Y % 4294967296) (l / 4294967296) u hv1 hv0 (by omega) (by omega)
  have k1 := knuth (f := kl4 Y (l / 4294967296)) (fun q r => ((q : Int), (r : Int))) (Y / 4294967296) (Y % 4294967296) (l / 4294967296) u hv1 hv1' hv0 (by omega) (by omega) (by
    intro q r hq hr
    obtain ⟨s1, s2⟩ := step (l / 4294967296) q r (by omega) hq hr
    simp only [kl4]
    rw [s1, s2]
    unfold bindV
    dsimp only
    by_cases hc : 4294967296 ≤ q ∨ 4294967296 * r + l / 4294967296 < q * (Y % 4294967296)
    · rw [if_pos hc, show decide (4294967296 ≤ q ∨ 4294967296 * r + l / 4294967296 < q * (Y % 4294967296)) = true by simpa using hc, cond_true]
      have hq1 : 1 ≤ q := by
        rcases hc with hc | hc
        · omega
        · rcases Nat.eq_zero_or_pos q with h | h
          · subst h; omega
          · exact h
      rw [wrapU_id (n := (q : Int) - 1) (by omega) (by omega), show (q : Int) - 1 = ((q - 1 : Nat) : Int) by omega]
      by_cases hd : 4294967296 ≤ r + Y / 4294967296
      · rw [if_pos hd, show decide ((4294967296 : Int) ≤ ((r + Y / 4294967296 : Nat) : Int)) = true by simp only [decide_eq_true_eq]; omega, cond_true]
      · rw [if_neg hd, show decide ((4294967296 : Int) ≤ ((r + Y / 4294967296 : Nat) : Int)) = false by simp only [decide_eq_false_iff_not]; omega, cond_false]
    · rw [if_neg hc, show decide (4294967296 ≤ q ∨ 4294967296 * r + l / 4294967296 < q * (Y % 4294967296)) = false by simpa using hc, cond_false]) (u / (Y / 4294967296)) (u % (Y / 4294967296)) f1 f2 (by omega) f4
  rw [hYe] at k1
  have hQ1 : (u * 4294967296 + l / 4294967296) / Y < 4294967296 := by
    rw [Nat.div_lt_iff_lt_mul (by omega)]; omega
  have r1 := Nat.div_add_mod (u * 4294967296 + l / 4294967296) Y
  have r1' := Nat.mod_lt (u * 4294967296 + l / 4294967296) (show 0 < Y by omega)
  have eq1 : IntKind.u64.wrap (Int.tdiv (u : Int) ((Y / 4294967296 : Nat) : Int)) = ((u / (Y / 4294967296) : Nat) : Int) := by rw [tdiv_nat, wrapU_nat _ (by omega)]
  have er1 : IntKind.u64.wrap ((u : Int) - IntKind.u64.wrap (((u / (Y / 4294967296) : Nat) : Int) * ((Y / 4294967296 : Nat) : Int))) = ((u % (Y / 4294967296) : Nat) : Int) := by
    rw [← Int.natCast_mul, wrapU_nat _ (by omega), wrapU_id (by omega) (by omega)]; omega
  try dsimp only at k1
  rw [eq1, er1, k1, some_bind]
  -- what is left of the first digit
  have e21 : IntKind.u64.wrap (IntKind.u64.wrap (IntKind.u64.wrap ((u : Int) * 4294967296) + ((l / 4294967296 : Nat) : Int)) - IntKind.u64.wrap ((((u * 4294967296 + l / 4294967296) / Y : Nat) : Int) * (Y : Int))) = (((u * 4294967296 + l / 4294967296) % Y : Nat) : Int) := by
    rw [← Int.natCast_mul, Nat.mul_comm _ Y]
    exact wrap3 u (l / 4294967296) _ _ r1 (by omega)
  rw [e21, req_pos (by omega)]
  obtain ⟨R1, hR1⟩ : ∃ R1, (u * 4294967296 + l / 4294967296) % Y = R1 := ⟨_, rfl⟩
  obtain ⟨Q1, hQ1d⟩ : ∃ Q1, (u * 4294967296 + l / 4294967296) / Y = Q1 := ⟨_, rfl⟩
  rw [hR1, hQ1d] at r1
  rw [hR1] at r1'
  rw [hQ1d] at hQ1
  rw [hR1, hQ1d]
  clear k1 e21 f1 f2 f3 f4 eq1 er1
  -- the second digit
  obtain ⟨g1, g2, g3, g4⟩ := knuth_first (Y / 4294967296) (Y % 4294967296) (l % 4294967296) R1 hv1 hv0 (by omega) (by omega)
  have k2 := knuth (f := kl2 Y (l % 4294967296)) (fun q r => ((r : Int), (q : Int))) (Y / 4294967296) (Y % 4294967296) (l % 4294967296) R1 hv1 hv1' hv0 (by omega) (by omega) (by
    intro q r hq hr
    obtain ⟨s1, s2⟩ := step (l % 4294967296) q r (by omega) hq hr
    simp only [kl2]
    rw [s1, s2]
    unfold bindV
    dsimp only
    by_cases hc : 4294967296 ≤ q ∨ 4294967296 * r + l % 4294967296 < q * (Y % 4294967296)
    · rw [if_pos hc, show decide (4294967296 ≤ q ∨ 4294967296 * r + l % 4294967296 < q * (Y % 4294967296)) = true by simpa using hc, cond_true]
      have hq1 : 1 ≤ q := by
        rcases hc with hc | hc
        · omega
        · rcases Nat.eq_zero_or_pos q with h | h
          · subst h; omega
          · exact h
      rw [wrapU_id (n := (q : Int) - 1) (by omega) (by omega), show (q : Int) - 1 = ((q - 1 : Nat) : Int) by omega]
      by_cases hd : 4294967296 ≤ r + Y / 4294967296
      · rw [if_pos hd, show decide ((4294967296 : Int) ≤ ((r + Y / 4294967296 : Nat) : Int)) = true by simp only [decide_eq_true_eq]; omega, cond_true]
      · rw [if_neg hd, show decide ((4294967296 : Int) ≤ ((r + Y / 4294967296 : Nat) : Int)) = false by simp only [decide_eq_false_iff_not]; omega, cond_false]
    · rw [if_neg hc, show decide (4294967296 ≤ q ∨ 4294967296 * r + l % 4294967296 < q * (Y % 4294967296)) = false by simpa using hc, cond_false]) (R1 / (Y / 4294967296)) (R1 % (Y / 4294967296)) g1 g2 (by omega) g4
  rw [hYe] at k2
  have hQ2 : (R1 * 4294967296 + l % 4294967296) / Y < 4294967296 := by
    rw [Nat.div_lt_iff_lt_mul (by omega)]; omega
  have r2 := Nat.div_add_mod (R1 * 4294967296 + l % 4294967296) Y
  have r2' := Nat.mod_lt (R1 * 4294967296 + l % 4294967296) (show 0 < Y by omega)
  have eq2 : IntKind.u64.wrap (Int.tdiv (R1 : Int) ((Y / 4294967296 : Nat) : Int)) = ((R1 / (Y / 4294967296) : Nat) : Int) := by rw [tdiv_nat, wrapU_nat _ (by omega)]
  have er2 : IntKind.u64.wrap ((R1 : Int) - IntKind.u64.wrap (((R1 / (Y / 4294967296) : Nat) : Int) * ((Y / 4294967296 : Nat) : Int))) = ((R1 % (Y / 4294967296) : Nat) : Int) := by
    rw [← Int.natCast_mul, wrapU_nat _ (by omega), wrapU_id (by omega) (by omega)]; omega
  try dsimp only at k2
  rw [eq2, er2, k2, some_bind]
  have e22 : IntKind.u64.wrap (IntKind.u64.wrap (IntKind.u64.wrap ((R1 : Int) * 4294967296) + ((l % 4294967296 : Nat) : Int)) - IntKind.u64.wrap ((((R1 * 4294967296 + l % 4294967296) / Y : Nat) : Int) * (Y : Int))) = (((R1 * 4294967296 + l % 4294967296) % Y : Nat) : Int) := by
    rw [← Int.natCast_mul, Nat.mul_comm _ Y]
    exact wrap3 R1 (l % 4294967296) _ _ r2 (by omega)
  rw [req_pos (by omega), e22, shrN _ s (by omega)]
  -- together
  have hfin := (Nat.div_mod_unique (a := u * 18446744073709551616 + l) (b := Y) (c := (R1 * 4294967296 + l % 4294967296) % Y) (d := Q1 * 4294967296 + (R1 * 4294967296 + l % 4294967296) / Y) (by omega)).2 ⟨by
    rw [Nat.mul_add, ← Nat.mul_assoc]; omega, r2'⟩
  rw [hfin.1, hfin.2, wrap2 _ _ hQ1 hQ2]
abbrev WW (n : Nat) : ratio_wide := ⟨hiW n, loW n⟩
theorem rem_core (hi lo d : Nat) (hd : 0 < d) : (hi * 18446744073709551616 + lo) % d = (hi % d * 18446744073709551616 + lo) % d := by
  have h := Nat.div_add_mod hi d
  conv => lhs; rw [← h]
  rw [Nat.add_mul, Nat.mul_assoc, Nat.add_assoc, Nat.mul_add_mod]
theorem quo_core (hi lo d : Nat) (hd : 0 < d) : (hi * 18446744073709551616 + lo) / d = hi / d * 18446744073709551616 + (hi % d * 18446744073709551616 + lo) / d := by
  have h := Nat.div_add_mod hi d
  conv => lhs; rw [← h]
  rw [Nat.add_mul, Nat.mul_assoc, Nat.add_assoc, Nat.mul_add_div hd]
theorem modW (n d : Nat) (hn : n < 340282366920938463463374607431768211456) (hd : 0 < d) (hd2 : d < 18446744073709551616) : ratio_wide_mod (WW n) (d : Int) = some ((n % d : Nat) : Int) := by
  unfold ratio_wide_mod bits_Rem64
  dsimp only [WW]
  rw [req_pos (by omega), tmod_nat, Div64_eq _ _ d (Nat.mod_lt _ hd) (by omega) hd2]
  simp only [Option.bind]
  rw [← rem_core _ _ d hd, show n / 18446744073709551616 * 18446744073709551616 + n % 18446744073709551616 = n by omega]
theorem overW (n d : Nat) (hn : n < 340282366920938463463374607431768211456) (hd : 0 < d) (hd2 : d < 18446744073709551616) : ratio_wide_over (WW n) (d : Int) = some (WW (n / d)) := by
  unfold ratio_wide_over
  dsimp only [WW]
  have h1 := Nat.div_le_self (n / 18446744073709551616) d
  rw [req_pos (by omega), tmod_nat, tdiv_nat, Div64_eq _ _ d (Nat.mod_lt _ hd) (by omega) hd2, wrapU_nat _ (by omega)]
  simp only [Option.bind]
  have e := quo_core (n / 18446744073709551616) (n % 18446744073709551616) d hd
  rw [show n / 18446744073709551616 * 18446744073709551616 + n % 18446744073709551616 = n by omega] at e
  have hlt : (n / 18446744073709551616 % d * 18446744073709551616 + n % 18446744073709551616) / d < 18446744073709551616 := by
    rw [Nat.div_lt_iff_lt_mul hd]
    have := Nat.mod_lt (n / 18446744073709551616) hd
    have h2 : n / 18446744073709551616 % d * 18446744073709551616 + 18446744073709551616 ≤ 18446744073709551616 * d := by omega
    omega
  rw [e]
  generalize (n / 18446744073709551616 % d * 18446744073709551616 + n % 18446744073709551616) / d = x at *
  generalize n / 18446744073709551616 / d = z at *
  simp only [Option.some.injEq, hiW, loW, ratio_wide.mk.injEq]
  constructor <;> omega
theorem plusW (m n : Nat) (h : m + n < 340282366920938463463374607431768211456) : ratio_wide_plus (WW m) (WW n) = some (WW (m + n)) := by
  unfold ratio_wide_plus bits_Add64
  dsimp only [WW, hiW, loW]
  rw [req_pos (by omega)]
  simp only [Option.bind]
  rw [req_pos (by omega)]
  simp only [Option.some.injEq, ratio_wide.mk.injEq]
  constructor <;> omega
theorem minusW (m n : Nat) (h : n ≤ m) (hm : m < 340282366920938463463374607431768211456) : ratio_wide_minus (WW m) (WW n) = some (WW (m - n)) := by
  unfold ratio_wide_minus bits_Sub64
  dsimp only [WW, hiW, loW]
  rw [req_pos (by omega)]
  simp only [Option.bind]
  by_cases hlt : ((m % 18446744073709551616 : Nat) : Int) < ((n % 18446744073709551616 : Nat) : Int) + 0
  · rw [if_pos hlt, req_pos (by omega)]
    simp only [Option.some.injEq, ratio_wide.mk.injEq]
    constructor <;> omega
  · rw [if_neg hlt, req_pos (by omega)]
    simp only [Option.some.injEq, ratio_wide.mk.injEq]
    constructor <;> omega
def addS (x : Bool) (m : Nat) (y : Bool) (n : Nat) : Bool × Nat := if x = y then (x, m + n) else if n ≤ m then (x, m - n) else (y, n - m)
theorem addS_le (x : Bool) (m : Nat) (y : Bool) (n : Nat) : (addS x m y n).2 ≤ m + n := by
  unfold addS; (repeat' split) <;> simp <;> omega
theorem addS_val (x : Bool) (m : Nat) (y : Bool) (n : Nat) : sv (addS x m y n).1 (addS x m y n).2 = sv x m + sv y n := by
  unfold addS
  split
  · rename_i h; subst h; cases x <;> simp [sv] <;> omega
  · rename_i h
    have hy : y = !x := by cases x <;> cases y <;> simp_all
    subst hy
    split <;> cases x <;> simp [sv] <;> omega
theorem addS_scale (x : Bool) (m : Nat) (y : Bool) (n g : Nat) (hg : 0 < g) : addS x (m * g) y (n * g) = ((addS x m y n).1, (addS x m y n).2 * g) := by
  unfold addS
  split
  · rw [Nat.add_mul]
  · by_cases h : n ≤ m
    · rw [if_pos h, if_pos (Nat.mul_le_mul_right g h), Nat.sub_mul]
    · rw [if_neg h, if_neg (fun h2 => h (Nat.le_of_mul_le_mul_right h2 hg)), Nat.sub_mul]
theorem cmpI_le (m n : Nat) : decide ((0 : Int) ≤ cmpI m n) = decide (n ≤ m) := by
  unfold cmpI
  rw [Bool.eq_iff_iff]
  simp only [decide_eq_true_eq]
  split
  · omega
  · split <;> omega
theorem plusS (x : Bool) (m : Nat) (y : Bool) (n : Nat) (h : m + n < 340282366920938463463374607431768211456) :
    ratio_signed_plus ⟨x, WW m⟩ ⟨y, WW n⟩ = some ⟨(addS x m y n).1, WW (addS x m y n).2⟩ := by
  unfold ratio_signed_plus addS
  dsimp only
  by_cases hxy : x = y
  · subst hxy
    rw [if_pos rfl, show (x == x) = true by simp, cond_true, plusW m n h]
    rfl
  · rw [if_neg hxy, show (x == y) = false by simpa using hxy, cond_false]
    have hc : ratio_wide_compare (WW m) (WW n) = some (cmpI m n) := wideCmp m n
    rw [hc, some_bind, cmpI_le]
    by_cases hmn : n ≤ m
    · rw [if_pos hmn, show decide (n ≤ m) = true by simpa using hmn, cond_true, minusW m n hmn (by omega)]; rfl
    · rw [if_neg hmn, show decide (n ≤ m) = false by simpa using hmn, cond_false, minusW n m (by omega) (by omega)]; rfl
theorem addS_cop (x : Bool) (m : Nat) (y : Bool) (n d : Nat) (hm : Nat.Coprime m d) (hn : d ∣ n) : Nat.Coprime (addS x m y n).2 d := by
  have key : ∀ k, Nat.gcd k d ∣ m → Nat.Coprime k d := fun k hk => by
    have := Nat.dvd_gcd hk (Nat.gcd_dvd_right k d)
    rw [hm] at this
    exact Nat.dvd_one.1 this
  apply key
  have h1 := Nat.gcd_dvd_left (addS x m y n).2 d
  have h2 : Nat.gcd (addS x m y n).2 d ∣ n := Nat.dvd_trans (Nat.gcd_dvd_right _ d) hn
  have h3 : (addS x m y n).2 = m + n ∨ (addS x m y n).2 + n = m ∨ (addS x m y n).2 + m = n := by
    unfold addS; (repeat' split) <;> simp <;> omega
  generalize (addS x m y n).2 = k at *
  generalize Nat.gcd k d = g at *
  rcases h3 with h3 | h3 | h3
  · rw [h3] at h1
    exact (Nat.dvd_add_iff_left h2).2 h1
  · have := Nat.dvd_add h1 h2
    rwa [h3] at this
  · rw [← h3] at h2
    exact (Nat.dvd_add_iff_right h1).2 h2
theorem addS_swap (x : Bool) (m : Nat) (y : Bool) (n : Nat) : (addS x m y n).2 = (addS y n x m).2 := by
  unfold addS
  by_cases h : x = y
  · subst h; simp; omega
  · have h' : ¬ y = x := fun e => h e.symm
    simp only [if_neg h, if_neg h']
    split <;> split <;> simp <;> omega
def addOf2 (a b : api_Ratio) : api_Ratio × Int :=
  if vR a = true ∧ vR b = true then redOf (addS (decide (a.Num < 0)) (a.Num.natAbs * b.Den.natAbs) (decide (b.Num < 0)) (b.Num.natAbs * a.Den.natAbs)).1 (addS (decide (a.Num < 0)) (a.Num.natAbs * b.Den.natAbs) (decide (b.Num < 0)) (b.Num.natAbs * a.Den.natAbs)).2 (a.Den.natAbs * b.Den.natAbs) else (⟨0, 0⟩, 1)
theorem add_lowest (x y : Bool) (na nb da db : Nat) (ha : Nat.gcd na da = 1) (hb : Nat.gcd nb db = 1) (h1 : 0 < da) (h2 : 0 < db) :
    redOf (addS x (na * db) y (nb * da)).1 (addS x (na * db) y (nb * da)).2 (da * db) =
      fitOf (addS x (na * (db / Nat.gcd da db)) y (nb * (da / Nat.gcd da db))).1 ((addS x (na * (db / Nat.gcd da db)) y (nb * (da / Nat.gcd da db))).2 / Nat.gcd (addS x (na * (db / Nat.gcd da db)) y (nb * (da / Nat.gcd da db))).2 (Nat.gcd da db))
        (da / Nat.gcd da db * (db / Nat.gcd (addS x (na * (db / Nat.gcd da db)) y (nb * (da / Nat.gcd da db))).2 (Nat.gcd da db))) := by
  have hg : 0 < Nat.gcd da db := Nat.gcd_pos_of_pos_left _ h1
  have ea := Nat.div_mul_cancel (Nat.gcd_dvd_left da db)
  have eb := Nat.div_mul_cancel (Nat.gcd_dvd_right da db)
  have hcop : Nat.Coprime (da / Nat.gcd da db) (db / Nat.gcd da db) := Nat.coprime_div_gcd_div_gcd hg
  generalize Nat.gcd da db = g at *
  generalize hd1 : da / g = d1 at *
  generalize hd2 : db / g = d2 at *
  have hs : addS x (na * db) y (nb * da) = ((addS x (na * d2) y (nb * d1)).1, (addS x (na * d2) y (nb * d1)).2 * g) := by
    rw [← addS_scale _ _ _ _ _ hg, Nat.mul_assoc, Nat.mul_assoc, ea, eb]
  rw [hs]
  have c1 : Nat.Coprime (addS x (na * d2) y (nb * d1)).2 d1 := addS_cop _ _ _ _ _ (Nat.Coprime.mul_left (Nat.Coprime.coprime_dvd_right ⟨g, ea.symm⟩ ha) hcop.symm) ⟨nb, Nat.mul_comm _ _⟩
  have c2 : Nat.Coprime (addS x (na * d2) y (nb * d1)).2 d2 := by
    rw [addS_swap]
    exact addS_cop _ _ _ _ _ (Nat.Coprime.mul_left (Nat.Coprime.coprime_dvd_right ⟨g, eb.symm⟩ hb) hcop) ⟨na, Nat.mul_comm _ _⟩
  generalize addS x (na * d2) y (nb * d1) = sk at *
  obtain ⟨s, k⟩ := sk
  dsimp only at *
  have hc : 0 < Nat.gcd k g := Nat.gcd_pos_of_pos_right _ hg
  have ek := Nat.div_mul_cancel (Nat.gcd_dvd_left k g)
  have eg := Nat.div_mul_cancel (Nat.gcd_dvd_right k g)
  have hcg : Nat.Coprime (k / Nat.gcd k g) (g / Nat.gcd k g) := Nat.coprime_div_gcd_div_gcd hc
  generalize Nat.gcd k g = c at *
  have hdb : db / c = d2 * (g / c) := by
    rw [← eb]
    conv => lhs; rw [← eg]
    rw [← Nat.mul_assoc, Nat.mul_div_cancel _ hc]
  rw [hdb]
  have hkk : k / c ∣ k := ⟨c, ek.symm⟩
  refine red_unique s _ _ _ _ (g * c) (Nat.mul_pos hg hc) ?_ ?_ ?_
  · conv => lhs; rw [← ek]
    rw [Nat.mul_assoc, Nat.mul_comm c g]
  · rw [← ea, ← eb]
    have : d1 * (d2 * (g / c)) * (g * c) = d1 * g * (d2 * (g / c * c)) := by
      simp only [Nat.mul_assoc, Nat.mul_left_comm, Nat.mul_comm]
    rw [this, eg]
  · exact (Nat.Coprime.mul_right (c1.coprime_dvd_left hkk) ((c2.coprime_dvd_left hkk).mul_right hcg))
theorem Add_eq (a b : api_Ratio) : ratio_Add a b = some (addOf2 a b) := by
  unfold ratio_Add addOf2
  rw [Valid_eq, Valid_eq]
  simp only [Option.bind]
  rw [req_pos (by intro _; rfl)]
  simp only [Option.getD_some]
  cases ha : vR a with
  | false => simp
  | true =>
    cases hb : vR b with
    | false => simp
    | true =>
      have va := vn_of ha
      have vb := vn_of hb
      simp only [Bool.not_true, Bool.or_self, cond_false, and_self, if_true]
      have n1 := va.n1; have n2 := vb.n1; have d1 := va.d1; have d2 := vb.d1; have d3 := va.d0; have d4 := vb.d0
      have hg : 0 < Nat.gcd a.Den.natAbs b.Den.natAbs := Nat.gcd_pos_of_pos_left _ va.d0
      have hg2 : Nat.gcd a.Den.natAbs b.Den.natAbs ≤ a.Den.natAbs := Nat.gcd_le_left _ va.d0
      have q3 := Nat.div_le_self a.Den.natAbs (Nat.gcd a.Den.natAbs b.Den.natAbs)
      have q4 := Nat.div_le_self b.Den.natAbs (Nat.gcd a.Den.natAbs b.Den.natAbs)
      rw [wrapU_den va, wrapU_den vb, gcd_eq]
      simp only
      rw [req_pos (by omega)]
      simp only [tdiv_nat]
      rw [wrapU_nat _ (by omega), wrapU_nat _ (by omega), signedProduct_eq _ _ va.i1 (by omega)]
      simp only
      rw [req_pos (by omega), signedProduct_eq _ _ vb.i1 (by omega)]
      simp only
      have m1 := mul_lt n1 (show b.Den.natAbs / Nat.gcd a.Den.natAbs b.Den.natAbs ≤ 1152921504606846976 by omega)
      have m2 := mul_lt n2 (show a.Den.natAbs / Nat.gcd a.Den.natAbs b.Den.natAbs ≤ 1152921504606846976 by omega)
      have hp := plusS (decide (a.Num < 0)) (a.Num.natAbs * (b.Den.natAbs / Nat.gcd a.Den.natAbs b.Den.natAbs)) (decide (b.Num < 0)) (b.Num.natAbs * (a.Den.natAbs / Nat.gcd a.Den.natAbs b.Den.natAbs)) (by omega)
      have hle := addS_le (decide (a.Num < 0)) (a.Num.natAbs * (b.Den.natAbs / Nat.gcd a.Den.natAbs b.Den.natAbs)) (decide (b.Num < 0)) (b.Num.natAbs * (a.Den.natAbs / Nat.gcd a.Den.natAbs b.Den.natAbs))
      rw [hp]
      simp only
      rw [add_lowest _ _ _ _ _ _ va.cop vb.cop va.d0 vb.d0]
      generalize addS (decide (a.Num < 0)) (a.Num.natAbs * (b.Den.natAbs / Nat.gcd a.Den.natAbs b.Den.natAbs)) (decide (b.Num < 0)) (b.Num.natAbs * (a.Den.natAbs / Nat.gcd a.Den.natAbs b.Den.natAbs)) = sk at *
      obtain ⟨s, k⟩ := sk
      dsimp only at *
      rw [modW k _ (by omega) hg (by omega)]
      simp only
      rw [gcd_eq, show Nat.gcd (k % Nat.gcd a.Den.natAbs b.Den.natAbs) (Nat.gcd a.Den.natAbs b.Den.natAbs) = Nat.gcd k (Nat.gcd a.Den.natAbs b.Den.natAbs) by rw [Nat.gcd_comm, Nat.gcd_comm k, Nat.gcd_rec (Nat.gcd a.Den.natAbs b.Den.natAbs) k, Nat.gcd_comm]]
      simp only
      have hc : 0 < Nat.gcd k (Nat.gcd a.Den.natAbs b.Den.natAbs) := Nat.gcd_pos_of_pos_right _ hg
      have hc2 : Nat.gcd k (Nat.gcd a.Den.natAbs b.Den.natAbs) ≤ Nat.gcd a.Den.natAbs b.Den.natAbs := Nat.gcd_le_right _ hg
      have q5 := Nat.div_le_self b.Den.natAbs (Nat.gcd k (Nat.gcd a.Den.natAbs b.Den.natAbs))
      rw [overW k _ (by omega) hc (by omega)]
      simp only
      rw [req_pos (by omega), tdiv_nat, wrapU_nat _ (by omega), product_eq _ _ (by omega) (by omega)]
      simp only
      rw [fittedW]
def subOf (a b : api_Ratio) : api_Ratio × Int := if vR a = true ∧ vR b = true then addOf2 a ⟨-b.Num, b.Den⟩ else (⟨0, 0⟩, 1)
theorem neg_wrap {b : api_Ratio} (h : vR b = true) : IntKind.i64.wrap (0 - b.Num) = -b.Num := by
  have := (vn_of h).n1
  rw [wrap64 (by omega) (by omega)]; omega
theorem Sub_eq (a b : api_Ratio) : ratio_Sub a b = some (subOf a b) := by
  unfold ratio_Sub subOf
  rw [Valid_eq, Valid_eq]
  simp only [Option.bind]
  rw [req_pos (by intro _; rfl)]
  simp only [Option.getD_some]
  cases ha : vR a with
  | false => simp
  | true =>
    cases hb : vR b with
    | false => simp
    | true =>
      simp only [Bool.not_true, Bool.or_self, cond_false, and_self, if_true]
      rw [neg_wrap hb, Add_eq]
def rg (k : Nat) : List Int := (List.range k).map fun (j : Nat) => (j : Int)
theorem rg_succ (k : Nat) : rg (k + 1) = rg k ++ [(k : Int)] := by simp [rg, List.range_succ]
theorem mem_rg {k : Nat} {x : Int} : x ∈ rg k ↔ 0 ≤ x ∧ x < k := by
  simp only [rg, List.mem_map, List.mem_range]
  constructor
  · rintro ⟨a, h, rfl⟩; omega
  · rintro ⟨h1, h2⟩; exact ⟨x.toNat, by omega, by omega⟩
theorem map_rg {α : Type} [Inhabited α] (l : List α) : (rg l.length).map (ix l) = l := by
  apply List.ext_getElem
  · simp [rg]
  · intro i h1 h2
    simp [rg]
    exact ix_nat l i h2
theorem ins_perm (a : Int) (l : List Int) (y : Nat) : ((([] : List Int) ++ List.take y l) ++ [a] ++ List.drop y l).Perm (l ++ [a]) := by
  have h := List.perm_middle (a := a) (l₁ := List.take y l) (l₂ := List.drop y l)
  rw [List.take_append_drop] at h
  simp only [List.nil_append, List.append_assoc, List.singleton_append]
  refine h.trans ?_
  exact (List.perm_append_singleton a l).symm
theorem WR_small (x : Nat) (h : x < 18446744073709551616) : WR x = ⟨0, (x : Int)⟩ := by
  simp only [WR, ref01_Wide.mk.injEq]; omega
theorem WW_small (x : Nat) (h : x < 18446744073709551616) : WW x = ⟨0, (x : Int)⟩ := by
  simp only [WW, hiW, loW, ratio_wide.mk.injEq]; omega
theorem over60 (x : Nat) : (decide ((0 : Int) < (WR x).Hi) || decide ((1152921504606846976 : Int) < (WR x).Lo)) = decide (1152921504606846976 < x) := by
  have e1 : (WR x).Hi = ((x / 18446744073709551616 : Nat) : Int) := rfl
  have e2 : (WR x).Lo = ((x % 18446744073709551616 : Nat) : Int) := rfl
  rw [e1, e2, Bool.eq_iff_iff]
  simp only [Bool.or_eq_true, decide_eq_true_eq]
  omega
theorem reducedW (neg : Bool) (n d : Nat) (hn : n < 340282366920938463463374607431768211456) (hd : 0 < d) (hd2 : d < 18446744073709551616) : ratio_reduced ⟨neg, WW n⟩ (d : Int) = some (redOf neg n d) := by
  have hg : 0 < Nat.gcd n d := Nat.gcd_pos_of_pos_right _ hd
  have hg2 : Nat.gcd n d ≤ d := Nat.gcd_le_right _ hd
  have h2 := Nat.div_le_self d (Nat.gcd n d)
  unfold ratio_reduced redOf
  dsimp only
  rw [modW n d hn hd hd2, some_bind, gcd_eq, some_bind, show Nat.gcd (n % d) d = Nat.gcd n d by rw [Nat.gcd_comm, Nat.gcd_comm n, Nat.gcd_rec d n, Nat.gcd_comm], overW n _ hn hg (by omega), some_bind, req_pos (by omega), tdiv_nat, wrapU_nat _ (by omega)]
  have e : (⟨(0 : Int), ((d / Nat.gcd n d : Nat) : Int)⟩ : ratio_wide) = WW (d / Nat.gcd n d) := (WW_small _ (by omega)).symm
  rw [e, fittedW]
  rfl
abbrev MX : Nat := 1152921504606846976
def lcmF : List api_Ratio → Nat → Option Nat
  | [], c => some c
  | a :: l, c => if Nat.lcm c a.Den.natAbs ≤ 1152921504606846976 then lcmF l (Nat.lcm c a.Den.natAbs) else none
def sumF (C : Nat) (l : List api_Ratio) (p : Bool × Nat) : Bool × Nat := l.foldl (fun p a => addS p.1 p.2 (decide (a.Num < 0)) (a.Num.natAbs * (C / a.Den.natAbs))) p
def sumOf (l : List api_Ratio) : api_Ratio × Int :=
  if 100 < l.length then (⟨0, 0⟩, 3)
  else if (l.all fun a => vR a) = true then (match lcmF l 1 with | some C => redOf (sumF C l (false, 0)).1 (sumF C l (false, 0)).2 C | none => (⟨0, 0⟩, 6))
  else (⟨0, 0⟩, 1)
theorem lcm_mul (c d : Nat) : c * (d / Nat.gcd c d) = Nat.lcm c d := by
  unfold Nat.lcm
  rw [Nat.mul_div_assoc _ (Nat.gcd_dvd_right c d)]
theorem drop_cons {α : Type} (l : List α) (k : Nat) (h : k < l.length) : l.drop k = l[k] :: l.drop (k + 1) := List.drop_eq_getElem_cons h
theorem lcm_pos' {c d : Nat} (hc : 0 < c) (hd : 0 < d) : 0 < Nat.lcm c d := Nat.lcm_pos hc hd
theorem lcmF_pos : ∀ (l : List api_Ratio) (c C : Nat), 0 < c → c ≤ MX → (∀ a ∈ l, vR a = true) → lcmF l c = some C → 0 < C ∧ C ≤ MX ∧ c ∣ C ∧ ∀ a ∈ l, a.Den.natAbs ∣ C
  | [], c, C, h0, h1, _, h => by
    simp only [lcmF, Option.some.injEq] at h
    subst h
    exact ⟨h0, h1, Nat.dvd_refl c, by simp⟩
  | a :: l, c, C, h0, h1, hv, h => by
    simp only [lcmF] at h
    split at h
    · rename_i hle
      obtain ⟨g1, g2, g3, g4⟩ := lcmF_pos l _ C (lcm_pos' h0 (vn_of (hv a (by simp))).d0) hle (fun x hx => hv x (by simp [hx])) h
      refine ⟨g1, g2, Nat.dvd_trans (Nat.dvd_lcm_left _ _) g3, fun x hx => ?_⟩
      rcases List.mem_cons.1 hx with rfl | hx
      · exact Nat.dvd_trans (Nat.dvd_lcm_right _ _) g3
      · exact g4 x hx
    · cases h
theorem term_le {a : api_Ratio} (va : VN a) {C : Nat} (hC : C ≤ MX) : a.Num.natAbs * (C / a.Den.natAbs) ≤ 1329227995784915872903807060280344576 :=
  mul_lt va.n1 (Nat.le_trans (Nat.div_le_self _ _) hC)
theorem red_zero (neg : Bool) (C : Nat) : redOf neg 0 C = redOf false 0 C := by
  unfold redOf fitOf
  cases neg <;> simp
theorem all_valid {l : List api_Ratio} (h : (l.all fun a => vR a) = true) : ∀ a ∈ l, vR a = true := List.all_eq_true.1 h
theorem newOf_ok' (a N : Int) (h1 : -1152921504606846976 ≤ a) (h2 : a ≤ 1152921504606846976) (h3 : 0 < N) (h4 : N ≤ 1152921504606846976) : ∃ r, newOf a N = (r, 0) ∧ vR r = true ∧ r.Num * N = a * r.Den ∧ 0 < r.Den := by
  unfold newOf
  rw [if_neg (by omega)]
  have e : ∃ r, redOf (!(decide (a < 0) == decide (N < 0))) a.natAbs N.natAbs = (r, 0) := by
    unfold redOf fitOf
    have k1 := Nat.div_le_self a.natAbs (Nat.gcd a.natAbs N.natAbs)
    have k2 := Nat.div_le_self N.natAbs (Nat.gcd a.natAbs N.natAbs)
    rw [if_pos ⟨by omega, by omega⟩]
    exact ⟨_, rfl⟩
  obtain ⟨r, hr⟩ := e
  obtain ⟨g1, g2, g3⟩ := redOf_val _ _ _ (by omega) r hr
  refine ⟨r, hr, g1, ?_, g3⟩
  rw [show ((N.natAbs : Nat) : Int) = N by omega] at g2
  rw [g2]
  congr 1
  unfold sv
  rw [show decide (N < 0) = false by simp; omega]
  by_cases h : a < 0
  · simp [h]; omega
  · simp [h]; omega
theorem tSmall (t : make_Tape) (h : TOK t) : ∃ a t', make_Tape_Small t = some (a, t') ∧ TOK t' ∧ vR a = true ∧ ∃ n d : Int, -30 ≤ n ∧ n ≤ 30 ∧ 1 ≤ d ∧ d ≤ 12 ∧ newOf n d = (a, 0) ∧ a.Num * d = n * a.Den := by
  unfold make_Tape_Small
  obtain ⟨x, t1, e1, ht1, x1, x2⟩ := range_ok t (-30) 30 h (by decide) (by decide) (by decide)
  rw [e1, some_bind]
  obtain ⟨y, t2, e2, ht2, y1, y2⟩ := range_ok t1 1 12 ht1 (by decide) (by decide) (by decide)
  dsimp only
  rw [e2, some_bind]
  dsimp only
  rw [NewR_eq x y ⟨by omega, by omega⟩ ⟨by omega, by omega⟩, some_bind]
  obtain ⟨r, h1, h2, h3, _⟩ := newOf_ok' x y (by omega) (by omega) (by omega) (by omega)
  rw [h1]
  exact ⟨r, t2, rfl, ht2, h2, x, y, x1, x2, y1, y2, h1, h3⟩
def lcmL : List api_Ratio → Nat
  | [] => 1
  | a :: l => Nat.lcm a.Den.natAbs (lcmL l)
theorem lcmL_pos : ∀ (l : List api_Ratio), (∀ a ∈ l, vR a = true) → 0 < lcmL l
  | [], _ => by simp [lcmL]
  | a :: l, h => lcm_pos' (vn_of (h a (by simp))).d0 (lcmL_pos l fun x hx => h x (by simp [hx]))
theorem lcmF_eq : ∀ (l : List api_Ratio) (c : Nat), 0 < c → c ≤ MX → (∀ a ∈ l, vR a = true) → lcmF l c = if Nat.lcm c (lcmL l) ≤ MX then some (Nat.lcm c (lcmL l)) else none
  | [], c, h0, h1, _ => by simp [lcmF, lcmL, h1]
  | a :: l, c, h0, h1, hv => by
    have hd := (vn_of (hv a (by simp))).d0
    have hv' : ∀ x ∈ l, vR x = true := fun x hx => hv x (by simp [hx])
    have eL : Nat.lcm c (lcmL (a :: l)) = Nat.lcm (Nat.lcm c a.Den.natAbs) (lcmL l) := (Nat.lcm_assoc _ _ _).symm
    rw [eL]
    simp only [lcmF]
    by_cases hc : Nat.lcm c a.Den.natAbs ≤ 1152921504606846976
    · rw [if_pos hc]
      exact lcmF_eq l _ (lcm_pos' h0 hd) hc hv'
    · rw [if_neg hc]
      have h2 : Nat.lcm c a.Den.natAbs ≤ Nat.lcm (Nat.lcm c a.Den.natAbs) (lcmL l) := Nat.le_of_dvd (lcm_pos' (lcm_pos' h0 hd) (lcmL_pos l hv')) (Nat.dvd_lcm_left _ _)
      rw [if_neg (by unfold MX; omega)]
theorem lcmL_perm {l m : List api_Ratio} (h : l.Perm m) : lcmL l = lcmL m := by
  induction h with
  | nil => rfl
  | cons x _ ih => simp only [lcmL, ih]
  | swap x y l => simp only [lcmL]; rw [← Nat.lcm_assoc, ← Nat.lcm_assoc, Nat.lcm_comm y.Den.natAbs]
  | trans _ _ ih1 ih2 => exact ih1.trans ih2
def sumT (C : Nat) : List api_Ratio → Int
  | [] => 0
  | a :: l => a.Num * ((C / a.Den.natAbs : Nat) : Int) + sumT C l
theorem sumT_perm (C : Nat) {l m : List api_Ratio} (h : l.Perm m) : sumT C l = sumT C m := by
  induction h with
  | nil => rfl
  | cons x _ ih => simp only [sumT, ih]
  | swap x y l => simp only [sumT]; omega
  | trans _ _ ih1 ih2 => exact ih1.trans ih2
theorem sv_num (a : Int) (n : Nat) : sv (decide (a < 0)) (a.natAbs * n) = a * (n : Int) := by
  unfold sv
  by_cases h : a < 0
  · rw [if_pos (by simpa using h), Int.natCast_mul, show ((a.natAbs : Nat) : Int) = -a by omega, Int.neg_mul, Int.neg_neg]
  · rw [if_neg (by simpa using h), Int.natCast_mul, show ((a.natAbs : Nat) : Int) = a by omega]
theorem sumF_val (C : Nat) : ∀ (l : List api_Ratio) (p : Bool × Nat), sv (sumF C l p).1 (sumF C l p).2 = sv p.1 p.2 + sumT C l
  | [], p => by simp [sumF, sumT]
  | a :: l, p => by
    have := sumF_val C l (addS p.1 p.2 (decide (a.Num < 0)) (a.Num.natAbs * (C / a.Den.natAbs)))
    rw [addS_val, sv_num] at this
    simp only [sumT]
    show sv (sumF C l (addS p.1 p.2 (decide (a.Num < 0)) (a.Num.natAbs * (C / a.Den.natAbs)))).1 _ = _
    rw [show sumF C (a :: l) p = sumF C l (addS p.1 p.2 (decide (a.Num < 0)) (a.Num.natAbs * (C / a.Den.natAbs))) from rfl, this]
    omega
def redV (v : Int) (C : Nat) : api_Ratio × Int := redOf (decide (v < 0)) v.natAbs C
theorem red_val (s : Bool) (k C : Nat) : redOf s k C = redV (sv s k) C := by
  unfold redV sv
  cases s with
  | false => simp [show ¬ ((k : Int) < 0) by omega]
  | true =>
    rcases Nat.eq_zero_or_pos k with h | h
    · subst h; simp; exact red_zero true C
    · simp [h]
theorem sumOf_eq (l : List api_Ratio) : sumOf l = if 100 < l.length then (⟨0, 0⟩, 3) else if (l.all fun a => vR a) = true then (if lcmL l ≤ MX then redV (sumT (lcmL l) l) (lcmL l) else (⟨0, 0⟩, 6)) else (⟨0, 0⟩, 1) := by
  unfold sumOf
  split
  · rfl
  · split
    · rename_i h1 h2
      rw [lcmF_eq l 1 (by omega) (by decide) (all_valid h2), show Nat.lcm 1 (lcmL l) = lcmL l by simp [Nat.lcm]]
      by_cases hc : lcmL l ≤ MX
      · rw [if_pos hc, if_pos hc]
        dsimp only
        rw [red_val, sumF_val]
        simp [sv]
      · rw [if_neg hc, if_neg hc]
    · rfl
theorem sumOf_perm {l m : List api_Ratio} (h : l.Perm m) : sumOf l = sumOf m := by
  rw [sumOf_eq, sumOf_eq, h.length_eq, h.all_eq, lcmL_perm h, sumT_perm _ h]
theorem foldl_snoc {α β : Type} (f : β → α) : ∀ (l : List β) (b : List α), l.foldl (fun b n => b ++ [f n]) b = b ++ l.map f
  | [], b => by simp
  | x :: l, b => by simp [foldl_snoc f l]
theorem cmpI_neg (x y : Int) : cmpI x y = -cmpI y x := by
  unfold cmpI; (repeat' split) <;> omega
theorem cmpI_zero (x y : Int) : cmpI x y = 0 ↔ x = y := by
  unfold cmpI; (repeat' split) <;> omega
theorem cmpI_nonpos (x y : Int) : cmpI x y ≤ 0 ↔ x ≤ y := by
  unfold cmpI; (repeat' split) <;> omega
theorem cmpI_pos (x y : Int) : 0 < cmpI x y ↔ y < x := by
  unfold cmpI; (repeat' split) <;> omega
theorem cmpI_mul' (x y c : Int) (h : 0 < c) : cmpI (x * c) (y * c) = cmpI x y := by
  unfold cmpI
  have e1 : x * c < y * c ↔ x < y := ⟨fun hh => Int.lt_of_mul_lt_mul_right hh (by omega), fun hh => Int.mul_lt_mul_of_pos_right hh h⟩
  have e2 : y * c < x * c ↔ y < x := ⟨fun hh => Int.lt_of_mul_lt_mul_right hh (by omega), fun hh => Int.mul_lt_mul_of_pos_right hh h⟩
  simp only [e1, e2]
theorem cmpI_shift (x y z : Int) : cmpI (x + z) (y + z) = cmpI x y := by
  unfold cmpI
  simp only [show x + z < y + z ↔ x < y by omega, show y + z < x + z ↔ y < x by omega]
theorem cmpR_v {a b : api_Ratio} (ha : vR a = true) (hb : vR b = true) : cmpR a b = cmpI (a.Num * b.Den) (b.Num * a.Den) := by unfold cmpR; rw [if_pos ⟨ha, hb⟩]
theorem lowest_eq {a b : api_Ratio} (ha : vR a = true) (hb : vR b = true) (h : a.Num * b.Den = b.Num * a.Den) : a = b := by
  have va := vn_of ha
  have vb := vn_of hb
  have hn : a.Num.natAbs * b.Den.natAbs = b.Num.natAbs * a.Den.natAbs := by
    rw [← Int.natAbs_mul, ← Int.natAbs_mul, h]
  have d1 : a.Den.natAbs ∣ b.Den.natAbs := Nat.Coprime.dvd_of_dvd_mul_left (Nat.Coprime.symm va.cop) ⟨b.Num.natAbs, by rw [hn, Nat.mul_comm]⟩
  have d2 : b.Den.natAbs ∣ a.Den.natAbs := Nat.Coprime.dvd_of_dvd_mul_left (Nat.Coprime.symm vb.cop) ⟨a.Num.natAbs, by rw [← hn, Nat.mul_comm]⟩
  have hd := Nat.dvd_antisymm d1 d2
  have hD : a.Den = b.Den := by rw [← va.de, ← vb.de, hd]
  have h0 : a.Den ≠ 0 := by have := va.d0; omega
  rw [← hD] at h
  have hN := Int.eq_of_mul_eq_mul_right h0 h
  cases a; cases b
  simp_all
theorem cmpR_trans {a b c : api_Ratio} (ha : vR a = true) (hb : vR b = true) (hc : vR c = true) (h1 : cmpR a b ≤ 0) (h2 : cmpR b c ≤ 0) : cmpR a c ≤ 0 := by
  rw [cmpR_v ha hb, cmpI_nonpos] at h1
  rw [cmpR_v hb hc, cmpI_nonpos] at h2
  rw [cmpR_v ha hc, cmpI_nonpos]
  have da := (vd_of ha).d0; have db := (vd_of hb).d0; have dc := (vd_of hc).d0
  have k1 := Int.mul_le_mul_of_nonneg_right h1 (show 0 ≤ c.Den by omega)
  have k2 := Int.mul_le_mul_of_nonneg_right h2 (show 0 ≤ a.Den by omega)
  have k3 : a.Num * c.Den * b.Den ≤ c.Num * a.Den * b.Den := by
    have e1 : a.Num * c.Den * b.Den = a.Num * b.Den * c.Den := by rw [Int.mul_right_comm]
    have e2 : c.Num * a.Den * b.Den = c.Num * b.Den * a.Den := by rw [Int.mul_right_comm]
    have e3 : b.Num * a.Den * c.Den = b.Num * c.Den * a.Den := by rw [Int.mul_right_comm]
    omega
  exact Int.le_of_mul_le_mul_right k3 (by omega)
theorem addOf2_val {a b x : api_Ratio} (ha : vR a = true) (hb : vR b = true) (h : addOf2 a b = (x, 0)) : vR x = true ∧ x.Num * (a.Den * b.Den) = (a.Num * b.Den + b.Num * a.Den) * x.Den ∧ 0 < x.Den := by
  have va := vn_of ha
  have vb := vn_of hb
  unfold addOf2 at h
  rw [if_pos ⟨ha, hb⟩] at h
  obtain ⟨g1, g2, g3⟩ := redOf_val _ _ _ (Nat.mul_pos va.d0 vb.d0) x h
  refine ⟨g1, ?_, g3⟩
  rw [addS_val, sv_num, sv_num, Int.natCast_mul, va.de, vb.de] at g2
  exact g2
theorem cmpR_add {a b c x y : api_Ratio} (ha : vR a = true) (hb : vR b = true) (hc : vR c = true) (hx : addOf2 a c = (x, 0)) (hy : addOf2 b c = (y, 0)) : cmpR x y = cmpR a b := by
  obtain ⟨x1, x2, x3⟩ := addOf2_val ha hc hx
  obtain ⟨y1, y2, y3⟩ := addOf2_val hb hc hy
  have da := (vd_of ha).d0; have db := (vd_of hb).d0; have dc := (vd_of hc).d0
  rw [cmpR_v x1 y1, cmpR_v ha hb]
  have hD : 0 < a.Den * c.Den * (b.Den * c.Den) := Int.mul_pos (Int.mul_pos (by omega) (by omega)) (Int.mul_pos (by omega) (by omega))
  have hE : 0 < x.Den * y.Den := Int.mul_pos x3 y3
  have hF : 0 < c.Den * c.Den := Int.mul_pos (by omega) (by omega)
  rw [← cmpI_mul' _ _ _ hD]
  have e1 : x.Num * y.Den * (a.Den * c.Den * (b.Den * c.Den)) = (a.Num * b.Den * (c.Den * c.Den) + c.Num * a.Den * b.Den * c.Den) * (x.Den * y.Den) := by
    have : x.Num * y.Den * (a.Den * c.Den * (b.Den * c.Den)) = x.Num * (a.Den * c.Den) * (y.Den * (b.Den * c.Den)) := by grind
    rw [this, x2]; grind
  have e2 : y.Num * x.Den * (a.Den * c.Den * (b.Den * c.Den)) = (b.Num * a.Den * (c.Den * c.Den) + c.Num * a.Den * b.Den * c.Den) * (x.Den * y.Den) := by
    have : y.Num * x.Den * (a.Den * c.Den * (b.Den * c.Den)) = y.Num * (b.Den * c.Den) * (x.Den * (a.Den * c.Den)) := by grind
    rw [this, y2]; grind
  rw [e1, e2, cmpI_mul' _ _ _ hE, cmpI_shift, cmpI_mul' _ _ _ hF]
theorem cmpR_anti (a b : api_Ratio) : cmpR a b = -cmpR b a := by
  unfold cmpR
  by_cases h : vR a = true ∧ vR b = true
  · rw [if_pos h, if_pos h.symm]; exact cmpI_neg _ _
  · rw [if_neg h, if_neg (fun h2 => h h2.symm)]; rfl
structure ValB (a : api_Ratio) (P Q : Int) (N D : Nat) : Prop where
  v : vR a = true
  q : 0 < Q
  e : a.Num * Q = P * a.Den
  bn : P.natAbs ≤ N
  bd : Q.natAbs ≤ D
theorem ValB.le {a : api_Ratio} {P Q : Int} {N D : Nat} (h : ValB a P Q N D) : a.Num.natAbs ≤ N ∧ a.Den.natAbs ≤ D := by
  have va := vn_of h.v
  have hn : a.Num.natAbs * Q.natAbs = P.natAbs * a.Den.natAbs := by rw [← Int.natAbs_mul, ← Int.natAbs_mul, h.e]
  obtain ⟨k, hk⟩ : a.Den.natAbs ∣ Q.natAbs := Nat.Coprime.dvd_of_dvd_mul_left (Nat.Coprime.symm va.cop) ⟨P.natAbs, by rw [hn, Nat.mul_comm]⟩
  have hq := h.q
  have hk0 : 0 < k := by
    rcases Nat.eq_zero_or_pos k with h0 | h0
    · rw [h0, Nat.mul_zero] at hk; omega
    · exact h0
  have hb := h.bd
  have hb2 := h.bn
  constructor
  · have : a.Num.natAbs * k = P.natAbs := by
      have h2 : a.Num.natAbs * k * a.Den.natAbs = P.natAbs * a.Den.natAbs := by rw [← hn, hk, Nat.mul_assoc, Nat.mul_comm k]
      exact Nat.eq_of_mul_eq_mul_right va.d0 h2
    have := Nat.le_mul_of_pos_right a.Num.natAbs hk0
    omega
  · have := Nat.le_mul_of_pos_right a.Den.natAbs hk0
    omega
theorem ValB.eq {x y : api_Ratio} {P Q P' Q' : Int} {N D N' D' : Nat} (hx : ValB x P Q N D) (hy : ValB y P' Q' N' D') (h : P * Q' = P' * Q) : x = y := by
  refine lowest_eq hx.v hy.v ?_
  have hQ := hx.q; have hQ' := hy.q
  have e1 := hx.e; have e2 := hy.e
  have : x.Num * y.Den * (Q * Q') = y.Num * x.Den * (Q * Q') := by
    have a1 : x.Num * y.Den * (Q * Q') = x.Num * Q * (y.Den * Q') := by grind
    have a2 : y.Num * x.Den * (Q * Q') = y.Num * Q' * (x.Den * Q) := by grind
    rw [a1, a2, e1, e2]
    have a3 : P * x.Den * (y.Den * Q') = P * Q' * (x.Den * y.Den) := by grind
    have a4 : P' * y.Den * (x.Den * Q) = P' * Q * (x.Den * y.Den) := by grind
    rw [a3, a4, h]
  exact Int.eq_of_mul_eq_mul_right (by have := Int.mul_pos hQ hQ'; omega) this
theorem fit_ok (neg : Bool) (n d : Nat) (hn : n ≤ MX) (hd : d ≤ MX) : ∃ x, redOf neg n d = (x, 0) := by
  unfold redOf fitOf
  have k1 := Nat.div_le_self n (Nat.gcd n d)
  have k2 := Nat.div_le_self d (Nat.gcd n d)
  unfold MX at hn hd
  rw [if_pos ⟨by omega, by omega⟩]
  exact ⟨_, rfl⟩
theorem natAbs_lin (P1 Q1 P2 Q2 : Int) (N1 D1 N2 D2 : Nat) (h1 : P1.natAbs ≤ N1) (h2 : Q1.natAbs ≤ D1) (h3 : P2.natAbs ≤ N2) (h4 : Q2.natAbs ≤ D2) : (P1 * Q2 + P2 * Q1).natAbs ≤ N1 * D2 + N2 * D1 := by
  have a1 := Int.natAbs_add_le (P1 * Q2) (P2 * Q1)
  rw [Int.natAbs_mul, Int.natAbs_mul] at a1
  have a2 := Nat.mul_le_mul h1 h4
  have a3 := Nat.mul_le_mul h3 h2
  omega
theorem add_go {a b : api_Ratio} {P1 Q1 P2 Q2 : Int} {N1 D1 N2 D2 : Nat} (ha : ValB a P1 Q1 N1 D1) (hb : ValB b P2 Q2 N2 D2) (h1 : N1 * D2 + N2 * D1 ≤ MX) (h2 : D1 * D2 ≤ MX) :
    ∃ x, addOf2 a b = (x, 0) ∧ ValB x (P1 * Q2 + P2 * Q1) (Q1 * Q2) (N1 * D2 + N2 * D1) (D1 * D2) := by
  have va := vn_of ha.v
  have vb := vn_of hb.v
  obtain ⟨la, da⟩ := ha.le
  obtain ⟨lb, db⟩ := hb.le
  have hx : ∃ x, addOf2 a b = (x, 0) := by
    unfold addOf2
    rw [if_pos ⟨ha.v, hb.v⟩]
    have hle := addS_le (decide (a.Num < 0)) (a.Num.natAbs * b.Den.natAbs) (decide (b.Num < 0)) (b.Num.natAbs * a.Den.natAbs)
    have k1 := Nat.mul_le_mul la db
    have k2 := Nat.mul_le_mul lb da
    have k3 := Nat.mul_le_mul da db
    exact fit_ok _ _ _ (by omega) (by omega)
  obtain ⟨x, hx⟩ := hx
  obtain ⟨g1, g2, g3⟩ := addOf2_val ha.v hb.v hx
  refine ⟨x, hx, g1, Int.mul_pos ha.q hb.q, ?_, natAbs_lin _ _ _ _ _ _ _ _ ha.bn ha.bd hb.bn hb.bd, by rw [Int.natAbs_mul]; exact Nat.mul_le_mul ha.bd hb.bd⟩
  have hab : a.Den * b.Den ≠ 0 := by
    have := Int.mul_pos (show 0 < a.Den by have := (vd_of ha.v).d0; omega) (show 0 < b.Den by have := (vd_of hb.v).d0; omega)
    omega
  refine Int.eq_of_mul_eq_mul_right hab ?_
  have e1 := ha.e; have e2 := hb.e
  have a1 : x.Num * (Q1 * Q2) * (a.Den * b.Den) = x.Num * (a.Den * b.Den) * (Q1 * Q2) := by grind
  rw [a1, g2]
  have a2 : (a.Num * b.Den + b.Num * a.Den) * x.Den * (Q1 * Q2) = (a.Num * Q1 * (b.Den * Q2) + b.Num * Q2 * (a.Den * Q1)) * x.Den := by grind
  rw [a2, e1, e2]
  grind
theorem mulOf_val {a b x : api_Ratio} (ha : vR a = true) (hb : vR b = true) (h : mulOf a b = (x, 0)) : vR x = true ∧ x.Num * (a.Den * b.Den) = a.Num * b.Num * x.Den ∧ 0 < x.Den := by
  have va := vn_of ha
  have vb := vn_of hb
  unfold mulOf at h
  rw [if_pos ⟨ha, hb⟩] at h
  obtain ⟨g1, g2, g3⟩ := redOf_val _ _ _ (Nat.mul_pos va.d0 vb.d0) x h
  refine ⟨g1, ?_, g3⟩
  rw [Int.natCast_mul, va.de, vb.de] at g2
  rw [g2]
  congr 1
  unfold sv sgn
  rw [Int.natCast_mul]
  by_cases h1 : a.Num < 0 <;> by_cases h2 : b.Num < 0
  · simp [h1, h2]; rw [show ((a.Num.natAbs : Nat) : Int) = -a.Num by omega, show ((b.Num.natAbs : Nat) : Int) = -b.Num by omega, Int.neg_mul_neg]
  · simp [h1, h2]; rw [show ((a.Num.natAbs : Nat) : Int) = -a.Num by omega, show ((b.Num.natAbs : Nat) : Int) = b.Num by omega, Int.neg_mul, Int.neg_neg]
  · simp [h1, h2]; rw [show ((a.Num.natAbs : Nat) : Int) = a.Num by omega, show ((b.Num.natAbs : Nat) : Int) = -b.Num by omega, Int.mul_neg, Int.neg_neg]
  · simp [h1, h2]; rw [show ((a.Num.natAbs : Nat) : Int) = a.Num by omega, show ((b.Num.natAbs : Nat) : Int) = b.Num by omega]
theorem mul_go {a b : api_Ratio} {P1 Q1 P2 Q2 : Int} {N1 D1 N2 D2 : Nat} (ha : ValB a P1 Q1 N1 D1) (hb : ValB b P2 Q2 N2 D2) (h1 : N1 * N2 ≤ MX) (h2 : D1 * D2 ≤ MX) :
    ∃ x, mulOf a b = (x, 0) ∧ ValB x (P1 * P2) (Q1 * Q2) (N1 * N2) (D1 * D2) := by
  have va := vn_of ha.v
  have vb := vn_of hb.v
  obtain ⟨la, da⟩ := ha.le
  obtain ⟨lb, db⟩ := hb.le
  have hx : ∃ x, mulOf a b = (x, 0) := by
    unfold mulOf
    rw [if_pos ⟨ha.v, hb.v⟩]
    have k1 := Nat.mul_le_mul la lb
    have k3 := Nat.mul_le_mul da db
    exact fit_ok _ _ _ (by omega) (by omega)
  obtain ⟨x, hx⟩ := hx
  obtain ⟨g1, g2, g3⟩ := mulOf_val ha.v hb.v hx
  refine ⟨x, hx, g1, Int.mul_pos ha.q hb.q, ?_, by rw [Int.natAbs_mul]; exact Nat.mul_le_mul ha.bn hb.bn, by rw [Int.natAbs_mul]; exact Nat.mul_le_mul ha.bd hb.bd⟩
  have hab : a.Den * b.Den ≠ 0 := by
    have := Int.mul_pos (show 0 < a.Den by have := (vd_of ha.v).d0; omega) (show 0 < b.Den by have := (vd_of hb.v).d0; omega)
    omega
  refine Int.eq_of_mul_eq_mul_right hab ?_
  have e1 := ha.e; have e2 := hb.e
  have a1 : x.Num * (Q1 * Q2) * (a.Den * b.Den) = x.Num * (a.Den * b.Den) * (Q1 * Q2) := by grind
  rw [a1, g2]
  have a2 : a.Num * b.Num * x.Den * (Q1 * Q2) = a.Num * Q1 * (b.Num * Q2) * x.Den := by grind
  rw [a2, e1, e2]
  grind
theorem neg_v {b : api_Ratio} (h : vR b = true) : vR ⟨-b.Num, b.Den⟩ = true := by
  rw [vR_iff] at h ⊢
  obtain ⟨h1, h2, h3, h4, h5⟩ := h
  refine ⟨h1, h2, by show _ ≤ -b.Num; omega, by show -b.Num ≤ _; omega, ?_⟩
  show Nat.gcd (-b.Num).natAbs _ = 1
  rw [Int.natAbs_neg]; exact h5
theorem neg_go {b : api_Ratio} {P Q : Int} {N D : Nat} (h : ValB b P Q N D) : ValB ⟨-b.Num, b.Den⟩ (-P) Q N D :=
  ⟨neg_v h.v, h.q, by show -b.Num * Q = -P * b.Den; rw [Int.neg_mul, h.e, Int.neg_mul], by rw [Int.natAbs_neg]; exact h.bn, h.bd⟩
theorem sub_go {a b : api_Ratio} {P1 Q1 P2 Q2 : Int} {N1 D1 N2 D2 : Nat} (ha : ValB a P1 Q1 N1 D1) (hb : ValB b P2 Q2 N2 D2) (h1 : N1 * D2 + N2 * D1 ≤ MX) (h2 : D1 * D2 ≤ MX) :
    ∃ x, subOf a b = (x, 0) ∧ ValB x (P1 * Q2 + -P2 * Q1) (Q1 * Q2) (N1 * D2 + N2 * D1) (D1 * D2) := by
  unfold subOf
  rw [if_pos ⟨ha.v, hb.v⟩]
  exact add_go ha (neg_go hb) h1 h2
theorem small_go (t : make_Tape) (h : TOK t) : ∃ a t' n d, make_Tape_Small t = some (a, t') ∧ TOK t' ∧ ValB a n d 30 12 := by
  obtain ⟨a, t', e, ht, hv, n, d, h1, h2, h3, h4, _, h5⟩ := tSmall t h
  exact ⟨a, t', n, d, e, ht, hv, by omega, h5, by omega, by omega⟩
theorem div_back {a b p : api_Ratio} {P1 Q1 P2 Q2 : Int} {N1 D1 N2 D2 : Nat} (ha : ValB a P1 Q1 N1 D1) (hb : ValB b P2 Q2 N2 D2) (hp : ValB p (P1 * P2) (Q1 * Q2) (N1 * N2) (D1 * D2)) (hz : b.Num ≠ 0) (h1 : N1 * N2 * D2 ≤ MX) (h2 : D1 * D2 * N2 ≤ MX) : divOf p b = (a, 0) := by
  have vp := vn_of hp.v
  have vb := vn_of hb.v
  obtain ⟨lp, dp⟩ := hp.le
  obtain ⟨lb, db⟩ := hb.le
  unfold divOf
  rw [if_pos ⟨hp.v, hb.v⟩, if_neg hz]
  obtain ⟨x, hx⟩ := fit_ok (sgn p b) (p.Num.natAbs * b.Den.natAbs) (p.Den.natAbs * b.Num.natAbs) (Nat.le_trans (Nat.mul_le_mul lp db) h1) (Nat.le_trans (Nat.mul_le_mul dp lb) h2)
  rw [hx]
  obtain ⟨g1, g2, g3⟩ := redOf_val _ _ _ (Nat.mul_pos vp.d0 (by omega)) x hx
  have key : x.Num * (p.Den * b.Num) = p.Num * b.Den * x.Den := by
    rw [Int.natCast_mul, vp.de] at g2
    unfold sv sgn at g2
    rw [Int.natCast_mul, vb.de] at g2
    by_cases k1 : p.Num < 0 <;> by_cases k2 : b.Num < 0
    · simp [k1, k2] at g2; rw [show ((b.Num.natAbs : Nat) : Int) = -b.Num by omega, show ((p.Num.natAbs : Nat) : Int) = -p.Num by omega] at g2; grind
    · simp [k1, k2] at g2; rw [show ((b.Num.natAbs : Nat) : Int) = b.Num by omega, show ((p.Num.natAbs : Nat) : Int) = -p.Num by omega] at g2; grind
    · simp [k1, k2] at g2; rw [show ((b.Num.natAbs : Nat) : Int) = -b.Num by omega, show ((p.Num.natAbs : Nat) : Int) = p.Num by omega] at g2; grind
    · simp [k1, k2] at g2; rw [show ((b.Num.natAbs : Nat) : Int) = b.Num by omega, show ((p.Num.natAbs : Nat) : Int) = p.Num by omega] at g2; grind
  have : x = a := by
    refine lowest_eq g1 ha.v ?_
    have ep := hp.e; have ea := ha.e; have eb := hb.e
    have hQ1 := ha.q; have hQ2 := hb.q
    have hbd : 0 < b.Den := by have := (vd_of hb.v).d0; omega
    have hpd : 0 < p.Den := by have := (vd_of hp.v).d0; omega
    have hne : p.Den * b.Num * (b.Den * (Q1 * Q2)) ≠ 0 := by
      refine Int.mul_ne_zero (Int.mul_ne_zero (by omega) hz) (Int.mul_ne_zero (by omega) (Int.mul_ne_zero (by omega) (by omega)))
    refine Int.eq_of_mul_eq_mul_right hne ?_
    have s1 : x.Num * a.Den * (p.Den * b.Num * (b.Den * (Q1 * Q2))) = x.Num * (p.Den * b.Num) * (a.Den * b.Den * (Q1 * Q2)) := by grind
    rw [s1, key]
    have s2 : p.Num * b.Den * x.Den * (a.Den * b.Den * (Q1 * Q2)) = p.Num * (Q1 * Q2) * (b.Den * x.Den * a.Den * b.Den) := by grind
    rw [s2, ep]
    have s3 : P1 * P2 * p.Den * (b.Den * x.Den * a.Den * b.Den) = P1 * a.Den * (P2 * b.Den) * (p.Den * b.Den * x.Den) := by grind
    rw [s3, ← ea, ← eb]
    grind
  rw [this]
theorem new_one (f : Int) (h1 : -1152921504606846976 ≤ f) (h2 : f ≤ 1152921504606846976) : newOf f 1 = (⟨f, 1⟩, 0) := by
  unfold newOf redOf fitOf
  rw [if_neg (by omega)]
  simp only [Int.natAbs_one, Nat.gcd_one_right, Nat.div_one]
  rw [if_pos ⟨by omega, by omega⟩]
  by_cases h : f < 0
  · simp [h]; omega
  · simp [h]; omega
theorem v_one (f : Int) (h1 : -1152921504606846976 ≤ f) (h2 : f ≤ 1152921504606846976) : vR ⟨f, 1⟩ = true := by
  rw [vR_iff]
  exact ⟨by show (1 : Int) ≤ 1; decide, by show (1 : Int) ≤ 1152921504606846976; decide, h1, h2, by simp⟩
theorem fl_neg {a : api_Ratio} (hv : vR a = true) : -flR ⟨-a.Num, a.Den⟩ = ceilR a := by
  have h := vd_of hv
  have h0 := h.d0; have hr := h.rs
  have e := h.eq
  unfold ceilR up
  have ef : flR ⟨-a.Num, a.Den⟩ = (-a.Num) / a.Den := rfl
  rw [ef]
  by_cases hz : 0 < rsR a
  · have := (div_is (n := -a.Num) (d := a.Den) (q := -flR a - 1) (r := a.Den - rsR a) (by omega) (by rw [Int.mul_sub, Int.mul_neg]; omega) (by omega) (by omega)).1
    rw [this]; simp [hz]; omega
  · have := (div_is (n := -a.Num) (d := a.Den) (q := -flR a) (r := 0) (by omega) (by rw [Int.mul_neg]; omega) (by omega) (by omega)).1
    rw [this]; simp [hz]
theorem less_v {a b : api_Ratio} (ha : vR a = true) (hb : vR b = true) : (cmpR a b == -1) = decide (a.Num * b.Den < b.Num * a.Den) := by
  rw [cmpR_v ha hb, Bool.eq_iff_iff]
  simp only [beq_iff_eq, decide_eq_true_eq]
  unfold cmpI
  (repeat' split) <;> omega
theorem sumT_rep (C : Nat) (a : api_Ratio) : ∀ n : Nat, sumT C (List.replicate n a) = (n : Int) * (a.Num * ((C / a.Den.natAbs : Nat) : Int))
  | 0 => by simp [sumT]
  | n + 1 => by
    rw [List.replicate_succ]
    simp only [sumT]
    rw [sumT_rep C a n]
    have : ((n + 1 : Nat) : Int) = (n : Int) + 1 := by omega
    rw [this, Int.add_mul, Int.one_mul]; omega
theorem lcmL_rep (a : api_Ratio) (h : 0 < a.Den.natAbs) : ∀ n : Nat, lcmL (List.replicate (n + 1) a) = a.Den.natAbs
  | 0 => by simp [lcmL, Nat.lcm]
  | n + 1 => by
    rw [List.replicate_succ]
    simp only [lcmL]
    rw [lcmL_rep a h n, Nat.lcm_self]
theorem sx_nat (s : Str) (k : Nat) (h : k < s.length) : sx s (k : Int) = ((s[k].toNat : Nat) : Int) := by
  unfold sx
  rw [Int.toNat_natCast]
  simp [List.getD, h]
def isD (c : UInt8) : Bool := decide (48 ≤ c.toNat ∧ c.toNat ≤ 57)
def valF : List UInt8 → Nat → Nat
  | [], n => n
  | c :: l, n => valF l (n * 10 + (c.toNat - 48))
theorem valF_lt : ∀ (l : List UInt8) (n k : Nat), n < 10 ^ k → (l.all isD) = true → valF l n < 10 ^ (k + l.length)
  | [], n, k, h, _ => h
  | c :: l, n, k, h, ha => by
    simp only [List.all_cons, Bool.and_eq_true] at ha
    have hc : 48 ≤ c.toNat ∧ c.toNat ≤ 57 := by simpa [isD] using ha.1
    have := valF_lt l (n * 10 + (c.toNat - 48)) (k + 1) (by rw [Nat.pow_succ]; omega) ha.2
    rw [List.length_cons, show k + (l.length + 1) = k + 1 + l.length by omega]
    exact this
theorem pow10_le (k : Nat) (h : k ≤ 19) : 10 ^ k ≤ 10000000000000000000 := by
  have := Nat.pow_le_pow_right (show 0 < 10 by omega) h
  simpa using this
theorem dig_loop (s : Str) (hs : s.length ≤ 19) : ∀ (m k n : Nat), s.length - k = m → k ≤ s.length → n < 10 ^ k →
    iter (ratio_digitsOf_l2 s) ((n : Int), (k : Int)) = some (if ((s.drop k).all isD) = true then .inl ((valF (s.drop k) n : Nat) : Int) else .inr ((0 : Int), false)) := by
  intro m
  induction m with
  | zero =>
    intro k n hm hk hn
    have : k = s.length := by omega
    subst this
    rw [List.drop_length]
    refine iter_inr ?_
    simp [ratio_digitsOf_l2, valF]
  | succ m ih =>
    intro k n hm hk hn
    have hk' : k < s.length := by omega
    have hp := pow10_le k (by omega)
    have hp2 := pow10_le (k + 1) (by omega)
    rw [Nat.pow_succ] at hp2
    have hall : (s.drop k).all isD = (isD s[k] && (s.drop (k + 1)).all isD) := by rw [List.drop_eq_getElem_cons hk']; rfl
    have hval : valF (s.drop k) n = valF (s.drop (k + 1)) (n * 10 + (s[k].toNat - 48)) := by rw [List.drop_eq_getElem_cons hk']; rfl
    rw [hall, hval]
    have hf : ratio_digitsOf_l2 s ((n : Int), (k : Int)) = some (if isD s[k] = true then .inl (((n * 10 + (s[k].toNat - 48) : Nat) : Int), ((k + 1 : Nat) : Int)) else .inr (.inr ((0 : Int), false))) := by
      simp only [ratio_digitsOf_l2]
      rw [show decide ((k : Int) < (s.length : Int)) = true by simp; exact hk', cond_true, req_pos ⟨by omega, fun _ => by omega⟩, sx_nat s k hk']
      by_cases hd : isD s[k] = true
      · have hc : 48 ≤ s[k].toNat ∧ s[k].toNat ≤ 57 := by simpa [isD] using hd
        rw [if_pos hd, show (decide (((s[k].toNat : Nat) : Int) < 48) || decide ((57 : Int) < ((s[k].toNat : Nat) : Int))) = false by simp only [Bool.or_eq_false_iff, decide_eq_false_iff_not]; omega, cond_false, req_pos (by omega)]
        have e1 : IntKind.u8.wrap (((s[k].toNat : Nat) : Int) - 48) = ((s[k].toNat - 48 : Nat) : Int) := by
          simp only [IntKind.wrap, IntKind.bits, IntKind.signed]; simp; omega
        unfold bindV
        rw [e1, wrapU_nat _ (by omega), wrapU_id (n := (n : Int) * 10) (by omega) (by omega), wrapU_id (by omega) (by omega), i64_add1 k (by omega), show (n : Int) * 10 + ((s[k].toNat - 48 : Nat) : Int) = ((n * 10 + (s[k].toNat - 48) : Nat) : Int) by omega]
      · have hc : ¬ (48 ≤ s[k].toNat ∧ s[k].toNat ≤ 57) := by simpa [isD] using hd
        rw [if_neg hd, show (decide (((s[k].toNat : Nat) : Int) < 48) || decide ((57 : Int) < ((s[k].toNat : Nat) : Int))) = true by simp only [Bool.or_eq_true, decide_eq_true_eq]; omega, cond_true]
    by_cases hd : isD s[k] = true
    · have hc : 48 ≤ s[k].toNat ∧ s[k].toNat ≤ 57 := by simpa [isD] using hd
      rw [if_pos hd] at hf
      rw [iter_inl hf, ih (k + 1) _ (by omega) (by omega) (by rw [Nat.pow_succ]; omega), hd, Bool.true_and]
    · rw [if_neg hd] at hf
      rw [iter_inr hf, show isD s[k] = false by simpa using hd, Bool.false_and]
      simp
def numOf (s : Str) (most : Nat) : Int × Bool := if (1 ≤ s.length ∧ s.length ≤ most) ∧ (s.all isD) = true then (((valF s 0 : Nat) : Int), true) else (0, false)
theorem digitsOf_eq (s : Str) (most : Nat) (hm : most ≤ 19) : ratio_digitsOf s (most : Int) = some (numOf s most) := by
  unfold ratio_digitsOf numOf
  by_cases hl : 1 ≤ s.length ∧ s.length ≤ most
  · rw [show (decide ((s.length : Int) < 1) || decide ((most : Int) < (s.length : Int))) = false by simp only [Bool.or_eq_false_iff, decide_eq_false_iff_not]; omega, cond_false]
    have := dig_loop s (by omega) s.length 0 0 (by omega) (by omega) (by decide)
    rw [List.drop_zero] at this
    rw [show ((0 : Int), (0 : Int)) = (((0 : Nat) : Int), ((0 : Nat) : Int)) by rfl, this, some_bind]
    by_cases ha : (s.all isD) = true
    · rw [if_pos ha, if_pos ⟨hl, ha⟩]; rfl
    · rw [if_neg ha, if_neg (fun h => ha h.2)]
  · rw [show (decide ((s.length : Int) < 1) || decide ((most : Int) < (s.length : Int))) = true by simp only [Bool.or_eq_true, decide_eq_true_eq]; omega, cond_true, if_neg (fun h => hl h.1)]
theorem numOf_val {s : Str} {most : Nat} (hm : most ≤ 19) (h : (numOf s most).2 = true) : ∃ n : Nat, (numOf s most).1 = (n : Int) ∧ n < 10 ^ s.length ∧ n < 10000000000000000000 ∧ s.length ≤ most := by
  unfold numOf at h ⊢
  split at h
  · rename_i hc
    rw [if_pos hc]
    have := valF_lt s 0 0 (by decide) hc.2
    rw [Nat.zero_add] at this
    have h2 := pow10_le s.length (by omega)
    exact ⟨valF s 0, rfl, this, by omega, hc.1.2⟩
  · cases h
theorem numOf_bad {s : Str} {most : Nat} (k : Nat) (hk : k < s.length) (hd : isD s[k] = false) : (numOf s most).2 = false := by
  unfold numOf
  rw [if_neg]
  rintro ⟨_, ha⟩
  have := List.all_eq_true.1 ha s[k] (List.getElem_mem hk)
  rw [hd] at this; cases this
theorem power_loop (n : Nat) (hn : n ≤ 19) : ∀ (m k : Nat), n - k = m → k ≤ n → iter (ratio_power_l2 (n : Int)) (((10 ^ k : Nat) : Int), (k : Int)) = some (((10 ^ n : Nat)) : Int) := by
  intro m
  induction m with
  | zero =>
    intro k hm hk
    have : k = n := by omega
    subst this
    refine iter_inr ?_
    simp [ratio_power_l2]
  | succ m ih =>
    intro k hm hk
    have hp := pow10_le (k + 1) (by omega)
    have hf : ratio_power_l2 (n : Int) (((10 ^ k : Nat) : Int), (k : Int)) = some (.inl (((10 ^ (k + 1) : Nat) : Int), ((k + 1 : Nat) : Int))) := by
      simp only [ratio_power_l2]
      rw [show decide ((k : Int) < (n : Int)) = true by simp only [decide_eq_true_eq]; omega, cond_true, show ((10 ^ k : Nat) : Int) * 10 = ((10 ^ (k + 1) : Nat) : Int) by rw [Nat.pow_succ, Int.natCast_mul]; rfl, wrapU_nat _ (by omega), i64_add1 k (by omega)]
    rw [iter_inl hf]
    exact ih (k + 1) (by omega) (by omega)
theorem power_eq (n : Nat) (hn : n ≤ 19) : ratio_power (n : Int) = some (((10 ^ n : Nat)) : Int) := by
  unfold ratio_power ratio_power_j1
  have := power_loop n hn n 0 (by omega) (by omega)
  rw [show ((1 : Int), (0 : Int)) = (((10 ^ 0 : Nat) : Int), ((0 : Nat) : Int)) by rfl, this, some_bind]
def isC (c : UInt8) : Bool := c == 47 || c == 46
theorem u8_eq (c : UInt8) (n : Nat) (hn : n < 256) : (((c.toNat : Nat) : Int) == (n : Int)) = (c == UInt8.ofNat n) := by
  rw [Bool.eq_iff_iff]
  simp only [beq_iff_eq]
  constructor
  · intro h
    apply UInt8.toNat_inj.1
    rw [UInt8.toNat_ofNat']
    omega
  · intro h
    rw [h, UInt8.toNat_ofNat']
    omega
theorem cut_loop (s : Str) (hs : s.length < 1000000000) : ∀ (m k : Nat), s.length - k = m → k ≤ s.length → (∀ j (hj : j < s.length), j < k → isC s[j] = false) → iter (ratio_Parse_l2 s) (k : Int) = some ((s.findIdx isC : Nat) : Int) := by
  intro m
  induction m with
  | zero =>
    intro k hm hk hb
    have : k = s.length := by omega
    subst this
    have e : s.findIdx isC = s.length := by
      rw [List.findIdx_eq_length]
      intro x hx
      obtain ⟨j, hj, rfl⟩ := List.getElem_of_mem hx
      exact hb j hj hj
    rw [e]
    refine iter_inr ?_
    simp only [ratio_Parse_l2]
    rw [req_pos ⟨fun h => by simp at h, fun h => by simp at h⟩]
    simp
  | succ m ih =>
    intro k hm hk hb
    have hk' : k < s.length := by omega
    have e47 := u8_eq s[k] 47 (by omega)
    have e46 := u8_eq s[k] 46 (by omega)
    have hf : ratio_Parse_l2 s (k : Int) = some (if isC s[k] = true then .inr (k : Int) else .inl ((k + 1 : Nat) : Int)) := by
      simp only [ratio_Parse_l2]
      rw [req_pos ⟨fun _ => by omega, fun _ => by omega⟩, show decide ((k : Int) < (s.length : Int)) = true by simp; exact hk', Bool.true_and, sx_nat s k hk', i64_add1 k (by omega)]
      have h1 : (((s[k].toNat : Nat) : Int) != 47) = !(s[k] == 47) := by
        show (!(((s[k].toNat : Nat) : Int) == ((47 : Nat) : Int))) = _
        rw [e47]; rfl
      have h2 : (((s[k].toNat : Nat) : Int) != 46) = !(s[k] == 46) := by
        show (!(((s[k].toNat : Nat) : Int) == ((46 : Nat) : Int))) = _
        rw [e46]; rfl
      rw [h1, h2]
      unfold isC
      cases s[k] == 47 <;> cases s[k] == 46 <;> rfl
    by_cases hc : isC s[k] = true
    · rw [if_pos hc] at hf
      rw [iter_inr hf, (List.findIdx_eq hk').2 ⟨hc, fun j hj => hb j (by omega) hj⟩]
    · rw [if_neg hc] at hf
      rw [iter_inl hf]
      refine ih (k + 1) (by omega) (by omega) fun j hj hjk => ?_
      by_cases hjk' : j < k
      · exact hb j hj hjk'
      · have : j = k := by omega
        subst this; simpa using hc
theorem redS (neg : Bool) (n d : Nat) (hn : n < 340282366920938463463374607431768211456) (hd : 0 < d) (hd2 : d < 18446744073709551616) : ref01_Reduce (neg && decide (n ≠ 0)) (WR n) (WR d) = some (redOf neg n d) := by
  rw [Reduce_eq _ _ _ hn hd (by omega)]
  by_cases h : n = 0
  · subst h; rw [red_zero, red_zero neg]
  · simp [h]
end Go.LS
