/-
  Law 01: rounding.
  Conditions: numbers in the ranges of their Go types.
-/
import Derived.Test.YtogfplnonlpmcaaPL
import Derived.Test.YtogfplnonlpmcaaPB
namespace Go.LS
set_option linter.all false
set_option linter.unusedSimpArgs false
set_option linter.unusedVariables false
set_option maxRecDepth 20000

theorem div_is {n d q r : Int} (hd : 0 < d) (h : n = d * q + r) (h0 : 0 ≤ r) (h1 : r < d) : n / d = q ∧ n % d = r :=
  (Int.ediv_emod_unique hd).2 ⟨by rw [h]; omega, h0, h1⟩
theorem quot_neg (n d : Int) (hd : 0 < d) (h : Int.tmod n d < 0) : Int.tdiv n d - 1 = n / d ∧ Int.tmod n d + d = n % d := by
  have e : d * Int.tdiv n d + Int.tmod n d = n := Int.mul_tdiv_add_tmod n d
  have h4 : -d < n.tmod d := Int.lt_tmod_of_pos n hd
  have h2 := div_is (n := n) (d := d) (q := Int.tdiv n d - 1) (r := Int.tmod n d + d) hd (by rw [Int.mul_sub]; omega) (by omega) (by omega)
  exact ⟨h2.1.symm, h2.2.symm⟩
theorem quot_pos (n d : Int) (hd : 0 < d) (h : ¬ Int.tmod n d < 0) : Int.tdiv n d = n / d ∧ Int.tmod n d = n % d := by
  have e : d * Int.tdiv n d + Int.tmod n d = n := Int.mul_tdiv_add_tmod n d
  have h4 := Int.tmod_lt_of_pos n hd
  have h2 := div_is (n := n) (d := d) (q := Int.tdiv n d) (r := Int.tmod n d) hd (by omega) (by omega) h4
  exact ⟨h2.1.symm, h2.2.symm⟩
/-- a quotient lies where its dividend lies -/
theorem div_between (n d M : Int) (hd : 0 < d) (h1 : -M ≤ n) (h2 : n ≤ M) (hM : 0 ≤ M) : -M ≤ n / d ∧ n / d ≤ M := by
  constructor
  · rw [Int.le_ediv_iff_mul_le hd]
    have : M * 1 ≤ M * d := Int.mul_le_mul_of_nonneg_left (by omega) hM
    rw [Int.neg_mul]; omega
  · have := Int.ediv_le_ediv hd h2
    have h3 : M / d ≤ M := Int.ediv_le_self _ hM
    omega
def flR (a : api_Ratio) : Int := a.Num / a.Den
def rsR (a : api_Ratio) : Int := a.Num % a.Den
structure Vd (a : api_Ratio) : Prop where
  d0 : 1 ≤ a.Den
  d1 : a.Den ≤ 1152921504606846976
  n0 : -1152921504606846976 ≤ a.Num
  n1 : a.Num ≤ 1152921504606846976
theorem vd_of {a : api_Ratio} (h : vR a = true) : Vd a := by
  obtain ⟨h1, h2, h3, h4, _⟩ := (vR_iff a).1 h
  exact ⟨h1, h2, h3, h4⟩
theorem Vd.fl {a : api_Ratio} (h : Vd a) : -1152921504606846976 ≤ flR a ∧ flR a ≤ 1152921504606846976 := div_between _ _ _ (by have := h.d0; omega) h.n0 h.n1 (by decide)
theorem Vd.rs {a : api_Ratio} (h : Vd a) : 0 ≤ rsR a ∧ rsR a < a.Den := ⟨Int.emod_nonneg _ (by have := h.d0; omega), Int.emod_lt_of_pos _ (by have := h.d0; omega)⟩
theorem Vd.eq {a : api_Ratio} (h : Vd a) : a.Num = a.Den * flR a + rsR a := (Int.mul_ediv_add_emod a.Num a.Den).symm
theorem rounded_core {a : api_Ratio} (h : Vd a) (f : Int → Int → Option Int) :
    (req (a.Den ≠ 0) <| bif (decide ((Int.tmod a.Num a.Den) < (0 : Int))) then
      bindV (IntKind.i64.wrap ((IntKind.i64.wrap (Int.tdiv a.Num a.Den)) - (1 : Int))) fun floor1 => f floor1 (IntKind.i64.wrap ((Int.tmod a.Num a.Den) + a.Den))
    else f (IntKind.i64.wrap (Int.tdiv a.Num a.Den)) (Int.tmod a.Num a.Den)) = f (flR a) (rsR a) := by
  have hd : 0 < a.Den := by have := h.d0; omega
  have hf := h.fl
  have hr := h.rs
  have hd1 := h.d1
  rw [req_pos (by omega)]
  rcases bcases (decide ((Int.tmod a.Num a.Den) < (0 : Int))) with hc | hc <;> rw [hc]
  · have hc' : Int.tmod a.Num a.Den < 0 := by simpa using hc
    obtain ⟨e1, e2⟩ := quot_neg a.Num a.Den hd hc'
    rw [cond_true, bindV, wrap64 (n := Int.tdiv a.Num a.Den) (by unfold flR at hf; omega) (by unfold flR at hf; omega), e1, e2, wrap64 (n := a.Num / a.Den) (by unfold flR at hf; omega) (by unfold flR at hf; omega), wrap64 (by unfold rsR at hr; omega) (by unfold rsR at hr; omega)]
    rfl
  · have hc' : ¬ Int.tmod a.Num a.Den < 0 := by simpa using hc
    obtain ⟨e1, e2⟩ := quot_pos a.Num a.Den hd hc'
    rw [cond_false, e1, e2, wrap64 (n := a.Num / a.Den) (by unfold flR at hf; omega) (by unfold flR at hf; omega)]
    rfl
def up (b : Bool) : Int := if b = true then 1 else 0
def ceilR (a : api_Ratio) : Int := flR a + up (decide (0 < rsR a))
def roundR (a : api_Ratio) : Int := flR a + up (decide (a.Den ≤ 2 * rsR a))
def evenR (a : api_Ratio) : Int := flR a + up (decide (a.Den < 2 * rsR a) || (decide (a.Den = 2 * rsR a) && decide (flR a % 2 ≠ 0)))
theorem tmod2 (n : Int) : (Int.tmod n 2 != 0) = decide (n % 2 ≠ 0) := by
  have h : Int.tmod n 2 = 0 ↔ n % 2 = 0 := ⟨fun h => Int.emod_eq_zero_of_dvd (Int.dvd_of_tmod_eq_zero h), fun h => Int.tmod_eq_zero_of_dvd (Int.dvd_of_emod_eq_zero h)⟩
  rw [Bool.eq_iff_iff]; simp [h]
theorem Round_eq (a : api_Ratio) : ratio_Round a = some (if vR a = true then roundR a else 0) := by
  unfold ratio_Round ratio_rounded_ratio_toRound
  rw [Valid_eq]
  cases hv : vR a with
  | false => rfl
  | true =>
    simp only [Option.bind, Bool.not_true, cond_false]
    rw [rounded_core (vd_of hv) (ratio_rounded_ratio_toRound_j1 a)]
    have hf := (vd_of hv).fl
    have hr := (vd_of hv).rs
    have hd := (vd_of hv).d1
    unfold ratio_rounded_ratio_toRound_j1 ratio_toRound roundR up
    rw [wrap64 (n := a.Den - rsR a) (by omega) (by omega), show decide (a.Den - rsR a ≤ rsR a) = decide (a.Den ≤ 2 * rsR a) by rw [Bool.eq_iff_iff]; simp; omega]
    rcases bcases (decide (a.Den ≤ 2 * rsR a)) with hc | hc <;> rw [hc]
    · simp [wrap64 (n := flR a + 1) (by omega) (by omega)]
    · simp
/-! ### the reference -/
theorem floor_eq (n d : Int) (hd : 0 < d) (h1 : -4611686018427387904 ≤ n) (h2 : n ≤ 4611686018427387904) : ref01_floor n d = some (n / d) := by
  obtain ⟨b1, b2⟩ := div_between n d 4611686018427387904 hd h1 h2 (by decide)
  unfold ref01_floor ref01_floor_j1
  rw [req_pos (by omega), req_pos (by omega)]
  rcases bcases (decide ((Int.tmod n d) < (0 : Int))) with hc | hc <;> rw [hc]
  · have hc' : Int.tmod n d < 0 := by simpa using hc
    obtain ⟨e1, e2⟩ := quot_neg n d hd hc'
    rw [cond_true, wrap64 (n := Int.tdiv n d) (by omega) (by omega), e1, wrap64 (by omega) (by omega)]
  · have hc' : ¬ Int.tmod n d < 0 := by simpa using hc
    obtain ⟨e1, e2⟩ := quot_pos n d hd hc'
    rw [cond_false, e1, wrap64 (by omega) (by omega)]
theorem CeilR_eq (a : api_Ratio) : ref01_Ceil a = some (if vR a = true then ceilR a else 0) := by
  unfold ref01_Ceil
  rw [ValidR_eq]
  cases hv : vR a with
  | false => rfl
  | true =>
    have h := vd_of hv
    have h0 := h.d0; have := h.n0; have := h.n1; have hr := h.rs; have hf := h.fl
    simp only [Option.bind, Bool.not_true, cond_false]
    rw [wrap64 (n := 0 - a.Num) (by omega) (by omega), floor_eq _ _ (by omega) (by omega) (by omega)]
    simp only [if_true]
    have e := h.eq
    unfold ceilR up
    by_cases hz : 0 < rsR a
    · have := (div_is (n := 0 - a.Num) (d := a.Den) (q := -flR a - 1) (r := a.Den - rsR a) (by omega) (by rw [Int.mul_sub, Int.mul_neg]; omega) (by omega) (by omega)).1
      rw [this, wrap64 (by omega) (by omega)]; simp [hz]; omega
    · have := (div_is (n := 0 - a.Num) (d := a.Den) (q := -flR a) (r := 0) (by omega) (by rw [Int.mul_neg]; omega) (by omega) (by omega)).1
      rw [this, wrap64 (by omega) (by omega)]; simp [hz]
/-! ### fractions off the tape -/
def I64R (a : api_Ratio) : Prop := I64 a.Num ∧ I64 a.Den
theorem i64_of_v {a : api_Ratio} (h : vR a = true) : I64R a := by
  have h := vd_of h
  have := h.d0; have := h.d1; have := h.n0; have := h.n1
  exact ⟨⟨by omega, by omega⟩, ⟨by omega, by omega⟩⟩
end Go.LS
