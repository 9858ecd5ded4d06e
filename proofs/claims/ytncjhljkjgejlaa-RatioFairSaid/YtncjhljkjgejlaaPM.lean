/-
  Law 01: rounding.
  Conditions: numbers in the ranges of their Go types.
-/
import Derived.Test.YtncjhljkjgejlaaPL
import Derived.Test.YtncjhljkjgejlaaPB
namespace Go.LS
set_option linter.all false
set_option linter.unusedSimpArgs false
set_option linter.unusedVariables false
set_option maxRecDepth 20000

theorem div_is {n d q r : Int} (hd : 0 < d) (h : n = d * q + r) (h0 : 0 ≤ r) (h1 : r < d) : n / d = q ∧ n % d = r :=
  (Int.ediv_emod_unique hd).2 ⟨by rw [h]; omega, h0, h1⟩
theorem quot_neg (n d : Int) (hd : 0 < d) (h : Int.tmod n d < 0) : Int.tdiv n d - 1 = n / d ∧ Int.tmod n d + d = n % d := by
  have e : d * Int.tdiv n d + Int.tmod n d = n := Int.mul_tdiv_add_tmod n d
  have h4 : -d < n.tmod d := Int.lt_tmod_of_pos n hd
  have h2 := div_is (n := n) (d := d) (q := Int.tdiv n d - 1) (r := Int.tmod n d + d) hd (by rw [Int.mul_sub]; omega) (by omega) (by omega)
  exact ⟨h2.1.symm, h2.2.symm⟩
theorem quot_pos (n d : Int) (hd : 0 < d) (h : ¬ Int.tmod n d < 0) : Int.tdiv n d = n / d ∧ Int.tmod n d = n % d := by
  have e : d * Int.tdiv n d + Int.tmod n d = n := Int.mul_tdiv_add_tmod n d
  have h4 := Int.tmod_lt_of_pos n hd
  have h2 := div_is (n := n) (d := d) (q := Int.tdiv n d) (r := Int.tmod n d) hd (by omega) (by omega) h4
  exact ⟨h2.1.symm, h2.2.symm⟩
/-- a quotient lies where its dividend lies -/
theorem div_between (n d M : Int) (hd : 0 < d) (h1 : -M ≤ n) (h2 : n ≤ M) (hM : 0 ≤ M) : -M ≤ n / d ∧ n / d ≤ M := by
  constructor
  · rw [Int.le_ediv_iff_mul_le hd]
    have : M * 1 ≤ M * d := Int.mul_le_mul_of_nonneg_left (by omega) hM
    rw [Int.neg_mul]; omega
  · have := Int.ediv_le_ediv hd h2
    have h3 : M / d ≤ M := Int.ediv_le_self _ hM
    omega
def flR (a : api_Ratio) : Int := a.Num / a.Den
def rsR (a : api_Ratio) : Int := a.Num % a.Den
structure Vd (a : api_Ratio) : Prop where
  d0 : 1 ≤ a.Den
  d1 : a.Den ≤ 1152921504606846976
  n0 : -1152921504606846976 ≤ a.Num
  n1 : a.Num ≤ 1152921504606846976
theorem vd_of {a : api_Ratio} (h : vR a = true) : Vd a := by
  obtain ⟨h1, h2, h3, h4, _⟩ := (vR_iff a).1 h
  exact ⟨h1, h2, h3, h4⟩
theorem Vd.fl {a : api_Ratio} (h : Vd a) : -1152921504606846976 ≤ flR a ∧ flR a ≤ 1152921504606846976 := div_between _ _ _ (by have := h.d0; omega) h.n0 h.n1 (by decide)
theorem Vd.rs {a : api_Ratio} (h : Vd a) : 0 ≤ rsR a ∧ rsR a < a.Den := ⟨Int.emod_nonneg _ (by have := h.d0; omega), Int.emod_lt_of_pos _ (by have := h.d0; omega)⟩
theorem Vd.eq {a : api_Ratio} (h : Vd a) : a.Num = a.Den * flR a + rsR a := (Int.mul_ediv_add_emod a.Num a.Den).symm
theorem rounded_core {a : api_Ratio} (h : Vd a) (f : Int → Int → Option Int) :
    (req (a.Den ≠ 0) <| bif (decide ((Int.tmod a.Num a.Den) < (0 : Int))) then
      bindV (IntKind.i64.wrap ((IntKind.i64.wrap (Int.tdiv a.Num a.Den)) - (1 : Int))) fun floor1 => f floor1 (IntKind.i64.wrap ((Int.tmod a.Num a.Den) + a.Den))
    else f (IntKind.i64.wrap (Int.tdiv a.Num a.Den)) (Int.tmod a.Num a.Den)) = f (flR a) (rsR a) := by
  have hd : 0 < a.Den := by have := h.d0; omega
  have hf := h.fl
  have hr := h.rs
  have hd1 := h.d1
  rw [req_pos (by omega)]
  rcases bcases (decide ((Int.tmod a.Num a.Den) < (0 : Int))) with hc | hc <;> rw [hc]
  · have hc' : Int.tmod a.Num a.Den < 0 := by simpa using hc
    obtain ⟨e1, e2⟩ := quot_neg a.Num a.Den hd hc'
    rw [cond_true, bindV, wrap64 (n := Int.tdiv a.Num a.Den) (by unfold flR at hf; omega) (by unfold flR at hf; omega), e1, e2, wrap64 (n := a.Num / a.Den) (by unfold flR at hf; omega) (by unfold flR at hf; omega), wrap64 (by unfold rsR at hr; omega) (by unfold rsR at hr; omega)]
    rfl
  · have hc' : ¬ Int.tmod a.Num a.Den < 0 := by simpa using hc
    obtain ⟨e1, e2⟩ := quot_pos a.Num a.Den hd hc'
    rw [cond_false, e1, e2, wrap64 (n := a.Num / a.Den) (by unfold flR at hf; omega) (by unfold flR at hf; omega)]
    rfl
def up (b : Bool) : Int := if b = true then 1 else 0
theorem Floor_eq (a : api_Ratio) : ratio_Floor a = some (if vR a = true then flR a else 0) := by
  unfold ratio_Floor ratio_rounded_ratio_toFloor
  rw [Valid_eq]
  cases hv : vR a with
  | false => rfl
  | true =>
    simp only [Option.bind, Bool.not_true, cond_false]
    rw [rounded_core (vd_of hv) (ratio_rounded_ratio_toFloor_j1 a)]
    rfl
def ceilR (a : api_Ratio) : Int := flR a + up (decide (0 < rsR a))
def roundR (a : api_Ratio) : Int := flR a + up (decide (a.Den ≤ 2 * rsR a))
def evenR (a : api_Ratio) : Int := flR a + up (decide (a.Den < 2 * rsR a) || (decide (a.Den = 2 * rsR a) && decide (flR a % 2 ≠ 0)))
theorem tmod2 (n : Int) : (Int.tmod n 2 != 0) = decide (n % 2 ≠ 0) := by
  have h : Int.tmod n 2 = 0 ↔ n % 2 = 0 := ⟨fun h => Int.emod_eq_zero_of_dvd (Int.dvd_of_tmod_eq_zero h), fun h => Int.tmod_eq_zero_of_dvd (Int.dvd_of_emod_eq_zero h)⟩
  rw [Bool.eq_iff_iff]; simp [h]
theorem Ceil_eq (a : api_Ratio) : ratio_Ceil a = some (if vR a = true then ceilR a else 0) := by
  unfold ratio_Ceil ratio_rounded_ratio_toCeil
  rw [Valid_eq]
  cases hv : vR a with
  | false => rfl
  | true =>
    simp only [Option.bind, Bool.not_true, cond_false]
    rw [rounded_core (vd_of hv) (ratio_rounded_ratio_toCeil_j1 a)]
    have hf := (vd_of hv).fl
    unfold ratio_rounded_ratio_toCeil_j1 ratio_toCeil ceilR up
    rcases bcases (decide ((0 : Int) < rsR a)) with hc | hc <;> rw [hc]
    · simp [wrap64 (n := flR a + 1) (by omega) (by omega)]
    · simp
theorem Round_eq (a : api_Ratio) : ratio_Round a = some (if vR a = true then roundR a else 0) := by
  unfold ratio_Round ratio_rounded_ratio_toRound
  rw [Valid_eq]
  cases hv : vR a with
  | false => rfl
  | true =>
    simp only [Option.bind, Bool.not_true, cond_false]
    rw [rounded_core (vd_of hv) (ratio_rounded_ratio_toRound_j1 a)]
    have hf := (vd_of hv).fl
    have hr := (vd_of hv).rs
    have hd := (vd_of hv).d1
    unfold ratio_rounded_ratio_toRound_j1 ratio_toRound roundR up
    rw [wrap64 (n := a.Den - rsR a) (by omega) (by omega), show decide (a.Den - rsR a ≤ rsR a) = decide (a.Den ≤ 2 * rsR a) by rw [Bool.eq_iff_iff]; simp; omega]
    rcases bcases (decide (a.Den ≤ 2 * rsR a)) with hc | hc <;> rw [hc]
    · simp [wrap64 (n := flR a + 1) (by omega) (by omega)]
    · simp
theorem Even_eq (a : api_Ratio) : ratio_Even a = some (if vR a = true then evenR a else 0) := by
  unfold ratio_Even ratio_rounded_ratio_toEven
  rw [Valid_eq]
  cases hv : vR a with
  | false => rfl
  | true =>
    simp only [Option.bind, Bool.not_true, cond_false]
    rw [rounded_core (vd_of hv) (ratio_rounded_ratio_toEven_j1 a)]
    have hf := (vd_of hv).fl
    have hr := (vd_of hv).rs
    have hd := (vd_of hv).d1
    unfold ratio_rounded_ratio_toEven_j1 ratio_toEven evenR up
    rw [wrap64 (n := a.Den - rsR a) (by omega) (by omega), show decide (a.Den - rsR a < rsR a) = decide (a.Den < 2 * rsR a) by rw [Bool.eq_iff_iff]; simp; omega,
      show (rsR a == a.Den - rsR a) = decide (a.Den = 2 * rsR a) by rw [Bool.eq_iff_iff]; simp; omega, tmod2]
    rcases bcases (decide (a.Den < 2 * rsR a) || (decide (a.Den = 2 * rsR a) && decide (flR a % 2 ≠ 0))) with hc | hc <;> rw [hc]
    · simp [wrap64 (n := flR a + 1) (by omega) (by omega)]
    · simp
/-! ### the reference -/
theorem floor_eq (n d : Int) (hd : 0 < d) (h1 : -4611686018427387904 ≤ n) (h2 : n ≤ 4611686018427387904) : ref01_floor n d = some (n / d) := by
  obtain ⟨b1, b2⟩ := div_between n d 4611686018427387904 hd h1 h2 (by decide)
  unfold ref01_floor ref01_floor_j1
  rw [req_pos (by omega), req_pos (by omega)]
  rcases bcases (decide ((Int.tmod n d) < (0 : Int))) with hc | hc <;> rw [hc]
  · have hc' : Int.tmod n d < 0 := by simpa using hc
    obtain ⟨e1, e2⟩ := quot_neg n d hd hc'
    rw [cond_true, wrap64 (n := Int.tdiv n d) (by omega) (by omega), e1, wrap64 (by omega) (by omega)]
  · have hc' : ¬ Int.tmod n d < 0 := by simpa using hc
    obtain ⟨e1, e2⟩ := quot_pos n d hd hc'
    rw [cond_false, e1, wrap64 (by omega) (by omega)]
theorem FloorR_eq (a : api_Ratio) : ref01_Floor a = some (if vR a = true then flR a else 0) := by
  unfold ref01_Floor
  rw [ValidR_eq]
  cases hv : vR a with
  | false => rfl
  | true =>
    have h := vd_of hv
    have := h.d0; have := h.n0; have := h.n1
    simp only [Option.bind, Bool.not_true, cond_false]
    rw [floor_eq _ _ (by omega) (by omega) (by omega)]; rfl
theorem CeilR_eq (a : api_Ratio) : ref01_Ceil a = some (if vR a = true then ceilR a else 0) := by
  unfold ref01_Ceil
  rw [ValidR_eq]
  cases hv : vR a with
  | false => rfl
  | true =>
    have h := vd_of hv
    have h0 := h.d0; have := h.n0; have := h.n1; have hr := h.rs; have hf := h.fl
    simp only [Option.bind, Bool.not_true, cond_false]
    rw [wrap64 (n := 0 - a.Num) (by omega) (by omega), floor_eq _ _ (by omega) (by omega) (by omega)]
    simp only [if_true]
    have e := h.eq
    unfold ceilR up
    by_cases hz : 0 < rsR a
    · have := (div_is (n := 0 - a.Num) (d := a.Den) (q := -flR a - 1) (r := a.Den - rsR a) (by omega) (by rw [Int.mul_sub, Int.mul_neg]; omega) (by omega) (by omega)).1
      rw [this, wrap64 (by omega) (by omega)]; simp [hz]; omega
    · have := (div_is (n := 0 - a.Num) (d := a.Den) (q := -flR a) (r := 0) (by omega) (by rw [Int.mul_neg]; omega) (by omega) (by omega)).1
      rw [this, wrap64 (by omega) (by omega)]; simp [hz]
theorem RoundR_eq (a : api_Ratio) : ref01_Round a = some (if vR a = true then roundR a else 0) := by
  unfold ref01_Round
  rw [ValidR_eq]
  cases hv : vR a with
  | false => rfl
  | true =>
    have h := vd_of hv
    have h0 := h.d0; have := h.d1; have := h.n0; have := h.n1; have hr := h.rs; have hf := h.fl
    simp only [Option.bind, Bool.not_true, cond_false]
    rw [wrap64 (n := 2 * a.Num) (by omega) (by omega), wrap64 (n := 2 * a.Den) (by omega) (by omega), wrap64 (n := 2 * a.Num + a.Den) (by omega) (by omega), floor_eq _ _ (by omega) (by omega) (by omega)]
    simp only [if_true]
    have e := h.eq
    have e2 : 2 * a.Den * flR a = 2 * (a.Den * flR a) := Int.mul_assoc ..
    have e3 : 2 * a.Den * (flR a + 1) = 2 * (a.Den * flR a) + 2 * a.Den := by rw [Int.mul_add, e2]; omega
    unfold roundR up
    by_cases hz : a.Den ≤ 2 * rsR a
    · rw [(div_is (n := 2 * a.Num + a.Den) (d := 2 * a.Den) (q := flR a + 1) (r := 2 * rsR a - a.Den) (by omega) (by omega) (by omega) (by omega)).1]; simp [hz]
    · rw [(div_is (n := 2 * a.Num + a.Den) (d := 2 * a.Den) (q := flR a) (r := 2 * rsR a + a.Den) (by omega) (by omega) (by omega) (by omega)).1]; simp [hz]
theorem EvenR_eq (a : api_Ratio) : ref01_Even a = some (if vR a = true then evenR a else 0) := by
  unfold ref01_Even
  rw [ValidR_eq]
  cases hv : vR a with
  | false => rfl
  | true =>
    have h := vd_of hv
    have h0 := h.d0; have := h.d1; have := h.n0; have := h.n1; have hr := h.rs; have hf := h.fl
    have e := h.eq
    simp only [Option.bind, Bool.not_true, cond_false]
    rw [floor_eq _ _ (by omega) (by omega) (by omega)]
    simp only [if_true]
    have hm : a.Num / a.Den * a.Den = a.Num - rsR a := by rw [Int.mul_comm]; unfold flR at e; omega
    rw [wrap64 (n := a.Num / a.Den * a.Den) (by omega) (by omega), hm, wrap64 (n := a.Num - (a.Num - rsR a)) (by omega) (by omega), show a.Num - (a.Num - rsR a) = rsR a by omega, wrap64 (n := 2 * rsR a) (by omega) (by omega), tmod2,
      show (2 * rsR a == a.Den) = decide (a.Den = 2 * rsR a) by rw [Bool.eq_iff_iff]; simp; omega]
    unfold evenR up
    change (bif decide (a.Den < 2 * rsR a) || (decide (a.Den = 2 * rsR a) && decide (flR a % 2 ≠ 0)) then some (IntKind.i64.wrap (flR a + 1)) else some (flR a)) = _
    rcases bcases (decide (a.Den < 2 * rsR a) || (decide (a.Den = 2 * rsR a) && decide (flR a % 2 ≠ 0))) with hc | hc <;> rw [hc]
    · simp [wrap64 (n := flR a + 1) (by omega) (by omega)]
    · simp
/-! ### fractions off the tape -/
def I64R (a : api_Ratio) : Prop := I64 a.Num ∧ I64 a.Den
theorem tRatio (t : make_Tape) (h : TOK t) : ∃ a t', make_Tape_Ratio t = some (a, t') ∧ TOK t' ∧ vR a = true := by
  have key : ∀ (num den : Int) (t : make_Tape), I64 num → 1 ≤ den → den ≤ 1152921504606846976 → ∃ a, make_Tape_Ratio_j1 num den t.L t.At = some (a, t) ∧ vR a = true := by
    intro num den t hn h1 h2
    unfold make_Tape_Ratio_j1
    rw [NewR_eq num den hn ⟨by omega, by omega⟩]
    simp only [Option.bind]
    rcases bcases ((newOf num den).2 != 0) with hc | hc <;> rw [hc]
    · exact ⟨_, rfl, by decide⟩
    · refine ⟨_, rfl, ?_⟩
      have e0 : (newOf num den).2 = 0 := by simpa using hc
      have hd : ¬ den = 0 := by omega
      unfold newOf at e0 ⊢
      rw [if_neg hd] at e0 ⊢
      exact (redOf_val _ _ _ (by omega) _ (Prod.ext rfl e0)).1
  have key2 : ∀ (y num : Int) (t : make_Tape), TOK t → I64 num → 1 ≤ y → y ≤ 1152921504606846976 → ∃ a t', make_Tape_Ratio_j2 y num t.L t.At = some (a, t') ∧ TOK t' ∧ vR a = true := by
    intro y num t ht hn h1 h2
    unfold make_Tape_Ratio_j2
    obtain ⟨b, t1, e1, ht1⟩ := one_ok t 4 ht (by decide)
    rw [tmk, e1]
    simp only [Option.bind]
    cases b with
    | true =>
      obtain ⟨d, t2, e2, ht2, hd⟩ := pick_ok t1 [1152921504606846976, 1152921504606846975, 576460752303423488, 1073741824, 1000000000, 1000000007, 432345564227567616, 1152921504606846869] ht1 (by decide) (by decide)
      rw [cond_true, e2]
      simp only
      have hd' : 1 ≤ d ∧ d ≤ 1152921504606846976 := by
        simp only [List.mem_cons, List.not_mem_nil, or_false] at hd; omega
      obtain ⟨a, e3, hv⟩ := key num d t2 hn hd'.1 hd'.2
      exact ⟨a, t2, e3, ht2, hv⟩
    | false =>
      obtain ⟨a, e3, hv⟩ := key num y t1 hn h1 h2
      exact ⟨a, t1, e3, ht1, hv⟩
  unfold make_Tape_Ratio
  obtain ⟨x, t1, e1, ht1, x1, x2⟩ := range_ok t (-9) 9 h (by decide) (by decide) (by decide)
  rw [e1]; simp only [Option.bind]
  obtain ⟨y, t2, e2, ht2, y1, y2⟩ := range_ok t1 1 9 ht1 (by decide) (by decide) (by decide)
  rw [e2]; simp only
  obtain ⟨b, t3, e3, ht3⟩ := one_ok t2 4 ht2 (by decide)
  rw [e3]; simp only
  cases b with
  | true =>
    obtain ⟨d, t4, e4, ht4, hd⟩ := pick_ok t3 [1152921504606846976, 1152921504606846975, -1152921504606846976, 576460752303423488, 1073741824, 3486784401, -1000000007, 1152921504606846883] ht3 (by decide) (by decide)
    rw [cond_true, e4]
    simp only
    exact key2 y d t4 ht4 (by simp only [List.mem_cons, List.not_mem_nil, or_false] at hd; constructor <;> omega) y1 (by omega)
  | false => exact key2 y x t3 ht3 ⟨by omega, by omega⟩ y1 (by omega)
theorem tSpoil (t : make_Tape) (x n : Int) (h : TOK t) (hx : I64 x) (hn : n ≤ 4611686018427387904) : ∃ y t', make_Tape_Spoil t x n = some (y, t') ∧ TOK t' ∧ I64 y := by
  unfold make_Tape_Spoil
  rcases bcases (decide ((0 : Int) < n)) with hc | hc <;> rw [hc]
  · obtain ⟨b, t1, e1, ht1⟩ := one_ok t n h hn
    rw [cond_true, e1]; simp only [Option.bind]
    cases b with
    | true =>
      unfold make_Tape_Wild
      obtain ⟨d, t2, e2, ht2, hd⟩ := pick_ok t1 [-1, 0, 1, 2, 31, 32, 99, 100, 200, 201, 9999, 10000, 1000000, 1000001, 1152921504606846976, 1152921504606846977, -1152921504606846976, 9223372036854775807, -9223372036854775808] ht1 (by decide) (by decide)
      rw [cond_true, e2]; simp only [Option.bind]
      exact ⟨d, t2, rfl, ht2, by simp only [List.mem_cons, List.not_mem_nil, or_false] at hd; constructor <;> omega⟩
    | false => exact ⟨x, t1, rfl, ht1, hx⟩
  · exact ⟨x, t, rfl, h, hx⟩
theorem i64_of_v {a : api_Ratio} (h : vR a = true) : I64R a := by
  have h := vd_of h
  have := h.d0; have := h.d1; have := h.n0; have := h.n1
  exact ⟨⟨by omega, by omega⟩, ⟨by omega, by omega⟩⟩
theorem tLoose (t : make_Tape) (h : TOK t) : ∃ a t', make_Tape_Loose t = some (a, t') ∧ TOK t' ∧ I64R a := by
  unfold make_Tape_Loose
  obtain ⟨a, t1, e1, ht1, hv⟩ := tRatio t h
  rw [e1]; simp only [Option.bind]
  obtain ⟨b, t2, e2, ht2⟩ := one_ok t1 3 ht1 (by decide)
  rw [e2]; simp only
  cases b with
  | true =>
    rw [cond_true]
    obtain ⟨x, t3, e3, ht3, x1, x2⟩ := range_ok t2 (-8) 8 ht2 (by decide) (by decide) (by decide)
    rw [e3]; simp only
    obtain ⟨y, t4, e4, ht4, hy⟩ := tSpoil t3 x 3 ht3 ⟨by omega, by omega⟩ (by decide)
    rw [e4]; simp only
    obtain ⟨z, t5, e5, ht5, z1, z2⟩ := range_ok t4 (-1) 8 ht4 (by decide) (by decide) (by decide)
    rw [e5]; simp only
    obtain ⟨u, t6, e6, ht6, hu⟩ := tSpoil t5 z 3 ht5 ⟨by omega, by omega⟩ (by decide)
    rw [e6]; simp only
    exact ⟨_, t6, rfl, ht6, hy, hu⟩
  | false => exact ⟨a, t2, rfl, ht2, i64_of_v hv⟩
theorem pure_RatioRounds (t : List Int) : law01_RatioRounds t = some true := by
  unfold law01_RatioRounds
  obtain ⟨t1, e1, h1⟩ := new_ok t
  rw [e1]; simp only [Option.bind]
  obtain ⟨a, t2, e2, h2, _⟩ := tLoose t1 h1
  rw [e2]; simp only
  rw [Floor_eq, FloorR_eq, Ceil_eq, CeilR_eq, Round_eq, RoundR_eq, Even_eq, EvenR_eq]
  simp [awake_eq, req_pos]
end Go.LS
