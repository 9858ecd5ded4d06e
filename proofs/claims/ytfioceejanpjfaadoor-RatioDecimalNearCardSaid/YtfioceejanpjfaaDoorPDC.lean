/-
  Decimal: the program's text is the reference's; RatioDecimals.
  Conditions: none but those of the statement.
-/
import Derived.Test.YtfioceejanpjfaaDoorPDB
namespace Go.LS
set_option linter.all false
set_option linter.unusedSimpArgs false
set_option linter.unusedVariables false
set_option maxRecDepth 20000

def padL (k : Nat) (s : Str) : Str := List.replicate (k - s.length) 48 ++ s
def fw : Nat → Nat → Str
  | 0, _ => []
  | k + 1, v => fw k (v / 10) ++ [ch (v % 10)]
theorem fw_len : ∀ k v, (fw k v).length = k
  | 0, v => rfl
  | k + 1, v => by rw [fw, List.length_append, fw_len k]; rfl
theorem ch0 : ch 0 = 48 := rfl
theorem fw_zero : ∀ k, fw k 0 = List.replicate k 48
  | 0 => rfl
  | k + 1 => by rw [fw, Nat.zero_div, fw_zero k, List.replicate_succ']; rfl
theorem fw_all : ∀ k v, ((fw k v).all isD) = true
  | 0, v => rfl
  | k + 1, v => by rw [fw, List.all_append, fw_all k]; simp [ch_isD (v % 10) (by omega)]
theorem fw_val : ∀ k v, valF (fw k v) 0 = v % 10 ^ k
  | 0, v => by simp [fw, valF, Nat.mod_one]
  | k + 1, v => by
    rw [fw, valF_snoc, fw_val k, ch_nat _ (by omega), Nat.pow_succ, Nat.mul_comm (10 ^ k) 10, Nat.mod_mul]
    omega
theorem padL_snoc (k : Nat) (s : Str) (c : UInt8) : padL (k + 1) (s ++ [c]) = padL k s ++ [c] := by
  unfold padL
  rw [List.length_append, List.length_singleton, Nat.add_sub_add_right, List.append_assoc]
theorem padL_one (k : Nat) (c : UInt8) : padL (k + 1) [c] = List.replicate k 48 ++ [c] := rfl
theorem pad_fw : ∀ k v, 1 ≤ k → v < 10 ^ k → padL k (dd v) = fw k v := by
  intro k
  induction k with
  | zero => intro v h; omega
  | succ k ih =>
    intro v _ hv
    by_cases h : v < 10
    · rw [dd_small h, padL_one, fw, Nat.div_eq_of_lt h, fw_zero, Nat.mod_eq_of_lt h]
    · have hk : 1 ≤ k := by
        rcases Nat.eq_zero_or_pos k with g | g
        · subst g; simp at hv; omega
        · exact g
      rw [dd_big h, padL_snoc, ih (v / 10) hk (by rw [Nat.pow_succ] at hv; omega), fw]
theorem pad_dd : ∀ k q, padL (k + 1) (dd q) = dd (q / 10 ^ k) ++ fw k q := by
  intro k
  induction k with
  | zero =>
    intro q
    have := dd_pos q
    rw [Nat.pow_zero, Nat.div_one, fw, List.append_nil]
    unfold padL
    rw [show 0 + 1 - (dd q).length = 0 by omega]
    rfl
  | succ k ih =>
    intro q
    by_cases h : q < 10
    · have hq : q / 10 ^ (k + 1) = 0 := Nat.div_eq_of_lt (Nat.lt_of_lt_of_le h (by have := Nat.pow_le_pow_right (show 0 < 10 by omega) (show 1 ≤ k + 1 by omega); simpa using this))
      rw [hq, dd_small h, padL_one, fw, Nat.div_eq_of_lt h, fw_zero, Nat.mod_eq_of_lt h, dd_small (show 0 < 10 by omega), List.replicate_succ]
      simp [ch0]
    · rw [dd_big h, padL_snoc, ih, fw, Nat.pow_succ, Nat.mul_comm (10 ^ k) 10, ← Nat.div_div_eq_div_mul, List.append_assoc]
theorem fw_mod : ∀ k q, fw k (q % 10 ^ k) = fw k q
  | 0, q => rfl
  | k + 1, q => by
    have e1 : q % 10 ^ (k + 1) / 10 = (q / 10) % 10 ^ k := by rw [Nat.pow_succ]; exact Nat.mod_mul_left_div_self q 10 (10 ^ k)
    have e2 : q % 10 ^ (k + 1) % 10 = q % 10 := by rw [Nat.pow_succ]; exact Nat.mod_mul_left_mod q (10 ^ k) 10
    rw [fw, fw, e1, e2, fw_mod k]
theorem pad_loop (f : Str → Option (Str ⊕ Str)) (k : Nat) (hf : ∀ s : Str, s.length ≤ 1000 → f s = if s.length < k then some (.inl (48 :: s)) else some (.inr s)) :
    ∀ (n : Nat) (s : Str), k - s.length = n → s.length ≤ 900 → k ≤ 900 → iter f s = some (padL k s) := by
  intro n
  induction n with
  | zero =>
    intro s hn hs hk
    have h1 : f s = some (.inr s) := by rw [hf s (by omega), if_neg (by omega)]
    rw [iter_inr h1]
    unfold padL
    rw [hn]; rfl
  | succ n ih =>
    intro s hn hs hk
    have h1 : f s = some (.inl (48 :: s)) := by rw [hf s (by omega), if_pos (by omega)]
    rw [iter_inl h1, ih (48 :: s) (by simp; omega) (by simp; omega) hk]
    unfold padL
    rw [hn, show k - (48 :: s).length = n by simp; omega, List.replicate_succ', List.append_assoc]
    rfl
theorem l4_eq (k : Nat) (s : Str) (h : s.length ≤ 1000) : ratio_Decimal_l4 (k : Int) s = if s.length < k then some (.inl (48 :: s)) else some (.inr s) := by
  simp only [ratio_Decimal_l4]
  by_cases h1 : s.length < k
  · rw [if_pos h1, show decide ((s.length : Int) < (k : Int)) = true by simpa using h1, cond_true, req_pos (by simp; omega)]; rfl
  · rw [if_neg h1, show decide ((s.length : Int) < (k : Int)) = false by simp; omega, cond_false]
theorem rl4_eq (k : Nat) (hk : k ≤ 9) (s : Str) (h : s.length ≤ 1000) : ref01_Decimal_l4 (k : Int) s = if s.length < k + 1 then some (.inl (48 :: s)) else some (.inr s) := by
  simp only [ref01_Decimal_l4]
  rw [i64_add1 k (by omega)]
  by_cases h1 : s.length < k + 1
  · rw [if_pos h1, show decide ((s.length : Int) < ((k + 1 : Nat) : Int)) = true by simp; omega, cond_true, req_pos (by simp; omega)]; rfl
  · rw [if_neg h1, show decide ((s.length : Int) < ((k + 1 : Nat) : Int)) = false by simp; omega, cond_false]
/-- the numeral of q / 10^k -/
def dtext (k q : Nat) : Str := dd (q / 10 ^ k) ++ if 0 < k then 46 :: fw k q else []
def decOf (a : api_Ratio) (k q : Nat) : Str := sgS (decide (a.Num < 0) && decide (q ≠ 0)) (dtext k q)
theorem fu_eq (n : Nat) (h : n < 18446744073709551616) : strconv_FormatUint (n : Int) (10 : Int) = some (dd n) := by
  unfold strconv_FormatUint
  rw [if_pos (by omega)]; rfl
theorem dlen64 (n : Nat) (h : n < 18446744073709551616) : (dd n).length ≤ 20 := dd_len 20 n (by omega) (by omega)
theorem j2_eq (a : api_Ratio) (w p : Nat) (t : Str) (ht : t.length ≤ 1000) : ratio_Decimal_j2 a w p t = some (sgS (decide (a.Num < 0) && (decide (w ≠ 0) || decide (p ≠ 0))) t) := by
  unfold ratio_Decimal_j2 ratio_Decimal_j1
  have e : ((decide (a.Num < (0 : Int))) && (((w : Int) != (0 : Int)) || ((p : Int) != (0 : Int)))) = (decide (a.Num < 0) && (decide (w ≠ 0) || decide (p ≠ 0))) := by
    congr 1
    congr 1 <;> (rw [Bool.eq_iff_iff]; simp)
  rw [e]
  cases (decide (a.Num < 0) && (decide (w ≠ 0) || decide (p ≠ 0))) with
  | true => rw [cond_true, req_pos (by simp; omega)]; rfl
  | false => rfl
theorem j5_eq (a : api_Ratio) (k w p : Nat) (hk : k ≤ 9) (hw : w < 18446744073709551616) (hp : p < 10 ^ k) : ratio_Decimal_j5 a k w p = some (decOf a k (w * 10 ^ k + p)) := by
  have hT := pow10_le k (by omega)
  have hT0 : 0 < 10 ^ k := Nat.pow_pos (by decide)
  have e1 : (w * 10 ^ k + p) / 10 ^ k = w := by rw [Nat.mul_comm, Nat.mul_add_div hT0, Nat.div_eq_of_lt hp]; omega
  have e2 : fw k (w * 10 ^ k + p) = fw k p := by rw [← fw_mod k (w * 10 ^ k + p), Nat.mul_comm, Nat.mul_add_mod, fw_mod]
  have e3 : (decide (w ≠ 0) || decide (p ≠ 0)) = decide (w * 10 ^ k + p ≠ 0) := by
    rw [Bool.eq_iff_iff]
    simp only [Bool.or_eq_true, decide_eq_true_eq]
    constructor
    · rintro (h | h)
      · have : 0 < w * 10 ^ k := Nat.mul_pos (by omega) hT0
        omega
      · omega
    · intro h
      by_cases g : w = 0
      · subst g; simp at h; exact .inr h
      · exact .inl g
  have l1 := dlen64 w hw
  unfold ratio_Decimal_j5 decOf dtext
  rw [fu_eq w hw, dsb, e1, e2, ← e3]
  by_cases h : 0 < k
  · have l2 := dlen64 p (by omega)
    rw [show decide ((0 : Int) < (k : Int)) = true by simpa using h, cond_true, fu_eq p (by omega), dsb, if_pos h,
      pad_loop _ k (l4_eq k) _ (dd p) rfl (by omega) (by omega), dsb, pad_fw k p (by omega) hp]
    unfold ratio_Decimal_j3
    have l3 := fw_len k p
    rw [req_pos (by simp [l3]; omega), j2_eq a w p _ (by simp [l3]; omega)]
    rfl
  · rw [show decide ((0 : Int) < (k : Int)) = false by simp; omega, cond_false, if_neg h, j2_eq a w p _ (by omega), List.append_nil]
theorem rj2_eq (a : api_Ratio) (q : Nat) (hq : q < 340282366920938463463374607431768211456) (t : Str) (ht : t.length ≤ 1000) : ref01_Decimal_j2 a (WR q).Hi (WR q).Lo t = some (sgS (decide (a.Num < 0) && decide (q ≠ 0)) t) := by
  unfold ref01_Decimal_j2 ref01_Decimal_j1
  rw [WR_zero q hq, show (!decide (q = 0)) = decide (q ≠ 0) by simp]
  cases (decide (a.Num < 0) && decide (q ≠ 0)) with
  | true => rw [cond_true, req_pos (by simp; omega)]; rfl
  | false => rfl
theorem rj5_eq (a : api_Ratio) (k q : Nat) (hk : k ≤ 9) (hq : q < 340282366920938463463374607431768211456) : ref01_Decimal_j5 a k (WR q).Hi (WR q).Lo = some (decOf a k q) := by
  have l1 : (dd q).length ≤ 39 := dd_len 39 q (by omega) (by omega)
  unfold ref01_Decimal_j5
  rw [show ref01_Wide.mk (WR q).Hi (WR q).Lo = WR q from rfl, Digits_eq q hq, dsb, pad_loop _ (k + 1) (rl4_eq k hk) _ (dd q) rfl (by omega) (by omega), dsb, pad_dd]
  unfold ref01_Decimal_j3 decOf dtext
  have l2 : (dd (q / 10 ^ k)).length ≤ 39 := dd_len 39 _ (by omega) (Nat.lt_of_le_of_lt (Nat.div_le_self _ _) (by omega))
  have l3 := fw_len k q
  by_cases h : 0 < k
  · have el : IntKind.i64.wrap (((dd (q / 10 ^ k) ++ fw k q).length : Int) - (k : Int)) = ((dd (q / 10 ^ k)).length : Int) := by
      rw [List.length_append, l3, i64_id (by omega) (by omega)]; omega
    rw [show decide ((0 : Int) < (k : Int)) = true by simpa using h, cond_true, el, Int.toNat_natCast, List.take_left, List.drop_left, if_pos h]
    rw [req_pos (by simp [l3]; omega)]
    show ref01_Decimal_j2 a (WR q).Hi (WR q).Lo _ = _
    rw [rj2_eq a q hq _ (by simp [l3]; omega)]
    simp
  · rw [show decide ((0 : Int) < (k : Int)) = false by simp; omega, cond_false, if_neg h, rj2_eq a q hq _ (by simp [l3]; omega)]
    have : k = 0 := by omega
    subst this
    simp [fw]
theorem bv {α β : Type} (v : α) (f : α → Option β) : bindV v f = f v := rfl
theorem odd_nat (Q : Nat) : ((Int.tmod (Q : Int) (2 : Int)) == (1 : Int)) = decide (Q % 2 = 1) := by
  rw [show (2 : Int) = ((2 : Nat) : Int) by rfl, tmod_nat, Bool.eq_iff_iff]
  simp only [beq_iff_eq, decide_eq_true_eq]
  omega
theorem odd_lo (Q : Nat) : ((Int.tmod (WR Q).Lo (2 : Int)) == (1 : Int)) = decide (Q % 2 = 1) := by
  show ((Int.tmod ((Q % 18446744073709551616 : Nat) : Int) (2 : Int)) == (1 : Int)) = _
  rw [odd_nat, decide_eq_decide]
  omega
/-! ### the rounded quotient -/
def rup (q r D : Nat) : Bool := decide (D < 2 * r) || (decide (D = 2 * r) && decide (q % 2 = 1))
def qd (N D T : Nat) : Nat := N * T / D + if rup (N * T / D) (N * T % D) D = true then 1 else 0
theorem ref_ten (k : Nat) (hk : k ≤ 9) : iter (ref01_Decimal_l7 (k : Int)) ((1 : Int), (0 : Int)) = some (((10 ^ k : Nat)) : Int) := by
  have : ∀ (n i : Nat), k - i = n → i ≤ k → iter (ref01_Decimal_l7 (k : Int)) (((10 ^ i : Nat) : Int), (i : Int)) = some (((10 ^ k : Nat)) : Int) := by
    intro n
    induction n with
    | zero =>
      intro i hn hi
      have : i = k := by omega
      subst this
      have st : ref01_Decimal_l7 (i : Int) (((10 ^ i : Nat) : Int), (i : Int)) = some (.inr ((10 ^ i : Nat) : Int)) := by
        simp only [ref01_Decimal_l7]
        rw [show decide ((i : Int) < (i : Int)) = false by simp, cond_false]
      exact iter_inr st
    | succ n ih =>
      intro i hn hi
      have hp := pow10_le i (by omega)
      have hp2 : 10 ^ (i + 1) ≤ 10 ^ 9 := Nat.pow_le_pow_right (by omega) (by omega)
      have st : ref01_Decimal_l7 (k : Int) (((10 ^ i : Nat) : Int), (i : Int)) = some (.inl (((10 ^ (i + 1) : Nat) : Int), ((i + 1 : Nat) : Int))) := by
        simp only [ref01_Decimal_l7]
        have e : IntKind.u64.wrap (((10 ^ i : Nat) : Int) * 10) = ((10 ^ (i + 1) : Nat) : Int) := by
          rw [Nat.pow_succ] at hp2 ⊢
          rw [show ((10 ^ i : Nat) : Int) * 10 = ((10 ^ i * 10 : Nat) : Int) by omega, wrapU_nat _ (by omega)]
        rw [show decide ((i : Int) < (k : Int)) = true by simp; omega, cond_true, e, i64_add1 i (by omega)]
      rw [iter_inl st]
      exact ih (i + 1) (by omega) (by omega)
  exact this k 0 (by omega) (by omega)
theorem cond_or (b c : Bool) (x y : Nat) : (bif b || c then x else y) = if (b || c) = true then x else y := by cases (b || c) <;> rfl
theorem RDecimal_eq (a : api_Ratio) (k : Nat) (hk : k ≤ 9) (hv : vR a = true) : ref01_Decimal a k = some (decOf a k (qd a.Num.natAbs a.Den.natAbs (10 ^ k))) := by
  have hx := (vR_iff a).1 hv
  have hT : 10 ^ k ≤ 10 ^ 9 := Nat.pow_le_pow_right (by omega) hk
  have hT0 : 0 < 10 ^ k := Nat.pow_pos (by decide)
  generalize hTT : 10 ^ k = T at hT hT0
  unfold ref01_Decimal
  rw [ValidR_eq, dsb, hv, show ((!true) || decide ((k : Int) < 0) || decide ((9 : Int) < (k : Int))) = false by simp; omega, cond_false, ref_ten k hk, dsb, hTT]
  unfold ref01_Decimal_j6
  have hD0 : 0 < a.Den.natAbs := by omega
  have hD : a.Den.natAbs ≤ 1152921504606846976 := by omega
  have hN : a.Num.natAbs ≤ 1152921504606846976 := by omega
  rw [Size_eq _ ⟨by omega, by omega⟩, dsb, Size_eq _ ⟨by omega, by omega⟩, dsb]
  generalize a.Num.natAbs = N at hN
  generalize a.Den.natAbs = D at hD hD0
  have hm : N * T ≤ 1152921504606846976 * 10 ^ 9 := Nat.mul_le_mul hN hT
  have hr : N * T % D < D := Nat.mod_lt _ hD0
  have hq : N * T / D ≤ N * T := Nat.div_le_self _ _
  rw [Product_eq N T (by omega) (by omega), dsb, WRs D (by omega), Divide_eq _ D (by omega) hD0 (by omega), dsb]
  dsimp only
  rw [Twice_eq _ (by omega), dsb, Nat.mod_eq_of_lt (by omega), Order_eq, dsb]
  have hodd : ((Int.tmod (WR (N * T / D)).Lo (2 : Int)) == (1 : Int)) = decide (N * T / D % 2 = 1) := odd_lo _
  have hc : ((decide ((0 : Int) < cmpI (2 * (N * T % D) : Nat) (D : Nat))) || ((cmpI (2 * (N * T % D) : Nat) (D : Nat) == (0 : Int)) && ((Int.tmod (WR (N * T / D)).Lo (2 : Int)) == (1 : Int)))) = rup (N * T / D) (N * T % D) D := by
    rw [hodd]
    unfold rup
    congr 1
    · rw [Bool.eq_iff_iff]; simp only [decide_eq_true_eq, cmpI_pos]; omega
    · congr 1
      rw [Bool.eq_iff_iff]; simp only [beq_iff_eq, decide_eq_true_eq, cmpI_zero]; omega
  rw [hc]
  unfold qd
  cases rup (N * T / D) (N * T % D) D with
  | true =>
    rw [cond_true]
    show (ref01_Plus (WR (N * T / D)) (WR 1)).bind _ = _
    rw [Plus_eq _ 1 (by omega), dsb, rj5_eq a k _ hk (by omega), if_pos rfl]
  | false =>
    rw [cond_false, rj5_eq a k _ hk (by omega), if_neg (by decide)]; rfl
theorem Decimal_eq (a : api_Ratio) (k : Nat) (hk : k ≤ 9) (hv : vR a = true) : ratio_Decimal a k = some (decOf a k (qd a.Num.natAbs a.Den.natAbs (10 ^ k))) := by
  have hx := (vR_iff a).1 hv
  have hT : 10 ^ k ≤ 10 ^ 9 := Nat.pow_le_pow_right (by omega) hk
  have hT0 : 0 < 10 ^ k := Nat.pow_pos (by decide)
  have hev : k ≠ 0 → 10 ^ k % 2 = 0 := fun h => by
    obtain ⟨j, rfl⟩ : ∃ j, k = j + 1 := ⟨k - 1, by omega⟩
    rw [Nat.pow_succ]; omega
  have hone : k = 0 → 10 ^ k = 1 := fun h => by subst h; rfl
  unfold ratio_Decimal
  rw [Valid_eq, dsb, hv, show ((!true) || decide ((k : Int) < 0) || decide ((9 : Int) < (k : Int))) = false by simp; omega, cond_false, power_eq k (by omega), dsb]
  have hD0 : 0 < a.Den.natAbs := by omega
  have hD : a.Den.natAbs ≤ 1152921504606846976 := by omega
  have hN : a.Num.natAbs ≤ 1152921504606846976 := by omega
  have hden : IntKind.u64.wrap a.Den = (a.Den.natAbs : Int) := by rw [wrapU_id (by omega) (by omega)]; omega
  rw [mag_eq _ ⟨by omega, by omega⟩, dsb, dsb, hden, req_pos (by omega), req_pos (by omega)]
  have j5 : ∀ w p : Nat, w < 18446744073709551616 → p < 10 ^ k → ratio_Decimal_j5 a k w p = some (decOf a k (w * 10 ^ k + p)) := fun w p => j5_eq a k w p hk
  have j6 : ∀ (w0 p0 : Nat) (y2 : Int), Int.tdiv y2 (IntKind.u64.wrap a.Den) = (w0 : Int) → w0 ≤ 1152921504606846976 → p0 ≤ 10 ^ k → ratio_Decimal_j6 a k (((10 ^ k : Nat)) : Int) y2 (p0 : Int) = some (decOf a k (w0 * 10 ^ k + p0)) := by
    intro w0 p0 y2 hy hw hp
    unfold ratio_Decimal_j6
    rw [hy, wrapU_nat w0 (by omega)]
    by_cases h : 10 ^ k ≤ p0
    · have e : p0 = 10 ^ k := by omega
      rw [show decide ((((10 ^ k : Nat)) : Int) ≤ (p0 : Int)) = true by rw [decide_eq_true_eq]; omega, cond_true]
      rw [bv, show IntKind.u64.wrap ((w0 : Int) + 1) = ((w0 + 1 : Nat) : Int) by rw [wrapU_id (by omega) (by omega)]; omega, show IntKind.u64.wrap ((p0 : Int) - (((10 ^ k : Nat)) : Int)) = ((0 : Nat) : Int) by rw [wrapU_id (by omega) (by omega)]; omega, j5 _ _ (by omega) hT0, e]
      congr 2
      rw [Nat.add_mul]; omega
    · rw [show decide ((((10 ^ k : Nat)) : Int) ≤ (p0 : Int)) = false by rw [decide_eq_false_iff_not]; omega, cond_false, j5 _ _ (by omega) (by omega)]
  generalize a.Num.natAbs = N at hN ⊢
  generalize hDD : a.Den.natAbs = D at hD hD0 hden ⊢
  generalize hTT : 10 ^ k = T at hT hT0 hev hone j6 ⊢
  have hmod : N % D < D := Nat.mod_lt _ hD0
  have hm : N % D * T ≤ 1152921504606846976 * 10 ^ 9 := Nat.mul_le_mul (by omega) hT
  have hlt : N % D * T / D < T := by
    rw [Nat.div_lt_iff_lt_mul hD0, Nat.mul_comm T D]
    exact Nat.mul_lt_mul_of_pos_right hmod hT0
  have hr : N % D * T % D < D := Nat.mod_lt _ hD0
  have hNe : N * T = D * (N / D * T) + N % D * T := by
    rw [← Nat.mul_assoc, ← Nat.add_mul, Nat.div_add_mod]
  have hq : N * T / D = N / D * T + N % D * T / D := by rw [hNe, Nat.mul_add_div hD0]
  have hrr : N * T % D = N % D * T % D := by rw [hNe, Nat.mul_add_mod]
  have hND : N / D ≤ N := Nat.div_le_self _ _
  rw [tmod_nat, product_eq _ T (by omega) (by omega), dsb]
  rw [show ratio_wide.mk (hiW (N % D * T)) (loW (N % D * T)) = WW (N % D * T) from rfl, overW _ D (by omega) hD0 (by omega), dsb, modW _ D (by omega) hD0 (by omega), dsb]
  have hlo : (WW (N % D * T / D)).lo = ((N % D * T / D : Nat) : Int) := by
    show ((N % D * T / D % 18446744073709551616 : Nat) : Int) = _
    rw [Nat.mod_eq_of_lt (by omega)]
  have hy : ∀ x : Nat, x = N → Int.tdiv (x : Int) (IntKind.u64.wrap a.Den) = ((N / D : Nat) : Int) := fun x h => by rw [hden, h, tdiv_nat]
  have j7 : ∀ odd : Bool, odd = decide ((N / D * T + N % D * T / D) % 2 = 1) → ratio_Decimal_j7 a k (T : Int) (N : Int) (WW (N % D * T / D)) ((N % D * T % D : Nat) : Int) odd = some (decOf a k (qd N D T)) := by
    intro odd ho
    have n1 : (0 : Int) ≤ ((N % D * T / D : Nat) : Int) := Int.natCast_nonneg _
    have n2 : (0 : Int) ≤ ((N % D * T % D : Nat) : Int) := Int.natCast_nonneg _
    unfold ratio_Decimal_j7 qd
    rw [hlo, hq, hrr]
    have e1 : IntKind.u64.wrap (IntKind.u64.wrap a.Den - ((N % D * T % D : Nat) : Int)) = ((D - N % D * T % D : Nat) : Int) := by
      rw [hden, wrapU_id (by omega) (by omega)]; omega
    have hc : ((decide (IntKind.u64.wrap (IntKind.u64.wrap a.Den - ((N % D * T % D : Nat) : Int)) < ((N % D * T % D : Nat) : Int))) || ((((N % D * T % D : Nat) : Int) == (IntKind.u64.wrap (IntKind.u64.wrap a.Den - ((N % D * T % D : Nat) : Int)))) && odd)) = rup (N / D * T + N % D * T / D) (N % D * T % D) D := by
      rw [e1, ho]
      unfold rup
      congr 1
      · rw [Bool.eq_iff_iff]; simp only [decide_eq_true_eq]; omega
      · congr 1
        rw [Bool.eq_iff_iff]; simp only [beq_iff_eq, decide_eq_true_eq]; omega
    rw [hc]
    cases rup (N / D * T + N % D * T / D) (N % D * T % D) D with
    | true =>
      rw [cond_true, show IntKind.u64.wrap (((N % D * T / D : Nat) : Int) + 1) = ((N % D * T / D + 1 : Nat) : Int) by rw [wrapU_id (by omega) (by omega)]; omega, j6 (N / D) _ _ (hy N rfl) (by omega) (by omega), if_pos rfl, Nat.add_assoc]
    | false =>
      rw [cond_false, j6 (N / D) _ _ (hy N rfl) (by omega) (by omega), if_neg (by decide)]; rfl
  by_cases h0 : k = 0
  · rw [show ((k : Int) == 0) = true by simpa using h0, cond_true]
    refine j7 _ ?_
    rw [show Int.tdiv (N : Int) (D : Int) = ((N / D : Nat) : Int) from tdiv_nat N D, wrapU_nat _ (by omega), odd_nat, hone h0, Nat.mul_one, Nat.mul_one, Nat.div_eq_of_lt hmod, Nat.add_zero]
  · rw [show ((k : Int) == 0) = false by simpa using h0, cond_false]
    refine j7 _ ?_
    rw [hlo, odd_nat, decide_eq_decide]
    have := hev h0
    have e4 : N / D * T % 2 = 0 := by rw [Nat.mul_mod, this]; simp
    omega
theorem Dec_both (a : api_Ratio) (n : Int) : ∃ s, ratio_Decimal a n = some s ∧ ref01_Decimal a n = some s := by
  by_cases h : vR a = true ∧ 0 ≤ n ∧ n ≤ 9
  · obtain ⟨hv, h0, h9⟩ := h
    obtain ⟨k, rfl⟩ : ∃ k : Nat, n = k := ⟨n.toNat, by omega⟩
    exact ⟨_, Decimal_eq a k (by omega) hv, RDecimal_eq a k (by omega) hv⟩
  · have hb : (((!(vR a)) || (decide (n < (0 : Int)))) || (decide ((9 : Int) < n))) = true := by
      simp only [Bool.or_eq_true, Bool.not_eq_true', decide_eq_true_eq]
      by_cases hv : vR a = true
      · by_cases h0 : n < 0
        · exact .inl (.inr h0)
        · by_cases h9 : 9 < n
          · exact .inr h9
          · exact absurd ⟨hv, by omega, by omega⟩ h
      · exact .inl (.inl (by simpa using hv))
    refine ⟨[], ?_, ?_⟩
    · unfold ratio_Decimal
      rw [Valid_eq, dsb, hb, cond_true]
    · unfold ref01_Decimal
      rw [ValidR_eq, dsb, hb, cond_true]
theorem pure_RatioDecimals (t : List Int) (digits : Int) : law01_RatioDecimals t digits = some true := by
  unfold law01_RatioDecimals
  obtain ⟨t0, e0, k0⟩ := new_ok t
  rw [e0, dsb]
  obtain ⟨a, t1, e1, k1, _⟩ := tLoose t0 k0
  rw [e1, dsb]
  dsimp only
  obtain ⟨y, e2, _⟩ := cut_ok digits 10 (by omega)
  rw [e2, dsb]
  obtain ⟨s, e3, e4⟩ := Dec_both a digits
  obtain ⟨u, e5, e6⟩ := Dec_both a y
  rw [e3, dsb, e4, dsb, e5, e6, awake_eq]
  simp [req]
end Go.LS
