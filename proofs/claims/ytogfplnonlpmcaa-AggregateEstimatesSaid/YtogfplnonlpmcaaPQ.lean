/-
  Division of two words by one (math/bits.Div64 and Rem64), and lowest terms of two words.
  Conditions: numbers in the ranges of their Go types; the divisor is greater than the upper word.
-/
import Derived.Test.YtogfplnonlpmcaaPO
namespace Go.LS
set_option linter.all false
set_option linter.unusedSimpArgs false
set_option linter.unusedVariables false
set_option maxRecDepth 20000

/-! ### how many bits -/
def tab8 : Str := ((List.append (List.append [0, 1, 2, 2, 3, 3, 3, 3, 4, 4, 4, 4, 4, 4, 4, 4, 5, 5, 5, 5, 5, 5, 5, 5, 5, 5, 5, 5, 5, 5, 5, 5, 6, 6, 6, 6, 6, 6, 6, 6, 6, 6, 6, 6, 6, 6, 6, 6, 6, 6, 6, 6, 6, 6, 6, 6, 6, 6, 6, 6, 6, 6, 6, 6] [7, 7, 7, 7, 7, 7, 7, 7, 7, 7, 7, 7, 7, 7, 7, 7, 7, 7, 7, 7, 7, 7, 7, 7, 7, 7, 7, 7, 7, 7, 7, 7, 7, 7, 7, 7, 7, 7, 7, 7, 7, 7, 7, 7, 7, 7, 7, 7, 7, 7, 7, 7, 7, 7, 7, 7, 7, 7, 7, 7, 7, 7, 7, 7]) (List.append [8, 8, 8, 8, 8, 8, 8, 8, 8, 8, 8, 8, 8, 8, 8, 8, 8, 8, 8, 8, 8, 8, 8, 8, 8, 8, 8, 8, 8, 8, 8, 8, 8, 8, 8, 8, 8, 8, 8, 8, 8, 8, 8, 8, 8, 8, 8, 8, 8, 8, 8, 8, 8, 8, 8, 8, 8, 8, 8, 8, 8, 8, 8, 8] [8, 8, 8, 8, 8, 8, 8, 8, 8, 8, 8, 8, 8, 8, 8, 8, 8, 8, 8, 8, 8, 8, 8, 8, 8, 8, 8, 8, 8, 8, 8, 8, 8, 8, 8, 8, 8, 8, 8, 8, 8, 8, 8, 8, 8, 8, 8, 8, 8, 8, 8, 8, 8, 8, 8, 8, 8, 8, 8, 8, 8, 8, 8, 8])) : Str)
theorem tab8_ok : ∀ x : _root_.Fin 256, x.val = 0 ∨ (1 ≤ (tab8.getD x.val 0).toNat ∧ (tab8.getD x.val 0).toNat ≤ 8 ∧ 2 ^ ((tab8.getD x.val 0).toNat - 1) ≤ x.val ∧ x.val < 2 ^ (tab8.getD x.val 0).toNat) := by decide +kernel
theorem len1 (y x n : Nat) (hx0 : 0 < x) (hx : x < 256) (hn : n ≤ 56) (he : y / 2 ^ n = x) : ∃ L : Nat, 1 ≤ L ∧ L ≤ n + 8 ∧ bits_Len64_j1 (x : Int) (n : Int) = some (L : Int) ∧ 2 ^ (L - 1) ≤ y ∧ y < 2 ^ L := by
  have h := tab8_ok ⟨x, hx⟩
  simp only at h
  generalize ht : (tab8.getD x 0).toNat = t at h
  rcases h with h | ⟨h1, h2, h3, h4⟩
  · omega
  have ew : IntKind.u8.wrap (x : Int) = (x : Int) := by
    simp only [IntKind.wrap, IntKind.bits, IntKind.signed]; simp; omega
  refine ⟨n + t, by omega, by omega, ?_, ?_, ?_⟩
  · show (req ((0 ≤ IntKind.u8.wrap (x : Int) ∧ IntKind.u8.wrap (x : Int) < (tab8.length : Int))) <| bindV (IntKind.i64.wrap ((n : Int) + (IntKind.i64.wrap (sx tab8 (IntKind.u8.wrap (x : Int)))))) fun n3 => some n3) = _
    rw [ew, req_pos ⟨by omega, by rw [show tab8.length = 256 by decide]; omega⟩]
    have e2 : sx tab8 (x : Int) = (t : Int) := by unfold sx; rw [Int.toNat_natCast, ht]
    rw [e2]
    unfold bindV
    rw [wrap64 (n := (t : Int)) (by omega) (by omega), wrap64 (by omega) (by omega)]
    simp
  · rw [show n + t - 1 = (t - 1) + n by omega, Nat.pow_add]
    rw [← he] at h3
    exact (Nat.le_div_iff_mul_le (Nat.two_pow_pos n)).1 h3
  · rw [Nat.add_comm n t, Nat.pow_add]
    rw [← he] at h4
    exact (Nat.div_lt_iff_lt_mul (Nat.two_pow_pos n)).1 h4
theorem shr_lit (x j : Nat) (J : Int) (hJ : J = (j : Int)) (hj : j ≤ 64) : bShr .u64 (x : Int) J = ((x / 2 ^ j : Nat) : Int) := by rw [hJ]; exact shrN x j hj
theorem len2 (y x n : Nat) (hx0 : 0 < x) (hx : x < 65536) (hn : n ≤ 48) (he : y / 2 ^ n = x) : ∃ L : Nat, 1 ≤ L ∧ L ≤ n + 16 ∧ bits_Len64_j2 (x : Int) (n : Int) = some (L : Int) ∧ 2 ^ (L - 1) ≤ y ∧ y < 2 ^ L := by
  unfold bits_Len64_j2
  by_cases hc : 256 ≤ x
  · rw [show decide ((256 : Int) ≤ (x : Int)) = true by simp only [decide_eq_true_eq]; omega, cond_true, shr_lit x 8 8 rfl (by omega), wrap64 (by omega) (by omega), show (n : Int) + 8 = ((n + 8 : Nat) : Int) by omega]
    obtain ⟨L, h1, h2, h3⟩ := len1 y (x / 2 ^ 8) (n + 8) (by omega) (by omega) (by omega) (by rw [Nat.pow_add, ← Nat.div_div_eq_div_mul, he])
    exact ⟨L, h1, by omega, h3⟩
  · rw [show decide ((256 : Int) ≤ (x : Int)) = false by simp only [decide_eq_false_iff_not]; omega, cond_false]
    obtain ⟨L, h1, h2, h3⟩ := len1 y x n hx0 (by omega) (by omega) he
    exact ⟨L, h1, by omega, h3⟩
theorem len3 (y x n : Nat) (hx0 : 0 < x) (hx : x < 4294967296) (hn : n ≤ 32) (he : y / 2 ^ n = x) : ∃ L : Nat, 1 ≤ L ∧ L ≤ n + 32 ∧ bits_Len64_j3 (x : Int) (n : Int) = some (L : Int) ∧ 2 ^ (L - 1) ≤ y ∧ y < 2 ^ L := by
  unfold bits_Len64_j3
  by_cases hc : 65536 ≤ x
  · rw [show decide ((65536 : Int) ≤ (x : Int)) = true by simp only [decide_eq_true_eq]; omega, cond_true, shr_lit x 16 16 rfl (by omega), wrap64 (by omega) (by omega), show (n : Int) + 16 = ((n + 16 : Nat) : Int) by omega]
    obtain ⟨L, h1, h2, h3⟩ := len2 y (x / 2 ^ 16) (n + 16) (by omega) (by omega) (by omega) (by rw [Nat.pow_add, ← Nat.div_div_eq_div_mul, he])
    exact ⟨L, h1, by omega, h3⟩
  · rw [show decide ((65536 : Int) ≤ (x : Int)) = false by simp only [decide_eq_false_iff_not]; omega, cond_false]
    obtain ⟨L, h1, h2, h3⟩ := len2 y x n hx0 (by omega) (by omega) he
    exact ⟨L, h1, by omega, h3⟩
theorem Len64_eq (y : Nat) (h0 : 0 < y) (h : y < 18446744073709551616) : ∃ L : Nat, 1 ≤ L ∧ L ≤ 64 ∧ bits_Len64 (y : Int) = some (L : Int) ∧ 2 ^ (L - 1) ≤ y ∧ y < 2 ^ L := by
  unfold bits_Len64
  by_cases hc : 4294967296 ≤ y
  · rw [show decide ((4294967296 : Int) ≤ (y : Int)) = true by simp only [decide_eq_true_eq]; omega, cond_true, shr_lit y 32 32 rfl (by omega), show (32 : Int) = ((32 : Nat) : Int) by rfl]
    exact len3 y (y / 2 ^ 32) 32 (by omega) (by omega) (by omega) rfl
  · rw [show decide ((4294967296 : Int) ≤ (y : Int)) = false by simp only [decide_eq_false_iff_not]; omega, cond_false]
    obtain ⟨L, h1, h2, h3⟩ := len3 y y 0 h0 (by omega) (by omega) (by simp)
    exact ⟨L, h1, by omega, h3⟩
/-- how far a word is shifted -/
theorem Lead_eq (y : Nat) (h0 : 0 < y) (h : y < 18446744073709551616) : ∃ s : Nat, s ≤ 63 ∧ bits_LeadingZeros64 (y : Int) = some (s : Int) ∧ 9223372036854775808 ≤ y * 2 ^ s ∧ y * 2 ^ s < 18446744073709551616 := by
  obtain ⟨L, h1, h2, h3, h4, h5⟩ := Len64_eq y h0 h
  refine ⟨64 - L, by omega, ?_, ?_, ?_⟩
  · unfold bits_LeadingZeros64
    rw [h3]
    simp only [Option.bind]
    rw [wrap64 (by omega) (by omega), show (64 : Int) - (L : Int) = ((64 - L : Nat) : Int) by omega]
  · have := Nat.mul_le_mul_right (2 ^ (64 - L)) h4
    rw [← Nat.pow_add, show L - 1 + (64 - L) = 63 by omega] at this
    simpa using this
  · have := Nat.mul_lt_mul_of_pos_right h5 (Nat.two_pow_pos (64 - L))
    rw [← Nat.pow_add, show L + (64 - L) = 64 by omega] at this
    simpa using this

/-! ### one digit of the quotient -/
theorem knuth {σ : Type} {f : σ → Option (σ ⊕ Int)} (en : Nat → Nat → σ) (v1 v0 d u : Nat) (hv1 : 2147483648 ≤ v1) (hv1' : v1 < 4294967296) (hv0 : v0 < 4294967296) (hd : d < 4294967296) (hu : u < v1 * 4294967296 + v0)
    (hf : ∀ q r, q ≤ 4294967297 → r < 4294967296 → f (en q r) = some (if 4294967296 ≤ q ∨ 4294967296 * r + d < q * v0 then (if 4294967296 ≤ r + v1 then .inr ((q - 1 : Nat) : Int) else .inl (en (q - 1) (r + v1))) else .inr (q : Int))) :
    ∀ q r, q * v1 + r = u → q ≤ 4294967297 → r < 4294967296 → (u * 4294967296 + d) / (v1 * 4294967296 + v0) ≤ q → iter f (en q r) = some (((u * 4294967296 + d) / (v1 * 4294967296 + v0) : Nat) : Int) := by
  have hy : 0 < v1 * 4294967296 + v0 := by omega
  have hQ : (u * 4294967296 + d) / (v1 * 4294967296 + v0) < 4294967296 := by
    rw [Nat.div_lt_iff_lt_mul hy]; omega
  -- what a candidate says
  have cand : ∀ q r, q * v1 + r = u → (q * v0 ≤ 4294967296 * r + d ↔ q ≤ (u * 4294967296 + d) / (v1 * 4294967296 + v0)) := by
    intro q r he
    rw [Nat.le_div_iff_mul_le hy, Nat.mul_add, ← Nat.mul_assoc]
    omega
  intro q
  induction q with
  | zero =>
    intro r he hq hr hle
    have h1 := hf 0 r hq hr
    rw [if_neg (by omega)] at h1
    rw [iter_inr h1]
    congr 1
    have : (u * 4294967296 + d) / (v1 * 4294967296 + v0) = 0 := Nat.le_zero.1 hle
    rw [this]
  | succ q ih =>
    intro r he hq hr hle
    have h1 := hf (q + 1) r hq hr
    have hc := cand (q + 1) r he
    by_cases hb : 4294967296 ≤ q + 1 ∨ 4294967296 * r + d < (q + 1) * v0
    · rw [if_pos hb] at h1
      have hlt : (u * 4294967296 + d) / (v1 * 4294967296 + v0) ≤ q := by
        rcases hb with hb | hb
        · omega
        · have : ¬ (q + 1 ≤ (u * 4294967296 + d) / (v1 * 4294967296 + v0)) := fun h => by have := hc.2 h; omega
          omega
      have he' : q * v1 + (r + v1) = u := by rw [Nat.add_mul] at he; omega
      by_cases hs : 4294967296 ≤ r + v1
      · rw [if_pos hs] at h1
        rw [iter_inr h1]
        congr 1
        have h2 : q * v0 ≤ 4294967296 * 4294967296 := Nat.mul_le_mul (by omega) (by omega)
        have h3 := (cand q (r + v1) he').1 (by omega)
        have : q = (u * 4294967296 + d) / (v1 * 4294967296 + v0) := by omega
        simp only [Nat.add_sub_cancel]
        rw [← this]
      · rw [if_neg hs] at h1
        rw [iter_inl h1]
        exact ih (r + v1) he' (by omega) (by omega) hlt
    · rw [if_neg hb] at h1
      rw [iter_inr h1]
      congr 1
      have h3 := hc.1 (by omega)
      have : q + 1 = (u * 4294967296 + d) / (v1 * 4294967296 + v0) := by omega
      rw [← this]
/-- the first candidate -/
theorem knuth_first (v1 v0 d u : Nat) (hv1 : 2147483648 ≤ v1) (hv0 : v0 < 4294967296) (hd : d < 4294967296) (hu : u < v1 * 4294967296 + v0) :
    u / v1 * v1 + u % v1 = u ∧ u / v1 ≤ 4294967297 ∧ u % v1 < v1 ∧ (u * 4294967296 + d) / (v1 * 4294967296 + v0) ≤ u / v1 := by
  have h0 : 0 < v1 := by omega
  refine ⟨by rw [Nat.mul_comm]; exact Nat.div_add_mod u v1, ?_, Nat.mod_lt _ h0, ?_⟩
  · have : u / v1 < 4294967298 := by
      rw [Nat.div_lt_iff_lt_mul h0]; omega
    omega
  · have h1 := Nat.div_add_mod u v1
    have h2 := Nat.mod_lt u h0
    have : (u * 4294967296 + d) / (v1 * 4294967296 + v0) < u / v1 + 1 := by
      rw [Nat.div_lt_iff_lt_mul (by omega)]
      have e : (u / v1 + 1) * (v1 * 4294967296 + v0) = (v1 * (u / v1)) * 4294967296 + v1 * 4294967296 + (u / v1 + 1) * v0 := by
        rw [Nat.mul_add, Nat.add_mul, ← Nat.mul_assoc, Nat.mul_comm (u / v1) v1]; omega
      omega
    omega

/-! ### the whole -/
theorem and32n (x : Nat) (hx : x < 18446744073709551616) : bAnd .u64 (x : Int) 4294967295 = ((x % 4294967296 : Nat) : Int) := and32 x hx
theorem wrap3 (u d P R : Nat) (h : P + R = u * 4294967296 + d) (hR : R < 18446744073709551616) : IntKind.u64.wrap (IntKind.u64.wrap (IntKind.u64.wrap ((u : Int) * 4294967296) + (d : Int)) - IntKind.u64.wrap (P : Int)) = (R : Int) := by
  rw [wrapU, wrapU, wrapU, wrapU]
  omega
theorem wrap2 (q x : Nat) (hq : q < 4294967296) (hx : x < 4294967296) : IntKind.u64.wrap (IntKind.u64.wrap ((q : Int) * 4294967296) + (x : Int)) = ((q * 4294967296 + x : Nat) : Int) := by
  rw [wrapU, wrapU]
  omega
noncomputable def kl4 (Y d : Nat) : Int × Int → Option ((Int × Int) ⊕ Int) :=
  fun (q12, rhat4) =>
    bif ((decide ((4294967296 : Int) ≤ q12)) || (decide ((IntKind.u64.wrap ((IntKind.u64.wrap ((4294967296 : Int) * rhat4)) + (d : Int))) < (IntKind.u64.wrap (q12 * ((Y % 4294967296 : Nat) : Int)))))) then
      bindV (IntKind.u64.wrap (rhat4 + ((Y / 4294967296 : Nat) : Int))) fun rhat5 =>
      bif (decide ((4294967296 : Int) ≤ rhat5)) then
        some (.inr (IntKind.u64.wrap (q12 - (1 : Int))))
      else
        some (.inl ((IntKind.u64.wrap (q12 - (1 : Int))), rhat5))
    else
      some (.inr q12)
noncomputable def kl2 (Y d : Nat) : Int × Int → Option ((Int × Int) ⊕ Int) :=
  fun (rhat2, q02) =>
    bif ((decide ((4294967296 : Int) ≤ q02)) || (decide ((IntKind.u64.wrap ((IntKind.u64.wrap ((4294967296 : Int) * rhat2)) + (d : Int))) < (IntKind.u64.wrap (q02 * ((Y % 4294967296 : Nat) : Int)))))) then
      bindV (IntKind.u64.wrap (rhat2 + ((Y / 4294967296 : Nat) : Int))) fun rhat3 =>
      bif (decide ((4294967296 : Int) ≤ rhat3)) then
        some (.inr (IntKind.u64.wrap (q02 - (1 : Int))))
      else
        some (.inl (rhat3, (IntKind.u64.wrap (q02 - (1 : Int)))))
    else
      some (.inr q02)
theorem Div64_eq (hi lo y : Nat) (hh : hi < y) (hl : lo < 18446744073709551616) (hy : y < 18446744073709551616) : bits_Div64 (hi : Int) (lo : Int) (y : Int) = some ((((hi * 18446744073709551616 + lo) / y : Nat) : Int), (((hi * 18446744073709551616 + lo) % y : Nat) : Int)) := by
  have hy0 : 0 < y := by omega
  by_cases h0 : hi = 0
  · subst h0
    have := Div64_0 lo y hl hy0
    simpa using this
  unfold bits_Div64 bits_Div64_j6 bits_Div64_j5
  rw [show ((y : Int) == 0) = false by simp; omega, cond_false, show decide ((y : Int) ≤ (hi : Int)) = false by simp only [decide_eq_false_iff_not]; omega, cond_false, show ((hi : Int) == 0) = false by simp; omega, cond_false]
  obtain ⟨s, hs, e1, n1, n2⟩ := Lead_eq y hy0 hy
  rw [e1, some_bind]
  rw [wrapU_nat s (by omega), wrapU_id (n := (64 : Int) - (s : Int)) (by omega) (by omega), req_pos (by omega), req_pos (by omega)]
  have hsp := Nat.two_pow_pos s
  have hB : 2 ^ (64 - s) * 2 ^ s = 18446744073709551616 := by rw [← Nat.pow_add, show 64 - s + s = 64 by omega]
  -- the divisor, shifted
  have ey : bShl .u64 (y : Int) (s : Int) = ((y * 2 ^ s : Nat) : Int) := by rw [shlN y s (by omega), Nat.mod_eq_of_lt n2]
  -- the dividend, shifted
  have hhs : hi * 2 ^ s + 2 ^ s ≤ y * 2 ^ s := by
    have := Nat.mul_le_mul_right (2 ^ s) (show hi + 1 ≤ y by omega)
    rw [Nat.add_mul, Nat.one_mul] at this; exact this
  have hlo : lo / 2 ^ (64 - s) < 2 ^ s := by
    rw [Nat.div_lt_iff_lt_mul (Nat.two_pow_pos _), Nat.mul_comm, hB]; exact hl
  have eu : bOr .u64 (bShl .u64 (hi : Int) (s : Int)) (bShr .u64 (lo : Int) ((64 : Int) - (s : Int))) = ((hi * 2 ^ s + lo / 2 ^ (64 - s) : Nat) : Int) := by
    rw [shlN hi s (by omega), Nat.mod_eq_of_lt (by omega), shr_lit lo (64 - s) _ (by omega) (by omega)]
    unfold bOr
    have := Nat.two_pow_add_eq_or_of_lt (i := s) (b := lo / 2 ^ (64 - s)) hlo hi
    rw [Nat.mul_comm _ hi] at this
    rw [BitVec.toNat_or, ofU _ (by omega), ofU _ (by omega), ← this, wrapU_id (by omega) (by omega)]
  have el : bShl .u64 (lo : Int) (s : Int) = ((lo * 2 ^ s % 18446744073709551616 : Nat) : Int) := shlN lo s (by omega)
  have hU : (hi * 18446744073709551616 + lo) * 2 ^ s = (hi * 2 ^ s + lo / 2 ^ (64 - s)) * 18446744073709551616 + lo * 2 ^ s % 18446744073709551616 := by
    have h1 : lo * 2 ^ s / 18446744073709551616 = lo / 2 ^ (64 - s) := by
      rw [← hB, Nat.mul_div_mul_right _ _ hsp]
    have h2 := Nat.div_add_mod (lo * 2 ^ s) 18446744073709551616
    rw [h1] at h2
    rw [Nat.add_mul, Nat.add_mul, Nat.mul_right_comm]; omega
  have hMy : (hi * 18446744073709551616 + lo) / y = (hi * 18446744073709551616 + lo) * 2 ^ s / (y * 2 ^ s) := (Nat.mul_div_mul_right _ _ hsp).symm
  have hMm : (hi * 18446744073709551616 + lo) % y = (hi * 18446744073709551616 + lo) * 2 ^ s % (y * 2 ^ s) / 2 ^ s := by
    rw [Nat.mul_mod_mul_right, Nat.mul_div_cancel _ hsp]
  rw [hMy, hMm, hU]
  have hun : hi * 2 ^ s + lo / 2 ^ (64 - s) < y * 2 ^ s := by omega
  have hul : lo * 2 ^ s % 18446744073709551616 < 18446744073709551616 := Nat.mod_lt _ (by omega)
  unfold bits_Div64_j3 bits_Div64_j1 bindV
  dsimp only
  have fl4 : bits_Div64_l4 (lo : Int) (y : Int) (s : Int) = kl4 (y * 2 ^ s) (lo * 2 ^ s % 18446744073709551616 / 4294967296) := by
    funext ⟨q, r⟩
    simp only [bits_Div64_l4, kl4]
    rw [wrapU_nat s (by omega), ey, el, shr32, shr32, and32 _ n2]
  have fl2 : bits_Div64_l2 (lo : Int) (y : Int) (s : Int) = kl2 (y * 2 ^ s) (lo * 2 ^ s % 18446744073709551616 % 4294967296) := by
    funext ⟨r, q⟩
    simp only [bits_Div64_l2, kl2]
    rw [wrapU_nat s (by omega), ey, el, shr32, and32 _ n2, and32 _ hul]
  rw [fl4, fl2, req_pos (by omega)]
  simp only [wrapU_nat s (by omega)]
  rw [ey, eu, el]
  simp only [shr32]
  rw [and32 _ hul]
  generalize hYdef : y * 2 ^ s = Y at *
  generalize hUdef : hi * 2 ^ s + lo / 2 ^ (64 - s) = u at *
  generalize hLdef : lo * 2 ^ s % 18446744073709551616 = l at *
  have hv1 : 2147483648 ≤ Y / 4294967296 := by omega
  have hv1' : Y / 4294967296 < 4294967296 := by omega
  have hv0 : Y % 4294967296 < 4294967296 := by omega
  have hYe : Y / 4294967296 * 4294967296 + Y % 4294967296 = Y := by omega
  rw [req_pos (by omega)]
  have step : ∀ (d q r : Nat), d < 4294967296 → q ≤ 4294967297 → r < 4294967296 →
      (((decide ((4294967296 : Int) ≤ (q : Int))) || (decide ((IntKind.u64.wrap ((IntKind.u64.wrap ((4294967296 : Int) * (r : Int))) + (d : Int))) < (IntKind.u64.wrap ((q : Int) * ((Y % 4294967296 : Nat) : Int)))))) = decide (4294967296 ≤ q ∨ 4294967296 * r + d < q * (Y % 4294967296))) ∧ IntKind.u64.wrap ((r : Int) + ((Y / 4294967296 : Nat) : Int)) = ((r + Y / 4294967296 : Nat) : Int) := by
    intro d q r hd hq hr
    have hm : q * (Y % 4294967296) ≤ 4294967297 * 4294967295 := Nat.mul_le_mul hq (by omega)
    have e1 : (q : Int) * ((Y % 4294967296 : Nat) : Int) = ((q * (Y % 4294967296) : Nat) : Int) := by rw [Int.natCast_mul]
    rw [e1, wrapU_id (n := (4294967296 : Int) * (r : Int)) (by omega) (by omega), wrapU_id (n := (4294967296 : Int) * (r : Int) + (d : Int)) (by omega) (by omega), wrapU_id (n := ((q * (Y % 4294967296) : Nat) : Int)) (by omega) (by omega), wrapU_id (n := (r : Int) + ((Y / 4294967296 : Nat) : Int)) (by omega) (by omega)]
    refine ⟨?_, by omega⟩
    rw [Bool.eq_iff_iff]
    simp only [Bool.or_eq_true, decide_eq_true_eq]
    omega
  -- the first digit
  obtain ⟨f1, f2, f3, f4⟩ := knuth_first (Y / 4294967296) (Y % 4294967296) (l / 4294967296) u hv1 hv0 (by omega) (by omega)
  have k1 := knuth (f := kl4 Y (l / 4294967296)) (fun q r => ((q : Int), (r : Int))) (Y / 4294967296) (Y % 4294967296) (l / 4294967296) u hv1 hv1' hv0 (by omega) (by omega) (by
    intro q r hq hr
    obtain ⟨s1, s2⟩ := step (l / 4294967296) q r (by omega) hq hr
    simp only [kl4]
    rw [s1, s2]
    unfold bindV
    dsimp only
    by_cases hc : 4294967296 ≤ q ∨ 4294967296 * r + l / 4294967296 < q * (Y % 4294967296)
    · rw [if_pos hc, show decide (4294967296 ≤ q ∨ 4294967296 * r + l / 4294967296 < q * (Y % 4294967296)) = true by simpa using hc, cond_true]
      have hq1 : 1 ≤ q := by
        rcases hc with hc | hc
        · omega
        · rcases Nat.eq_zero_or_pos q with h | h
          · subst h; omega
          · exact h
      rw [wrapU_id (n := (q : Int) - 1) (by omega) (by omega), show (q : Int) - 1 = ((q - 1 : Nat) : Int) by omega]
      by_cases hd : 4294967296 ≤ r + Y / 4294967296
      · rw [if_pos hd, show decide ((4294967296 : Int) ≤ ((r + Y / 4294967296 : Nat) : Int)) = true by simp only [decide_eq_true_eq]; omega, cond_true]
      · rw [if_neg hd, show decide ((4294967296 : Int) ≤ ((r + Y / 4294967296 : Nat) : Int)) = false by simp only [decide_eq_false_iff_not]; omega, cond_false]
    · rw [if_neg hc, show decide (4294967296 ≤ q ∨ 4294967296 * r + l / 4294967296 < q * (Y % 4294967296)) = false by simpa using hc, cond_false]) (u / (Y / 4294967296)) (u % (Y / 4294967296)) f1 f2 (by omega) f4
  rw [hYe] at k1
  have hQ1 : (u * 4294967296 + l / 4294967296) / Y < 4294967296 := by
    rw [Nat.div_lt_iff_lt_mul (by omega)]; omega
  have r1 := Nat.div_add_mod (u * 4294967296 + l / 4294967296) Y
  have r1' := Nat.mod_lt (u * 4294967296 + l / 4294967296) (show 0 < Y by omega)
  have eq1 : IntKind.u64.wrap (Int.tdiv (u : Int) ((Y / 4294967296 : Nat) : Int)) = ((u / (Y / 4294967296) : Nat) : Int) := by rw [tdiv_nat, wrapU_nat _ (by omega)]
  have er1 : IntKind.u64.wrap ((u : Int) - IntKind.u64.wrap (((u / (Y / 4294967296) : Nat) : Int) * ((Y / 4294967296 : Nat) : Int))) = ((u % (Y / 4294967296) : Nat) : Int) := by
    rw [← Int.natCast_mul, wrapU_nat _ (by omega), wrapU_id (by omega) (by omega)]; omega
  try dsimp only at k1
  rw [eq1, er1, k1, some_bind]
  -- what is left of the first digit
  have e21 : IntKind.u64.wrap (IntKind.u64.wrap (IntKind.u64.wrap ((u : Int) * 4294967296) + ((l / 4294967296 : Nat) : Int)) - IntKind.u64.wrap ((((u * 4294967296 + l / 4294967296) / Y : Nat) : Int) * (Y : Int))) = (((u * 4294967296 + l / 4294967296) % Y : Nat) : Int) := by
    rw [← Int.natCast_mul, Nat.mul_comm _ Y]
    exact wrap3 u (l / 4294967296) _ _ r1 (by omega)
  rw [e21, req_pos (by omega)]
  obtain ⟨R1, hR1⟩ : ∃ R1, (u * 4294967296 + l / 4294967296) % Y = R1 := ⟨_, rfl⟩
  obtain ⟨Q1, hQ1d⟩ : ∃ Q1, (u * 4294967296 + l / 4294967296) / Y = Q1 := ⟨_, rfl⟩
  rw [hR1, hQ1d] at r1
  rw [hR1] at r1'
  rw [hQ1d] at hQ1
  rw [hR1, hQ1d]
  clear k1 e21 f1 f2 f3 f4 eq1 er1
  -- the second digit
  obtain ⟨g1, g2, g3, g4⟩ := knuth_first (Y / 4294967296) (Y % 4294967296) (l % 4294967296) R1 hv1 hv0 (by omega) (by omega)
  have k2 := knuth (f := kl2 Y (l % 4294967296)) (fun q r => ((r : Int), (q : Int))) (Y / 4294967296) (Y % 4294967296) (l % 4294967296) R1 hv1 hv1' hv0 (by omega) (by omega) (by
    intro q r hq hr
    obtain ⟨s1, s2⟩ := step (l % 4294967296) q r (by omega) hq hr
    simp only [kl2]
    rw [s1, s2]
    unfold bindV
    dsimp only
    by_cases hc : 4294967296 ≤ q ∨ 4294967296 * r + l % 4294967296 < q * (Y % 4294967296)
    · rw [if_pos hc, show decide (4294967296 ≤ q ∨ 4294967296 * r + l % 4294967296 < q * (Y % 4294967296)) = true by simpa using hc, cond_true]
      have hq1 : 1 ≤ q := by
        rcases hc with hc | hc
        · omega
        · rcases Nat.eq_zero_or_pos q with h | h
          · subst h; omega
          · exact h
      rw [wrapU_id (n := (q : Int) - 1) (by omega) (by omega), show (q : Int) - 1 = ((q - 1 : Nat) : Int) by omega]
      by_cases hd : 4294967296 ≤ r + Y / 4294967296
      · rw [if_pos hd, show decide ((4294967296 : Int) ≤ ((r + Y / 4294967296 : Nat) : Int)) = true by simp only [decide_eq_true_eq]; omega, cond_true]
      · rw [if_neg hd, show decide ((4294967296 : Int) ≤ ((r + Y / 4294967296 : Nat) : Int)) = false by simp only [decide_eq_false_iff_not]; omega, cond_false]
    · rw [if_neg hc, show decide (4294967296 ≤ q ∨ 4294967296 * r + l % 4294967296 < q * (Y % 4294967296)) = false by simpa using hc, cond_false]) (R1 / (Y / 4294967296)) (R1 % (Y / 4294967296)) g1 g2 (by omega) g4
  rw [hYe] at k2
  have hQ2 : (R1 * 4294967296 + l % 4294967296) / Y < 4294967296 := by
    rw [Nat.div_lt_iff_lt_mul (by omega)]; omega
  have r2 := Nat.div_add_mod (R1 * 4294967296 + l % 4294967296) Y
  have r2' := Nat.mod_lt (R1 * 4294967296 + l % 4294967296) (show 0 < Y by omega)
  have eq2 : IntKind.u64.wrap (Int.tdiv (R1 : Int) ((Y / 4294967296 : Nat) : Int)) = ((R1 / (Y / 4294967296) : Nat) : Int) := by rw [tdiv_nat, wrapU_nat _ (by omega)]
  have er2 : IntKind.u64.wrap ((R1 : Int) - IntKind.u64.wrap (((R1 / (Y / 4294967296) : Nat) : Int) * ((Y / 4294967296 : Nat) : Int))) = ((R1 % (Y / 4294967296) : Nat) : Int) := by
    rw [← Int.natCast_mul, wrapU_nat _ (by omega), wrapU_id (by omega) (by omega)]; omega
  try dsimp only at k2
  rw [eq2, er2, k2, some_bind]
  have e22 : IntKind.u64.wrap (IntKind.u64.wrap (IntKind.u64.wrap ((R1 : Int) * 4294967296) + ((l % 4294967296 : Nat) : Int)) - IntKind.u64.wrap ((((R1 * 4294967296 + l % 4294967296) / Y : Nat) : Int) * (Y : Int))) = (((R1 * 4294967296 + l % 4294967296) % Y : Nat) : Int) := by
    rw [← Int.natCast_mul, Nat.mul_comm _ Y]
    exact wrap3 R1 (l % 4294967296) _ _ r2 (by omega)
  rw [req_pos (by omega), e22, shrN _ s (by omega)]
  -- together
  have hfin := (Nat.div_mod_unique (a := u * 18446744073709551616 + l) (b := Y) (c := (R1 * 4294967296 + l % 4294967296) % Y) (d := Q1 * 4294967296 + (R1 * 4294967296 + l % 4294967296) / Y) (by omega)).2 ⟨by
    rw [Nat.mul_add, ← Nat.mul_assoc]; omega, r2'⟩
  rw [hfin.1, hfin.2, wrap2 _ _ hQ1 hQ2]
end Go.LS
