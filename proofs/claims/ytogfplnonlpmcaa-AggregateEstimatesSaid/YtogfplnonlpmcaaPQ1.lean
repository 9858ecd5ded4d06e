/-
  Law 01: sums and differences of fractions.
  Conditions: numbers in the ranges of their Go types.
-/
import Derived.Test.YtogfplnonlpmcaaPQ
namespace Go.LS
set_option linter.all false
set_option linter.unusedSimpArgs false
set_option linter.unusedVariables false
set_option maxRecDepth 20000

abbrev WW (n : Nat) : ratio_wide := ⟨hiW n, loW n⟩
theorem rem_core (hi lo d : Nat) (hd : 0 < d) : (hi * 18446744073709551616 + lo) % d = (hi % d * 18446744073709551616 + lo) % d := by
  have h := Nat.div_add_mod hi d
  conv => lhs; rw [← h]
  rw [Nat.add_mul, Nat.mul_assoc, Nat.add_assoc, Nat.mul_add_mod]
theorem quo_core (hi lo d : Nat) (hd : 0 < d) : (hi * 18446744073709551616 + lo) / d = hi / d * 18446744073709551616 + (hi % d * 18446744073709551616 + lo) / d := by
  have h := Nat.div_add_mod hi d
  conv => lhs; rw [← h]
  rw [Nat.add_mul, Nat.mul_assoc, Nat.add_assoc, Nat.mul_add_div hd]
theorem modW (n d : Nat) (hn : n < 340282366920938463463374607431768211456) (hd : 0 < d) (hd2 : d < 18446744073709551616) : ratio_wide_mod (WW n) (d : Int) = some ((n % d : Nat) : Int) := by
  unfold ratio_wide_mod bits_Rem64
  dsimp only [WW]
  rw [req_pos (by omega), tmod_nat, Div64_eq _ _ d (Nat.mod_lt _ hd) (by omega) hd2]
  simp only [Option.bind]
  rw [← rem_core _ _ d hd, show n / 18446744073709551616 * 18446744073709551616 + n % 18446744073709551616 = n by omega]
theorem overW (n d : Nat) (hn : n < 340282366920938463463374607431768211456) (hd : 0 < d) (hd2 : d < 18446744073709551616) : ratio_wide_over (WW n) (d : Int) = some (WW (n / d)) := by
  unfold ratio_wide_over
  dsimp only [WW]
  have h1 := Nat.div_le_self (n / 18446744073709551616) d
  rw [req_pos (by omega), tmod_nat, tdiv_nat, Div64_eq _ _ d (Nat.mod_lt _ hd) (by omega) hd2, wrapU_nat _ (by omega)]
  simp only [Option.bind]
  have e := quo_core (n / 18446744073709551616) (n % 18446744073709551616) d hd
  rw [show n / 18446744073709551616 * 18446744073709551616 + n % 18446744073709551616 = n by omega] at e
  have hlt : (n / 18446744073709551616 % d * 18446744073709551616 + n % 18446744073709551616) / d < 18446744073709551616 := by
    rw [Nat.div_lt_iff_lt_mul hd]
    have := Nat.mod_lt (n / 18446744073709551616) hd
    have h2 : n / 18446744073709551616 % d * 18446744073709551616 + 18446744073709551616 ≤ 18446744073709551616 * d := by omega
    omega
  rw [e]
  generalize (n / 18446744073709551616 % d * 18446744073709551616 + n % 18446744073709551616) / d = x at *
  generalize n / 18446744073709551616 / d = z at *
  simp only [Option.some.injEq, hiW, loW, ratio_wide.mk.injEq]
  constructor <;> omega
theorem plusW (m n : Nat) (h : m + n < 340282366920938463463374607431768211456) : ratio_wide_plus (WW m) (WW n) = some (WW (m + n)) := by
  unfold ratio_wide_plus bits_Add64
  dsimp only [WW, hiW, loW]
  rw [req_pos (by omega)]
  simp only [Option.bind]
  rw [req_pos (by omega)]
  simp only [Option.some.injEq, ratio_wide.mk.injEq]
  constructor <;> omega
theorem minusW (m n : Nat) (h : n ≤ m) (hm : m < 340282366920938463463374607431768211456) : ratio_wide_minus (WW m) (WW n) = some (WW (m - n)) := by
  unfold ratio_wide_minus bits_Sub64
  dsimp only [WW, hiW, loW]
  rw [req_pos (by omega)]
  simp only [Option.bind]
  by_cases hlt : ((m % 18446744073709551616 : Nat) : Int) < ((n % 18446744073709551616 : Nat) : Int) + 0
  · rw [if_pos hlt, req_pos (by omega)]
    simp only [Option.some.injEq, ratio_wide.mk.injEq]
    constructor <;> omega
  · rw [if_neg hlt, req_pos (by omega)]
    simp only [Option.some.injEq, ratio_wide.mk.injEq]
    constructor <;> omega
/-- the sum of signed magnitudes -/
def addS (x : Bool) (m : Nat) (y : Bool) (n : Nat) : Bool × Nat := if x = y then (x, m + n) else if n ≤ m then (x, m - n) else (y, n - m)
theorem addS_le (x : Bool) (m : Nat) (y : Bool) (n : Nat) : (addS x m y n).2 ≤ m + n := by
  unfold addS; (repeat' split) <;> simp <;> omega
theorem addS_val (x : Bool) (m : Nat) (y : Bool) (n : Nat) : sv (addS x m y n).1 (addS x m y n).2 = sv x m + sv y n := by
  unfold addS
  split
  · rename_i h; subst h; cases x <;> simp [sv] <;> omega
  · rename_i h
    have hy : y = !x := by cases x <;> cases y <;> simp_all
    subst hy
    split <;> cases x <;> simp [sv] <;> omega
theorem addS_scale (x : Bool) (m : Nat) (y : Bool) (n g : Nat) (hg : 0 < g) : addS x (m * g) y (n * g) = ((addS x m y n).1, (addS x m y n).2 * g) := by
  unfold addS
  split
  · rw [Nat.add_mul]
  · by_cases h : n ≤ m
    · rw [if_pos h, if_pos (Nat.mul_le_mul_right g h), Nat.sub_mul]
    · rw [if_neg h, if_neg (fun h2 => h (Nat.le_of_mul_le_mul_right h2 hg)), Nat.sub_mul]
theorem cmpI_le (m n : Nat) : decide ((0 : Int) ≤ cmpI m n) = decide (n ≤ m) := by
  unfold cmpI
  rw [Bool.eq_iff_iff]
  simp only [decide_eq_true_eq]
  split
  · omega
  · split <;> omega
theorem plusS (x : Bool) (m : Nat) (y : Bool) (n : Nat) (h : m + n < 340282366920938463463374607431768211456) :
    ratio_signed_plus ⟨x, WW m⟩ ⟨y, WW n⟩ = some ⟨(addS x m y n).1, WW (addS x m y n).2⟩ := by
  unfold ratio_signed_plus addS
  dsimp only
  by_cases hxy : x = y
  · subst hxy
    rw [if_pos rfl, show (x == x) = true by simp, cond_true, plusW m n h]
    rfl
  · rw [if_neg hxy, show (x == y) = false by simpa using hxy, cond_false]
    have hc : ratio_wide_compare (WW m) (WW n) = some (cmpI m n) := wideCmp m n
    rw [hc, some_bind, cmpI_le]
    by_cases hmn : n ≤ m
    · rw [if_pos hmn, show decide (n ≤ m) = true by simpa using hmn, cond_true, minusW m n hmn (by omega)]; rfl
    · rw [if_neg hmn, show decide (n ≤ m) = false by simpa using hmn, cond_false, minusW n m (by omega) (by omega)]; rfl
/-- a sum is coprime to a denominator that the other part has not -/
theorem addS_cop (x : Bool) (m : Nat) (y : Bool) (n d : Nat) (hm : Nat.Coprime m d) (hn : d ∣ n) : Nat.Coprime (addS x m y n).2 d := by
  have key : ∀ k, Nat.gcd k d ∣ m → Nat.Coprime k d := fun k hk => by
    have := Nat.dvd_gcd hk (Nat.gcd_dvd_right k d)
    rw [hm] at this
    exact Nat.dvd_one.1 this
  apply key
  have h1 := Nat.gcd_dvd_left (addS x m y n).2 d
  have h2 : Nat.gcd (addS x m y n).2 d ∣ n := Nat.dvd_trans (Nat.gcd_dvd_right _ d) hn
  have h3 : (addS x m y n).2 = m + n ∨ (addS x m y n).2 + n = m ∨ (addS x m y n).2 + m = n := by
    unfold addS; (repeat' split) <;> simp <;> omega
  generalize (addS x m y n).2 = k at *
  generalize Nat.gcd k d = g at *
  rcases h3 with h3 | h3 | h3
  · rw [h3] at h1
    exact (Nat.dvd_add_iff_left h2).2 h1
  · have := Nat.dvd_add h1 h2
    rwa [h3] at this
  · rw [← h3] at h2
    exact (Nat.dvd_add_iff_right h1).2 h2
theorem addS_swap (x : Bool) (m : Nat) (y : Bool) (n : Nat) : (addS x m y n).2 = (addS y n x m).2 := by
  unfold addS
  by_cases h : x = y
  · subst h; simp; omega
  · have h' : ¬ y = x := fun e => h e.symm
    simp only [if_neg h, if_neg h']
    split <;> split <;> simp <;> omega
def addOf2 (a b : api_Ratio) : api_Ratio × Int :=
  if vR a = true ∧ vR b = true then redOf (addS (decide (a.Num < 0)) (a.Num.natAbs * b.Den.natAbs) (decide (b.Num < 0)) (b.Num.natAbs * a.Den.natAbs)).1 (addS (decide (a.Num < 0)) (a.Num.natAbs * b.Den.natAbs) (decide (b.Num < 0)) (b.Num.natAbs * a.Den.natAbs)).2 (a.Den.natAbs * b.Den.natAbs) else (⟨0, 0⟩, 1)
theorem add_lowest (x y : Bool) (na nb da db : Nat) (ha : Nat.gcd na da = 1) (hb : Nat.gcd nb db = 1) (h1 : 0 < da) (h2 : 0 < db) :
    redOf (addS x (na * db) y (nb * da)).1 (addS x (na * db) y (nb * da)).2 (da * db) =
      fitOf (addS x (na * (db / Nat.gcd da db)) y (nb * (da / Nat.gcd da db))).1 ((addS x (na * (db / Nat.gcd da db)) y (nb * (da / Nat.gcd da db))).2 / Nat.gcd (addS x (na * (db / Nat.gcd da db)) y (nb * (da / Nat.gcd da db))).2 (Nat.gcd da db))
        (da / Nat.gcd da db * (db / Nat.gcd (addS x (na * (db / Nat.gcd da db)) y (nb * (da / Nat.gcd da db))).2 (Nat.gcd da db))) := by
  have hg : 0 < Nat.gcd da db := Nat.gcd_pos_of_pos_left _ h1
  have ea := Nat.div_mul_cancel (Nat.gcd_dvd_left da db)
  have eb := Nat.div_mul_cancel (Nat.gcd_dvd_right da db)
  have hcop : Nat.Coprime (da / Nat.gcd da db) (db / Nat.gcd da db) := Nat.coprime_div_gcd_div_gcd hg
  generalize Nat.gcd da db = g at *
  generalize hd1 : da / g = d1 at *
  generalize hd2 : db / g = d2 at *
  have hs : addS x (na * db) y (nb * da) = ((addS x (na * d2) y (nb * d1)).1, (addS x (na * d2) y (nb * d1)).2 * g) := by
    rw [← addS_scale _ _ _ _ _ hg, Nat.mul_assoc, Nat.mul_assoc, ea, eb]
  rw [hs]
  have c1 : Nat.Coprime (addS x (na * d2) y (nb * d1)).2 d1 := addS_cop _ _ _ _ _ (Nat.Coprime.mul_left (Nat.Coprime.coprime_dvd_right ⟨g, ea.symm⟩ ha) hcop.symm) ⟨nb, Nat.mul_comm _ _⟩
  have c2 : Nat.Coprime (addS x (na * d2) y (nb * d1)).2 d2 := by
    rw [addS_swap]
    exact addS_cop _ _ _ _ _ (Nat.Coprime.mul_left (Nat.Coprime.coprime_dvd_right ⟨g, eb.symm⟩ hb) hcop) ⟨na, Nat.mul_comm _ _⟩
  generalize addS x (na * d2) y (nb * d1) = sk at *
  obtain ⟨s, k⟩ := sk
  dsimp only at *
  have hc : 0 < Nat.gcd k g := Nat.gcd_pos_of_pos_right _ hg
  have ek := Nat.div_mul_cancel (Nat.gcd_dvd_left k g)
  have eg := Nat.div_mul_cancel (Nat.gcd_dvd_right k g)
  have hcg : Nat.Coprime (k / Nat.gcd k g) (g / Nat.gcd k g) := Nat.coprime_div_gcd_div_gcd hc
  generalize Nat.gcd k g = c at *
  have hdb : db / c = d2 * (g / c) := by
    rw [← eb]
    conv => lhs; rw [← eg]
    rw [← Nat.mul_assoc, Nat.mul_div_cancel _ hc]
  rw [hdb]
  have hkk : k / c ∣ k := ⟨c, ek.symm⟩
  refine red_unique s _ _ _ _ (g * c) (Nat.mul_pos hg hc) ?_ ?_ ?_
  · conv => lhs; rw [← ek]
    rw [Nat.mul_assoc, Nat.mul_comm c g]
  · rw [← ea, ← eb]
    have : d1 * (d2 * (g / c)) * (g * c) = d1 * g * (d2 * (g / c * c)) := by
      simp only [Nat.mul_assoc, Nat.mul_left_comm, Nat.mul_comm]
    rw [this, eg]
  · exact (Nat.Coprime.mul_right (c1.coprime_dvd_left hkk) ((c2.coprime_dvd_left hkk).mul_right hcg))
theorem Add_eq (a b : api_Ratio) : ratio_Add a b = some (addOf2 a b) := by
  unfold ratio_Add addOf2
  rw [Valid_eq, Valid_eq]
  simp only [Option.bind]
  rw [req_pos (by intro _; rfl)]
  simp only [Option.getD_some]
  cases ha : vR a with
  | false => simp
  | true =>
    cases hb : vR b with
    | false => simp
    | true =>
      have va := vn_of ha
      have vb := vn_of hb
      simp only [Bool.not_true, Bool.or_self, cond_false, and_self, if_true]
      have n1 := va.n1; have n2 := vb.n1; have d1 := va.d1; have d2 := vb.d1; have d3 := va.d0; have d4 := vb.d0
      have hg : 0 < Nat.gcd a.Den.natAbs b.Den.natAbs := Nat.gcd_pos_of_pos_left _ va.d0
      have hg2 : Nat.gcd a.Den.natAbs b.Den.natAbs ≤ a.Den.natAbs := Nat.gcd_le_left _ va.d0
      have q3 := Nat.div_le_self a.Den.natAbs (Nat.gcd a.Den.natAbs b.Den.natAbs)
      have q4 := Nat.div_le_self b.Den.natAbs (Nat.gcd a.Den.natAbs b.Den.natAbs)
      rw [wrapU_den va, wrapU_den vb, gcd_eq]
      simp only
      rw [req_pos (by omega)]
      simp only [tdiv_nat]
      rw [wrapU_nat _ (by omega), wrapU_nat _ (by omega), signedProduct_eq _ _ va.i1 (by omega)]
      simp only
      rw [req_pos (by omega), signedProduct_eq _ _ vb.i1 (by omega)]
      simp only
      have m1 := mul_lt n1 (show b.Den.natAbs / Nat.gcd a.Den.natAbs b.Den.natAbs ≤ 1152921504606846976 by omega)
      have m2 := mul_lt n2 (show a.Den.natAbs / Nat.gcd a.Den.natAbs b.Den.natAbs ≤ 1152921504606846976 by omega)
      have hp := plusS (decide (a.Num < 0)) (a.Num.natAbs * (b.Den.natAbs / Nat.gcd a.Den.natAbs b.Den.natAbs)) (decide (b.Num < 0)) (b.Num.natAbs * (a.Den.natAbs / Nat.gcd a.Den.natAbs b.Den.natAbs)) (by omega)
      have hle := addS_le (decide (a.Num < 0)) (a.Num.natAbs * (b.Den.natAbs / Nat.gcd a.Den.natAbs b.Den.natAbs)) (decide (b.Num < 0)) (b.Num.natAbs * (a.Den.natAbs / Nat.gcd a.Den.natAbs b.Den.natAbs))
      rw [hp]
      simp only
      rw [add_lowest _ _ _ _ _ _ va.cop vb.cop va.d0 vb.d0]
      generalize addS (decide (a.Num < 0)) (a.Num.natAbs * (b.Den.natAbs / Nat.gcd a.Den.natAbs b.Den.natAbs)) (decide (b.Num < 0)) (b.Num.natAbs * (a.Den.natAbs / Nat.gcd a.Den.natAbs b.Den.natAbs)) = sk at *
      obtain ⟨s, k⟩ := sk
      dsimp only at *
      rw [modW k _ (by omega) hg (by omega)]
      simp only
      rw [gcd_eq, show Nat.gcd (k % Nat.gcd a.Den.natAbs b.Den.natAbs) (Nat.gcd a.Den.natAbs b.Den.natAbs) = Nat.gcd k (Nat.gcd a.Den.natAbs b.Den.natAbs) by rw [Nat.gcd_comm, Nat.gcd_comm k, Nat.gcd_rec (Nat.gcd a.Den.natAbs b.Den.natAbs) k, Nat.gcd_comm]]
      simp only
      have hc : 0 < Nat.gcd k (Nat.gcd a.Den.natAbs b.Den.natAbs) := Nat.gcd_pos_of_pos_right _ hg
      have hc2 : Nat.gcd k (Nat.gcd a.Den.natAbs b.Den.natAbs) ≤ Nat.gcd a.Den.natAbs b.Den.natAbs := Nat.gcd_le_right _ hg
      have q5 := Nat.div_le_self b.Den.natAbs (Nat.gcd k (Nat.gcd a.Den.natAbs b.Den.natAbs))
      rw [overW k _ (by omega) hc (by omega)]
      simp only
      rw [req_pos (by omega), tdiv_nat, wrapU_nat _ (by omega), product_eq _ _ (by omega) (by omega)]
      simp only
      rw [fittedW]
def subOf (a b : api_Ratio) : api_Ratio × Int := if vR a = true ∧ vR b = true then addOf2 a ⟨-b.Num, b.Den⟩ else (⟨0, 0⟩, 1)
theorem neg_wrap {b : api_Ratio} (h : vR b = true) : IntKind.i64.wrap (0 - b.Num) = -b.Num := by
  have := (vn_of h).n1
  rw [wrap64 (by omega) (by omega)]; omega
end Go.LS
