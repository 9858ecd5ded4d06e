/-
  Law 01: products and quotients of fractions.
  Conditions: numbers in the ranges of their Go types.
-/
import Derived.Test.YtogfplnonlpmcaaPN
namespace Go.LS
set_option linter.all false
set_option linter.unusedSimpArgs false
set_option linter.unusedVariables false
set_option maxRecDepth 20000

theorem red_unique (neg : Bool) (n d p q k : Nat) (hk : 0 < k) (hn : n = p * k) (hd : d = q * k) (hc : Nat.gcd p q = 1) : redOf neg n d = fitOf neg p q := by
  unfold redOf
  have hg : Nat.gcd n d = k := by rw [hn, hd, Nat.gcd_mul_right, hc, Nat.one_mul]
  rw [hg, hn, hd, Nat.mul_div_cancel _ hk, Nat.mul_div_cancel _ hk]
theorem product_eq (x y : Nat) (hx : x < 18446744073709551616) (hy : y < 18446744073709551616) : ratio_product x y = some ⟨hiW (x * y), loW (x * y)⟩ := by
  unfold ratio_product
  rw [Mul64_eq x y hx hy]; rfl
theorem fittedW (neg : Bool) (n d : Nat) : ratio_fitted neg ⟨hiW n, loW n⟩ ⟨hiW d, loW d⟩ = some (fitOf neg n d) := by
  have h := fitted_eq neg (n / 18446744073709551616) (n % 18446744073709551616) (d / 18446744073709551616) (d % 18446744073709551616) (by omega) (by omega)
  rw [show n / 18446744073709551616 * 18446744073709551616 + n % 18446744073709551616 = n by omega, show d / 18446744073709551616 * 18446744073709551616 + d % 18446744073709551616 = d by omega] at h
  exact h
/-- a valid fraction in natural numbers -/
structure VN (a : api_Ratio) : Prop where
  i1 : I64 a.Num
  i2 : I64 a.Den
  n1 : a.Num.natAbs ≤ 1152921504606846976
  d0 : 1 ≤ a.Den.natAbs
  d1 : a.Den.natAbs ≤ 1152921504606846976
  de : (a.Den.natAbs : Int) = a.Den
  cop : Nat.gcd a.Num.natAbs a.Den.natAbs = 1
theorem vn_of {a : api_Ratio} (h : vR a = true) : VN a := by
  obtain ⟨h1, h2, h3, h4, h5⟩ := (vR_iff a).1 h
  exact ⟨⟨by omega, by omega⟩, ⟨by omega, by omega⟩, by omega, by omega, by omega, by omega, h5⟩
theorem wrapU_den {a : api_Ratio} (h : VN a) : IntKind.u64.wrap a.Den = (a.Den.natAbs : Int) := by
  have h1 := h.d0; have h2 := h.d1; have h3 := h.de
  rw [wrapU_id (by omega) (by omega)]; omega
def sgn (a b : api_Ratio) : Bool := !((decide (a.Num < (0 : Int))) == (decide (b.Num < (0 : Int))))
def mulOf (a b : api_Ratio) : api_Ratio × Int := if vR a = true ∧ vR b = true then redOf (sgn a b) (a.Num.natAbs * b.Num.natAbs) (a.Den.natAbs * b.Den.natAbs) else (⟨0, 0⟩, 1)
theorem mul_lowest (na nb da db : Nat) (ha : Nat.gcd na da = 1) (hb : Nat.gcd nb db = 1) (h1 : 0 < da) (h2 : 0 < db) (neg : Bool) :
    redOf neg (na * nb) (da * db) = fitOf neg (na / Nat.gcd na db * (nb / Nat.gcd nb da)) (da / Nat.gcd nb da * (db / Nat.gcd na db)) := by
  have g1 : 0 < Nat.gcd na db := Nat.gcd_pos_of_pos_right _ h2
  have g2 : 0 < Nat.gcd nb da := Nat.gcd_pos_of_pos_right _ h1
  have e1 := Nat.div_mul_cancel (Nat.gcd_dvd_left na db)
  have e2 := Nat.div_mul_cancel (Nat.gcd_dvd_right na db)
  have e3 := Nat.div_mul_cancel (Nat.gcd_dvd_left nb da)
  have e4 := Nat.div_mul_cancel (Nat.gcd_dvd_right nb da)
  refine red_unique neg _ _ _ _ (Nat.gcd na db * Nat.gcd nb da) (Nat.mul_pos g1 g2) ?_ ?_ ?_
  · conv => lhs; rw [← e1, ← e3]
    simp only [Nat.mul_assoc, Nat.mul_left_comm, Nat.mul_comm]
  · conv => lhs; rw [← e4, ← e2]
    simp only [Nat.mul_assoc, Nat.mul_left_comm, Nat.mul_comm]
  · have c1 : Nat.Coprime na da := ha
    have c2 : Nat.Coprime nb db := hb
    have d1 : na / Nat.gcd na db ∣ na := ⟨_, e1.symm⟩
    have d2 : db / Nat.gcd na db ∣ db := ⟨_, e2.symm⟩
    have d3 : nb / Nat.gcd nb da ∣ nb := ⟨_, e3.symm⟩
    have d4 : da / Nat.gcd nb da ∣ da := ⟨_, e4.symm⟩
    have k1 : Nat.Coprime (na / Nat.gcd na db) (da / Nat.gcd nb da) := (c1.coprime_dvd_left d1).coprime_dvd_right d4
    have k2 : Nat.Coprime (na / Nat.gcd na db) (db / Nat.gcd na db) := Nat.coprime_div_gcd_div_gcd g1
    have k3 : Nat.Coprime (nb / Nat.gcd nb da) (da / Nat.gcd nb da) := Nat.coprime_div_gcd_div_gcd g2
    have k4 : Nat.Coprime (nb / Nat.gcd nb da) (db / Nat.gcd na db) := (c2.coprime_dvd_left d3).coprime_dvd_right d2
    exact Nat.Coprime.mul_left (k1.mul_right k2) (k3.mul_right k4)
theorem Mul_eq (a b : api_Ratio) : ratio_Mul a b = some (mulOf a b) := by
  unfold ratio_Mul mulOf
  rw [Valid_eq, Valid_eq]
  simp only [Option.bind]
  rw [req_pos (by intro _; rfl)]
  simp only [Option.getD_some]
  cases ha : vR a with
  | false => simp
  | true =>
    cases hb : vR b with
    | false => simp
    | true =>
      have va := vn_of ha
      have vb := vn_of hb
      simp only [Bool.not_true, Bool.or_self, cond_false, and_self, if_true]
      rw [mag_eq _ va.i1, mag_eq _ vb.i1]
      simp only
      rw [wrapU_den va, wrapU_den vb, gcd_eq, gcd_eq]
      simp only
      have g1 : 0 < Nat.gcd a.Num.natAbs b.Den.natAbs := Nat.gcd_pos_of_pos_right _ vb.d0
      have g2 : 0 < Nat.gcd b.Num.natAbs a.Den.natAbs := Nat.gcd_pos_of_pos_right _ va.d0
      have n1 := va.n1; have n2 := vb.n1; have d1 := va.d1; have d2 := vb.d1
      have q1 := Nat.div_le_self a.Num.natAbs (Nat.gcd a.Num.natAbs b.Den.natAbs)
      have q2 := Nat.div_le_self b.Num.natAbs (Nat.gcd b.Num.natAbs a.Den.natAbs)
      have q3 := Nat.div_le_self a.Den.natAbs (Nat.gcd b.Num.natAbs a.Den.natAbs)
      have q4 := Nat.div_le_self b.Den.natAbs (Nat.gcd a.Num.natAbs b.Den.natAbs)
      rw [req_pos (by omega)]
      simp only [tdiv_nat]
      rw [wrapU_nat _ (by omega), wrapU_nat _ (by omega), wrapU_nat _ (by omega), wrapU_nat _ (by omega), product_eq _ _ (by omega) (by omega)]
      simp only
      rw [req_pos (by omega), product_eq _ _ (by omega) (by omega)]
      simp only
      rw [fittedW, mul_lowest _ _ _ _ va.cop vb.cop va.d0 vb.d0]
      rfl
def divOf (a b : api_Ratio) : api_Ratio × Int := if vR a = true ∧ vR b = true then (if b.Num = 0 then (⟨0, 0⟩, 2) else redOf (sgn a b) (a.Num.natAbs * b.Den.natAbs) (a.Den.natAbs * b.Num.natAbs)) else (⟨0, 0⟩, 1)
end Go.LS
