/-
  Decimal is near: RatioDecimalNear.
  Conditions: none but those of the statement.
-/
import Derived.Test.YtfioceejanpjfaaDoorPDC
namespace Go.LS
set_option linter.all false
set_option linter.unusedSimpArgs false
set_option linter.unusedVariables false
set_option maxRecDepth 20000

theorem red_go (neg : Bool) (q T : Nat) (hT : 0 < T) (h1 : q ≤ MX) (h2 : T ≤ MX) : ∃ x, redOf neg q T = (x, 0) ∧ ValB x (sv neg q) T q T := by
  have hx : ∃ x, redOf neg q T = (x, 0) := by
    unfold redOf fitOf
    have a1 := Nat.div_le_self q (Nat.gcd q T)
    have a2 := Nat.div_le_self T (Nat.gcd q T)
    have h1' : q ≤ 1152921504606846976 := h1
    have h2' : T ≤ 1152921504606846976 := h2
    rw [if_pos ⟨by omega, by omega⟩]; exact ⟨_, rfl⟩
  obtain ⟨x, h⟩ := hx
  obtain ⟨v1, v2, v3⟩ := redOf_val neg q T hT x h
  exact ⟨x, h, v1, by omega, v2, by unfold sv; split <;> omega, by omega⟩
theorem Parse_dec (a : api_Ratio) (k q : Nat) (hk1 : 1 ≤ k) (hk : k ≤ 6) (hq : q ≤ 1000000000) : ratio_Parse (decOf a k q) = some (redOf (decide (a.Num < 0) && decide (q ≠ 0)) q (10 ^ k)) := by
  unfold decOf
  generalize (decide (a.Num < 0) && decide (q ≠ 0)) = neg
  have l0 := Nat.div_le_self q (10 ^ k)
  have l1 : (dd (q / 10 ^ k)).length ≤ 19 := dd_len 19 _ (by omega) (by omega)
  have l2 := dd_pos (q / 10 ^ k)
  have l3 := fw_len k q
  have ht : dtext k q = dd (q / 10 ^ k) ++ 46 :: fw k q := by unfold dtext; rw [if_pos (by omega)]
  rw [ht]
  unfold sgS
  rw [parse_sign neg _ (by simp; omega) (dd_head _ _) (by simp; omega), parse_point neg _ _ (q / 10 ^ k) (q % 10 ^ k) (dd_all _) l2 l1 (dd_val _) (fw_all _ _) (by omega) (by omega) (fw_val _ _), l3, Nat.div_add_mod']
theorem qd_near (N D T : Nat) (hD : 0 < D) : 2 * (qd N D T * D) ≤ 2 * (N * T) + D ∧ 2 * (N * T) ≤ 2 * (qd N D T * D) + D := by
  have h := Nat.div_add_mod (N * T) D
  have hr := Nat.mod_lt (N * T) hD
  unfold qd
  generalize N * T = X at h hr ⊢
  have hu : rup (X / D) (X % D) D = true → D ≤ 2 * (X % D) := by unfold rup; simp; omega
  have hl : rup (X / D) (X % D) D = false → 2 * (X % D) ≤ D := by unfold rup; simp; omega
  cases hb : rup (X / D) (X % D) D with
  | true =>
    have := hu hb
    rw [if_pos rfl, Nat.add_mul, Nat.mul_comm (X / D) D]; omega
  | false =>
    have := hl hb
    rw [if_neg (by decide), Nat.add_mul, Nat.mul_comm (X / D) D]; omega
theorem near_go (a : api_Ratio) (hv : vR a = true) (hN : a.Num.natAbs ≤ 30) (hD : a.Den.natAbs ≤ 12) (k : Nat) (h1 : 1 ≤ k) (h6 : k ≤ 6) :
    ∃ s x P, ratio_Decimal a k = some s ∧ ratio_Parse s = some (x, 0) ∧ ValB x P ((10 ^ k : Nat) : Int) 30000100 1000000 ∧
      2 * (P * a.Den) ≤ 2 * (a.Num * ((10 ^ k : Nat) : Int)) + a.Den ∧ 2 * (a.Num * ((10 ^ k : Nat) : Int)) ≤ 2 * (P * a.Den) + a.Den := by
  have hx := (vR_iff a).1 hv
  have hT : 10 ^ k ≤ 10 ^ 6 := Nat.pow_le_pow_right (by omega) h6
  have hT0 : 0 < 10 ^ k := Nat.pow_pos (by decide)
  have hD0 : 0 < a.Den.natAbs := by omega
  obtain ⟨n1, n2⟩ := qd_near a.Num.natAbs a.Den.natAbs (10 ^ k) hD0
  have hm : a.Num.natAbs * 10 ^ k ≤ 30 * 10 ^ 6 := Nat.mul_le_mul hN hT
  have hq : qd a.Num.natAbs a.Den.natAbs (10 ^ k) ≤ 30000100 := by
    have : qd a.Num.natAbs a.Den.natAbs (10 ^ k) * 1 ≤ qd a.Num.natAbs a.Den.natAbs (10 ^ k) * a.Den.natAbs := Nat.mul_le_mul_left _ hD0
    omega
  have hdec := Decimal_eq a k (by omega) hv
  generalize hqq : qd a.Num.natAbs a.Den.natAbs (10 ^ k) = q at n1 n2 hq hdec
  obtain ⟨x, e1, e2⟩ := red_go (decide (a.Num < 0) && decide (q ≠ 0)) q (10 ^ k) hT0 (by show q ≤ 1152921504606846976; omega) (by show 10 ^ k ≤ 1152921504606846976; omega)
  refine ⟨_, x, sv (decide (a.Num < 0) && decide (q ≠ 0)) q, hdec, ?_, ?_, ?_⟩
  · rw [Parse_dec a k q h1 h6 (by omega), e1]
  · exact ⟨e2.v, e2.q, e2.e, Nat.le_trans e2.bn hq, Nat.le_trans e2.bd (by omega)⟩
  · have m1 : 2 * ((q : Int) * (a.Den.natAbs : Int)) ≤ 2 * ((a.Num.natAbs : Int) * ((10 ^ k : Nat) : Int)) + (a.Den.natAbs : Int) := by exact_mod_cast n1
    have m2 : 2 * ((a.Num.natAbs : Int) * ((10 ^ k : Nat) : Int)) ≤ 2 * ((q : Int) * (a.Den.natAbs : Int)) + (a.Den.natAbs : Int) := by exact_mod_cast n2
    generalize ((10 ^ k : Nat) : Int) = T at m1 m2 ⊢
    have hDe : (a.Den.natAbs : Int) = a.Den := by omega
    rw [hDe] at m1 m2
    by_cases hn : a.Num < 0
    · have hNe : a.Num = -(a.Num.natAbs : Int) := by omega
      have hP : sv (decide (a.Num < 0) && decide (q ≠ 0)) q = -(q : Int) := by
        unfold sv
        by_cases h0 : q = 0
        · subst h0; simp
        · simp [hn, h0]
      rw [hP, Int.neg_mul]
      generalize hA : (a.Num.natAbs : Int) = A at m1 m2 hNe
      rw [hNe, Int.neg_mul]
      omega
    · have hNe : (a.Num.natAbs : Int) = a.Num := by omega
      have hP : sv (decide (a.Num < 0) && decide (q ≠ 0)) q = (q : Int) := by
        unfold sv; simp [hn]
      rw [hP]
      rw [hNe] at m1 m2
      omega
theorem near_unit (y : Int) (k : Nat) (hk1 : 1 ≤ k) (hk : k ≤ 6) (hy : IntKind.i64.wrap ((1 : Int) + y) = (k : Int)) : iter (law01_RatioDecimalNear_l2 y) ((2 : Int), (0 : Int)) = some (2 * ((10 ^ k : Nat) : Int)) := by
  have : ∀ (n i : Nat), k - i = n → i ≤ k → iter (law01_RatioDecimalNear_l2 y) (2 * ((10 ^ i : Nat) : Int), (i : Int)) = some (2 * ((10 ^ k : Nat) : Int)) := by
    intro n
    induction n with
    | zero =>
      intro i hn hi
      have : i = k := by omega
      subst this
      have st : law01_RatioDecimalNear_l2 y (2 * ((10 ^ i : Nat) : Int), (i : Int)) = some (.inr (2 * ((10 ^ i : Nat) : Int))) := by
        simp only [law01_RatioDecimalNear_l2]
        rw [hy, show decide ((i : Int) < (i : Int)) = false by simp, cond_false]
      exact iter_inr st
    | succ n ih =>
      intro i hn hi
      have hp2 : 10 ^ (i + 1) ≤ 10 ^ 6 := Nat.pow_le_pow_right (by omega) (by omega)
      have st : law01_RatioDecimalNear_l2 y (2 * ((10 ^ i : Nat) : Int), (i : Int)) = some (.inl (2 * ((10 ^ (i + 1) : Nat) : Int), ((i + 1 : Nat) : Int))) := by
        simp only [law01_RatioDecimalNear_l2]
        have e : IntKind.i64.wrap (2 * ((10 ^ i : Nat) : Int) * 10) = 2 * ((10 ^ (i + 1) : Nat) : Int) := by
          rw [Nat.pow_succ] at hp2 ⊢
          rw [i64_id (by omega) (by omega)]; omega
        rw [hy, show decide ((i : Int) < (k : Int)) = true by simp; omega, cond_true, e, i64_add1 i (by omega)]
      rw [iter_inl st]
      exact ih (i + 1) (by omega) (by omega)
  exact this k 0 (by omega) (by omega)
theorem pure_RatioDecimalNear (t : List Int) (digits : Int) : law01_RatioDecimalNear t digits = some true := by
  unfold law01_RatioDecimalNear
  obtain ⟨t0, e0, k0⟩ := new_ok t
  rw [e0, dsb]
  obtain ⟨a, t1, na, da, e1, k1, va⟩ := small_go t0 k0
  rw [e1, dsb]
  obtain ⟨b, t2, nb, db, e2, k2, vb⟩ := small_go t1 k1
  dsimp only
  rw [e2, dsb]
  dsimp only
  obtain ⟨y, e3, y0, y1, _⟩ := cut_ok digits 6 (by omega)
  have y1 := y1 (by omega)
  rw [e3, dsb]
  obtain ⟨k, hk⟩ : ∃ k : Nat, (k : Int) = 1 + y := ⟨(1 + y).toNat, by omega⟩
  have hw : IntKind.i64.wrap ((1 : Int) + y) = (k : Int) := by rw [i64_id (by omega) (by omega)]; omega
  have hxa := (vR_iff a).1 va.v
  have hxb := (vR_iff b).1 vb.v
  obtain ⟨la1, la2⟩ := va.le
  obtain ⟨lb1, lb2⟩ := vb.le
  obtain ⟨s, x, P, d1, d2, vx, n1, n2⟩ := near_go a va.v la1 la2 k (by omega) (by omega)
  obtain ⟨u, z, Q, d3, d4, vz, n3, n4⟩ := near_go b vb.v lb1 lb2 k (by omega) (by omega)
  have ha : ValB a a.Num a.Den 30 12 := ⟨va.v, by omega, rfl, la1, la2⟩
  obtain ⟨w, d5, vw⟩ := sub_go vx ha (by show 30000100 * 12 + 30 * 1000000 ≤ 1152921504606846976; omega) (by show 1000000 * 12 ≤ 1152921504606846976; omega)
  rw [hw, d1, dsb, d2, dsb]
  dsimp only
  rw [d3, dsb, d4, dsb]
  dsimp only
  rw [Sub_eq, d5, dsb]
  dsimp only
  rw [near_unit y k (by omega) (by omega) hw, dsb]
  have hT : 10 ^ k ≤ 10 ^ 6 := Nat.pow_le_pow_right (by omega) (by omega)
  have hT0 : 0 < 10 ^ k := Nat.pow_pos (by decide)
  have hT' : ((10 ^ k : Nat) : Int) ≤ 1000000 := by omega
  have hT0' : (0 : Int) < ((10 ^ k : Nat) : Int) := by omega
  generalize ((10 ^ k : Nat) : Int) = T at *
  have hxw := (vR_iff w).1 vw.v
  have hwe := vw.e
  have v1 : vR ⟨1, 2 * T⟩ = true := (vR_iff _).2 ⟨by show 1 ≤ 2 * T; omega, by show 2 * T ≤ _; omega, by show (-1152921504606846976 : Int) ≤ 1; omega, by show (1 : Int) ≤ _; omega, Nat.gcd_one_left _⟩
  have v2 : vR ⟨-1, 2 * T⟩ = true := (vR_iff _).2 ⟨by show 1 ≤ 2 * T; omega, by show 2 * T ≤ _; omega, by show (-1152921504606846976 : Int) ≤ -1; omega, by show (-1 : Int) ≤ _; omega, Nat.gcd_one_left _⟩
  have hE : w.Num * (2 * T) * a.Den = 2 * (P * a.Den - a.Num * T) * w.Den := by
    have : w.Num * (2 * T) * a.Den = 2 * (w.Num * (T * a.Den)) := by grind
    rw [this, hwe]; grind
  have l1 : ratio_Less ⟨1, 2 * T⟩ w = some false := by
    rw [Less_eq, less_v v1 vw.v]
    congr 1
    rw [decide_eq_false_iff_not]
    intro h
    have h : 1 * w.Den < w.Num * (2 * T) := h
    have g1 := Int.mul_lt_mul_of_pos_right h (show 0 < a.Den by omega)
    rw [hE] at g1
    have g2 := Int.mul_le_mul_of_nonneg_right (show 2 * (P * a.Den - a.Num * T) ≤ a.Den by omega) (show 0 ≤ w.Den by omega)
    have g3 : 1 * w.Den * a.Den = a.Den * w.Den := by grind
    omega
  have l2 : ratio_Less w ⟨-1, 2 * T⟩ = some false := by
    rw [Less_eq, less_v vw.v v2]
    congr 1
    rw [decide_eq_false_iff_not]
    intro h
    have h : w.Num * (2 * T) < -1 * w.Den := h
    have g1 := Int.mul_lt_mul_of_pos_right h (show 0 < a.Den by omega)
    rw [hE] at g1
    have g2 := Int.mul_le_mul_of_nonneg_right (show -a.Den ≤ 2 * (P * a.Den - a.Num * T) by omega) (show 0 ≤ w.Den by omega)
    have g3 : -1 * w.Den * a.Den = -a.Den * w.Den := by grind
    omega
  have l3 : ratio_Less a b = some (decide (a.Num * b.Den < b.Num * a.Den)) := by rw [Less_eq, less_v va.v vb.v]
  have l4 : ratio_Less z x = some (decide (z.Num * x.Den < x.Num * z.Den)) := by rw [Less_eq, less_v vz.v vx.v]
  have hmono : a.Num * b.Den < b.Num * a.Den → ¬ z.Num * x.Den < x.Num * z.Den := by
    intro hab hzx
    have hxx := (vR_iff x).1 vx.v
    have hxz := (vR_iff z).1 vz.v
    -- Q < P
    have hQP : Q < P := by
      have c1 := Int.mul_lt_mul_of_pos_right hzx (show 0 < T * T from Int.mul_pos hT0' hT0')
      have c2 : z.Num * x.Den * (T * T) = Q * T * (z.Den * x.Den) := by
        have : z.Num * x.Den * (T * T) = z.Num * T * (x.Den * T) := by grind
        rw [this, vz.e]; grind
      have c3 : x.Num * z.Den * (T * T) = P * T * (z.Den * x.Den) := by
        have : x.Num * z.Den * (T * T) = x.Num * T * (z.Den * T) := by grind
        rw [this, vx.e]; grind
      rw [c2, c3] at c1
      have c4 := Int.lt_of_mul_lt_mul_right c1 (Int.le_of_lt (Int.mul_pos (show 0 < z.Den by omega) (show 0 < x.Den by omega)))
      exact Int.lt_of_mul_lt_mul_right c4 (by omega)
    have f1 := Int.mul_le_mul_of_nonneg_right n1 (show 0 ≤ b.Den by omega)
    have f2 := Int.mul_le_mul_of_nonneg_right n4 (show 0 ≤ a.Den by omega)
    have f3 := Int.mul_le_mul_of_nonneg_right (show Q + 1 ≤ P by omega) (Int.le_of_lt (Int.mul_pos (show 0 < a.Den by omega) (show 0 < b.Den by omega)))
    have f4 := Int.mul_lt_mul_of_pos_right hab hT0'
    have r1 : 2 * (P * a.Den) * b.Den = 2 * (P * (a.Den * b.Den)) := by grind
    have r2 : (2 * (a.Num * T) + a.Den) * b.Den = 2 * (a.Num * b.Den * T) + a.Den * b.Den := by grind
    have r3 : 2 * (b.Num * T) * a.Den = 2 * (b.Num * a.Den * T) := by grind
    have r4 : (2 * (Q * b.Den) + b.Den) * a.Den = 2 * (Q * (a.Den * b.Den)) + a.Den * b.Den := by grind
    have r5 : (Q + 1) * (a.Den * b.Den) = Q * (a.Den * b.Den) + a.Den * b.Den := by grind
    rw [r1, r2] at f1
    rw [r3, r4] at f2
    rw [r5] at f3
    omega
  unfold law01_RatioDecimalNear_j1
  rw [show ((((0 : Int) != (0 : Int)) || ((0 : Int) != (0 : Int))) || ((0 : Int) != (0 : Int))) = false by decide, cond_false, l1, dsb, l2, l3, l4, awake_eq]
  by_cases h : a.Num * b.Den < b.Num * a.Den
  · have h2 := hmono h
    simp [req, h, h2]
  · simp [req, h]
end Go.LS
