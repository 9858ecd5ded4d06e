/-
  Law 01: the laws of a field, rounded numbers are near, long sums.
  Conditions: numbers in the ranges of their Go types.
-/
import Derived.Test.YtogfplnonlpmcaaPQ3
namespace Go.LS
set_option linter.all false
set_option linter.unusedSimpArgs false
set_option linter.unusedVariables false
set_option maxRecDepth 20000

/-- a fraction denotes P / Q; bounds of P and Q -/
structure ValB (a : api_Ratio) (P Q : Int) (N D : Nat) : Prop where
  v : vR a = true
  q : 0 < Q
  e : a.Num * Q = P * a.Den
  bn : P.natAbs ≤ N
  bd : Q.natAbs ≤ D
theorem ValB.le {a : api_Ratio} {P Q : Int} {N D : Nat} (h : ValB a P Q N D) : a.Num.natAbs ≤ N ∧ a.Den.natAbs ≤ D := by
  have va := vn_of h.v
  have hn : a.Num.natAbs * Q.natAbs = P.natAbs * a.Den.natAbs := by rw [← Int.natAbs_mul, ← Int.natAbs_mul, h.e]
  obtain ⟨k, hk⟩ : a.Den.natAbs ∣ Q.natAbs := Nat.Coprime.dvd_of_dvd_mul_left (Nat.Coprime.symm va.cop) ⟨P.natAbs, by rw [hn, Nat.mul_comm]⟩
  have hq := h.q
  have hk0 : 0 < k := by
    rcases Nat.eq_zero_or_pos k with h0 | h0
    · rw [h0, Nat.mul_zero] at hk; omega
    · exact h0
  have hb := h.bd
  have hb2 := h.bn
  constructor
  · have : a.Num.natAbs * k = P.natAbs := by
      have h2 : a.Num.natAbs * k * a.Den.natAbs = P.natAbs * a.Den.natAbs := by rw [← hn, hk, Nat.mul_assoc, Nat.mul_comm k]
      exact Nat.eq_of_mul_eq_mul_right va.d0 h2
    have := Nat.le_mul_of_pos_right a.Num.natAbs hk0
    omega
  · have := Nat.le_mul_of_pos_right a.Den.natAbs hk0
    omega
theorem ValB.eq {x y : api_Ratio} {P Q P' Q' : Int} {N D N' D' : Nat} (hx : ValB x P Q N D) (hy : ValB y P' Q' N' D') (h : P * Q' = P' * Q) : x = y := by
  refine lowest_eq hx.v hy.v ?_
  have hQ := hx.q; have hQ' := hy.q
  have e1 := hx.e; have e2 := hy.e
  have : x.Num * y.Den * (Q * Q') = y.Num * x.Den * (Q * Q') := by
    have a1 : x.Num * y.Den * (Q * Q') = x.Num * Q * (y.Den * Q') := by grind
    have a2 : y.Num * x.Den * (Q * Q') = y.Num * Q' * (x.Den * Q) := by grind
    rw [a1, a2, e1, e2]
    have a3 : P * x.Den * (y.Den * Q') = P * Q' * (x.Den * y.Den) := by grind
    have a4 : P' * y.Den * (x.Den * Q) = P' * Q * (x.Den * y.Den) := by grind
    rw [a3, a4, h]
  exact Int.eq_of_mul_eq_mul_right (by have := Int.mul_pos hQ hQ'; omega) this
theorem fit_ok (neg : Bool) (n d : Nat) (hn : n ≤ MX) (hd : d ≤ MX) : ∃ x, redOf neg n d = (x, 0) := by
  unfold redOf fitOf
  have k1 := Nat.div_le_self n (Nat.gcd n d)
  have k2 := Nat.div_le_self d (Nat.gcd n d)
  unfold MX at hn hd
  rw [if_pos ⟨by omega, by omega⟩]
  exact ⟨_, rfl⟩
theorem natAbs_lin (P1 Q1 P2 Q2 : Int) (N1 D1 N2 D2 : Nat) (h1 : P1.natAbs ≤ N1) (h2 : Q1.natAbs ≤ D1) (h3 : P2.natAbs ≤ N2) (h4 : Q2.natAbs ≤ D2) : (P1 * Q2 + P2 * Q1).natAbs ≤ N1 * D2 + N2 * D1 := by
  have a1 := Int.natAbs_add_le (P1 * Q2) (P2 * Q1)
  rw [Int.natAbs_mul, Int.natAbs_mul] at a1
  have a2 := Nat.mul_le_mul h1 h4
  have a3 := Nat.mul_le_mul h3 h2
  omega
theorem add_go {a b : api_Ratio} {P1 Q1 P2 Q2 : Int} {N1 D1 N2 D2 : Nat} (ha : ValB a P1 Q1 N1 D1) (hb : ValB b P2 Q2 N2 D2) (h1 : N1 * D2 + N2 * D1 ≤ MX) (h2 : D1 * D2 ≤ MX) :
    ∃ x, addOf2 a b = (x, 0) ∧ ValB x (P1 * Q2 + P2 * Q1) (Q1 * Q2) (N1 * D2 + N2 * D1) (D1 * D2) := by
  have va := vn_of ha.v
  have vb := vn_of hb.v
  obtain ⟨la, da⟩ := ha.le
  obtain ⟨lb, db⟩ := hb.le
  have hx : ∃ x, addOf2 a b = (x, 0) := by
    unfold addOf2
    rw [if_pos ⟨ha.v, hb.v⟩]
    have hle := addS_le (decide (a.Num < 0)) (a.Num.natAbs * b.Den.natAbs) (decide (b.Num < 0)) (b.Num.natAbs * a.Den.natAbs)
    have k1 := Nat.mul_le_mul la db
    have k2 := Nat.mul_le_mul lb da
    have k3 := Nat.mul_le_mul da db
    exact fit_ok _ _ _ (by omega) (by omega)
  obtain ⟨x, hx⟩ := hx
  obtain ⟨g1, g2, g3⟩ := addOf2_val ha.v hb.v hx
  refine ⟨x, hx, g1, Int.mul_pos ha.q hb.q, ?_, natAbs_lin _ _ _ _ _ _ _ _ ha.bn ha.bd hb.bn hb.bd, by rw [Int.natAbs_mul]; exact Nat.mul_le_mul ha.bd hb.bd⟩
  have hab : a.Den * b.Den ≠ 0 := by
    have := Int.mul_pos (show 0 < a.Den by have := (vd_of ha.v).d0; omega) (show 0 < b.Den by have := (vd_of hb.v).d0; omega)
    omega
  refine Int.eq_of_mul_eq_mul_right hab ?_
  have e1 := ha.e; have e2 := hb.e
  have a1 : x.Num * (Q1 * Q2) * (a.Den * b.Den) = x.Num * (a.Den * b.Den) * (Q1 * Q2) := by grind
  rw [a1, g2]
  have a2 : (a.Num * b.Den + b.Num * a.Den) * x.Den * (Q1 * Q2) = (a.Num * Q1 * (b.Den * Q2) + b.Num * Q2 * (a.Den * Q1)) * x.Den := by grind
  rw [a2, e1, e2]
  grind
theorem mulOf_val {a b x : api_Ratio} (ha : vR a = true) (hb : vR b = true) (h : mulOf a b = (x, 0)) : vR x = true ∧ x.Num * (a.Den * b.Den) = a.Num * b.Num * x.Den ∧ 0 < x.Den := by
  have va := vn_of ha
  have vb := vn_of hb
  unfold mulOf at h
  rw [if_pos ⟨ha, hb⟩] at h
  obtain ⟨g1, g2, g3⟩ := redOf_val _ _ _ (Nat.mul_pos va.d0 vb.d0) x h
  refine ⟨g1, ?_, g3⟩
  rw [Int.natCast_mul, va.de, vb.de] at g2
  rw [g2]
  congr 1
  unfold sv sgn
  rw [Int.natCast_mul]
  by_cases h1 : a.Num < 0 <;> by_cases h2 : b.Num < 0
  · simp [h1, h2]; rw [show ((a.Num.natAbs : Nat) : Int) = -a.Num by omega, show ((b.Num.natAbs : Nat) : Int) = -b.Num by omega, Int.neg_mul_neg]
  · simp [h1, h2]; rw [show ((a.Num.natAbs : Nat) : Int) = -a.Num by omega, show ((b.Num.natAbs : Nat) : Int) = b.Num by omega, Int.neg_mul, Int.neg_neg]
  · simp [h1, h2]; rw [show ((a.Num.natAbs : Nat) : Int) = a.Num by omega, show ((b.Num.natAbs : Nat) : Int) = -b.Num by omega, Int.mul_neg, Int.neg_neg]
  · simp [h1, h2]; rw [show ((a.Num.natAbs : Nat) : Int) = a.Num by omega, show ((b.Num.natAbs : Nat) : Int) = b.Num by omega]
theorem mul_go {a b : api_Ratio} {P1 Q1 P2 Q2 : Int} {N1 D1 N2 D2 : Nat} (ha : ValB a P1 Q1 N1 D1) (hb : ValB b P2 Q2 N2 D2) (h1 : N1 * N2 ≤ MX) (h2 : D1 * D2 ≤ MX) :
    ∃ x, mulOf a b = (x, 0) ∧ ValB x (P1 * P2) (Q1 * Q2) (N1 * N2) (D1 * D2) := by
  have va := vn_of ha.v
  have vb := vn_of hb.v
  obtain ⟨la, da⟩ := ha.le
  obtain ⟨lb, db⟩ := hb.le
  have hx : ∃ x, mulOf a b = (x, 0) := by
    unfold mulOf
    rw [if_pos ⟨ha.v, hb.v⟩]
    have k1 := Nat.mul_le_mul la lb
    have k3 := Nat.mul_le_mul da db
    exact fit_ok _ _ _ (by omega) (by omega)
  obtain ⟨x, hx⟩ := hx
  obtain ⟨g1, g2, g3⟩ := mulOf_val ha.v hb.v hx
  refine ⟨x, hx, g1, Int.mul_pos ha.q hb.q, ?_, by rw [Int.natAbs_mul]; exact Nat.mul_le_mul ha.bn hb.bn, by rw [Int.natAbs_mul]; exact Nat.mul_le_mul ha.bd hb.bd⟩
  have hab : a.Den * b.Den ≠ 0 := by
    have := Int.mul_pos (show 0 < a.Den by have := (vd_of ha.v).d0; omega) (show 0 < b.Den by have := (vd_of hb.v).d0; omega)
    omega
  refine Int.eq_of_mul_eq_mul_right hab ?_
  have e1 := ha.e; have e2 := hb.e
  have a1 : x.Num * (Q1 * Q2) * (a.Den * b.Den) = x.Num * (a.Den * b.Den) * (Q1 * Q2) := by grind
  rw [a1, g2]
  have a2 : a.Num * b.Num * x.Den * (Q1 * Q2) = a.Num * Q1 * (b.Num * Q2) * x.Den := by grind
  rw [a2, e1, e2]
  grind
theorem neg_v {b : api_Ratio} (h : vR b = true) : vR ⟨-b.Num, b.Den⟩ = true := by
  rw [vR_iff] at h ⊢
  obtain ⟨h1, h2, h3, h4, h5⟩ := h
  refine ⟨h1, h2, by show _ ≤ -b.Num; omega, by show -b.Num ≤ _; omega, ?_⟩
  show Nat.gcd (-b.Num).natAbs _ = 1
  rw [Int.natAbs_neg]; exact h5
theorem neg_go {b : api_Ratio} {P Q : Int} {N D : Nat} (h : ValB b P Q N D) : ValB ⟨-b.Num, b.Den⟩ (-P) Q N D :=
  ⟨neg_v h.v, h.q, by show -b.Num * Q = -P * b.Den; rw [Int.neg_mul, h.e, Int.neg_mul], by rw [Int.natAbs_neg]; exact h.bn, h.bd⟩
theorem sub_go {a b : api_Ratio} {P1 Q1 P2 Q2 : Int} {N1 D1 N2 D2 : Nat} (ha : ValB a P1 Q1 N1 D1) (hb : ValB b P2 Q2 N2 D2) (h1 : N1 * D2 + N2 * D1 ≤ MX) (h2 : D1 * D2 ≤ MX) :
    ∃ x, subOf a b = (x, 0) ∧ ValB x (P1 * Q2 + -P2 * Q1) (Q1 * Q2) (N1 * D2 + N2 * D1) (D1 * D2) := by
  unfold subOf
  rw [if_pos ⟨ha.v, hb.v⟩]
  exact add_go ha (neg_go hb) h1 h2
/-! ### the laws of a field -/
theorem div_back {a b p : api_Ratio} {P1 Q1 P2 Q2 : Int} {N1 D1 N2 D2 : Nat} (ha : ValB a P1 Q1 N1 D1) (hb : ValB b P2 Q2 N2 D2) (hp : ValB p (P1 * P2) (Q1 * Q2) (N1 * N2) (D1 * D2)) (hz : b.Num ≠ 0) (h1 : N1 * N2 * D2 ≤ MX) (h2 : D1 * D2 * N2 ≤ MX) : divOf p b = (a, 0) := by
  have vp := vn_of hp.v
  have vb := vn_of hb.v
  obtain ⟨lp, dp⟩ := hp.le
  obtain ⟨lb, db⟩ := hb.le
  unfold divOf
  rw [if_pos ⟨hp.v, hb.v⟩, if_neg hz]
  obtain ⟨x, hx⟩ := fit_ok (sgn p b) (p.Num.natAbs * b.Den.natAbs) (p.Den.natAbs * b.Num.natAbs) (Nat.le_trans (Nat.mul_le_mul lp db) h1) (Nat.le_trans (Nat.mul_le_mul dp lb) h2)
  rw [hx]
  obtain ⟨g1, g2, g3⟩ := redOf_val _ _ _ (Nat.mul_pos vp.d0 (by omega)) x hx
  have key : x.Num * (p.Den * b.Num) = p.Num * b.Den * x.Den := by
    rw [Int.natCast_mul, vp.de] at g2
    unfold sv sgn at g2
    rw [Int.natCast_mul, vb.de] at g2
    by_cases k1 : p.Num < 0 <;> by_cases k2 : b.Num < 0
    · simp [k1, k2] at g2; rw [show ((b.Num.natAbs : Nat) : Int) = -b.Num by omega, show ((p.Num.natAbs : Nat) : Int) = -p.Num by omega] at g2; grind
    · simp [k1, k2] at g2; rw [show ((b.Num.natAbs : Nat) : Int) = b.Num by omega, show ((p.Num.natAbs : Nat) : Int) = -p.Num by omega] at g2; grind
    · simp [k1, k2] at g2; rw [show ((b.Num.natAbs : Nat) : Int) = -b.Num by omega, show ((p.Num.natAbs : Nat) : Int) = p.Num by omega] at g2; grind
    · simp [k1, k2] at g2; rw [show ((b.Num.natAbs : Nat) : Int) = b.Num by omega, show ((p.Num.natAbs : Nat) : Int) = p.Num by omega] at g2; grind
  have : x = a := by
    refine lowest_eq g1 ha.v ?_
    have ep := hp.e; have ea := ha.e; have eb := hb.e
    have hQ1 := ha.q; have hQ2 := hb.q
    have hbd : 0 < b.Den := by have := (vd_of hb.v).d0; omega
    have hpd : 0 < p.Den := by have := (vd_of hp.v).d0; omega
    have hne : p.Den * b.Num * (b.Den * (Q1 * Q2)) ≠ 0 := by
      refine Int.mul_ne_zero (Int.mul_ne_zero (by omega) hz) (Int.mul_ne_zero (by omega) (Int.mul_ne_zero (by omega) (by omega)))
    refine Int.eq_of_mul_eq_mul_right hne ?_
    have s1 : x.Num * a.Den * (p.Den * b.Num * (b.Den * (Q1 * Q2))) = x.Num * (p.Den * b.Num) * (a.Den * b.Den * (Q1 * Q2)) := by grind
    rw [s1, key]
    have s2 : p.Num * b.Den * x.Den * (a.Den * b.Den * (Q1 * Q2)) = p.Num * (Q1 * Q2) * (b.Den * x.Den * a.Den * b.Den) := by grind
    rw [s2, ep]
    have s3 : P1 * P2 * p.Den * (b.Den * x.Den * a.Den * b.Den) = P1 * a.Den * (P2 * b.Den) * (p.Den * b.Den * x.Den) := by grind
    rw [s3, ← ea, ← eb]
    grind
  rw [this]
/-! ### rounded numbers are near -/
theorem new_one (f : Int) (h1 : -1152921504606846976 ≤ f) (h2 : f ≤ 1152921504606846976) : newOf f 1 = (⟨f, 1⟩, 0) := by
  unfold newOf redOf fitOf
  rw [if_neg (by omega)]
  simp only [Int.natAbs_one, Nat.gcd_one_right, Nat.div_one]
  rw [if_pos ⟨by omega, by omega⟩]
  by_cases h : f < 0
  · simp [h]; omega
  · simp [h]; omega
theorem v_one (f : Int) (h1 : -1152921504606846976 ≤ f) (h2 : f ≤ 1152921504606846976) : vR ⟨f, 1⟩ = true := by
  rw [vR_iff]
  exact ⟨by show (1 : Int) ≤ 1; decide, by show (1 : Int) ≤ 1152921504606846976; decide, h1, h2, by simp⟩
theorem fl_neg {a : api_Ratio} (hv : vR a = true) : -flR ⟨-a.Num, a.Den⟩ = ceilR a := by
  have h := vd_of hv
  have h0 := h.d0; have hr := h.rs
  have e := h.eq
  unfold ceilR up
  have ef : flR ⟨-a.Num, a.Den⟩ = (-a.Num) / a.Den := rfl
  rw [ef]
  by_cases hz : 0 < rsR a
  · have := (div_is (n := -a.Num) (d := a.Den) (q := -flR a - 1) (r := a.Den - rsR a) (by omega) (by rw [Int.mul_sub, Int.mul_neg]; omega) (by omega) (by omega)).1
    rw [this]; simp [hz]; omega
  · have := (div_is (n := -a.Num) (d := a.Den) (q := -flR a) (r := 0) (by omega) (by rw [Int.mul_neg]; omega) (by omega) (by omega)).1
    rw [this]; simp [hz]
theorem less_v {a b : api_Ratio} (ha : vR a = true) (hb : vR b = true) : (cmpR a b == -1) = decide (a.Num * b.Den < b.Num * a.Den) := by
  rw [cmpR_v ha hb, Bool.eq_iff_iff]
  simp only [beq_iff_eq, decide_eq_true_eq]
  unfold cmpI
  (repeat' split) <;> omega
/-! ### long sums -/
theorem sumT_rep (C : Nat) (a : api_Ratio) : ∀ n : Nat, sumT C (List.replicate n a) = (n : Int) * (a.Num * ((C / a.Den.natAbs : Nat) : Int))
  | 0 => by simp [sumT]
  | n + 1 => by
    rw [List.replicate_succ]
    simp only [sumT]
    rw [sumT_rep C a n]
    have : ((n + 1 : Nat) : Int) = (n : Int) + 1 := by omega
    rw [this, Int.add_mul, Int.one_mul]; omega
theorem lcmL_rep (a : api_Ratio) (h : 0 < a.Den.natAbs) : ∀ n : Nat, lcmL (List.replicate (n + 1) a) = a.Den.natAbs
  | 0 => by simp [lcmL, Nat.lcm]
  | n + 1 => by
    rw [List.replicate_succ]
    simp only [lcmL]
    rw [lcmL_rep a h n, Nat.lcm_self]
end Go.LS
