/-
  Law 01: the laws of a field, rounded numbers are near, long sums.
  Conditions: numbers in the ranges of their Go types.
-/
import Derived.Test.YtfioceejanpjfaaPQ3
namespace Go.LS
set_option linter.all false
set_option linter.unusedSimpArgs false
set_option linter.unusedVariables false
set_option maxRecDepth 20000

/-- a fraction denotes P / Q; bounds of P and Q -/
structure ValB (a : api_Ratio) (P Q : Int) (N D : Nat) : Prop where
  v : vR a = true
  q : 0 < Q
  e : a.Num * Q = P * a.Den
  bn : P.natAbs ≤ N
  bd : Q.natAbs ≤ D
theorem ValB.le {a : api_Ratio} {P Q : Int} {N D : Nat} (h : ValB a P Q N D) : a.Num.natAbs ≤ N ∧ a.Den.natAbs ≤ D := by
  have va := vn_of h.v
  have hn : a.Num.natAbs * Q.natAbs = P.natAbs * a.Den.natAbs := by rw [← Int.natAbs_mul, ← Int.natAbs_mul, h.e]
  obtain ⟨k, hk⟩ : a.Den.natAbs ∣ Q.natAbs := Nat.Coprime.dvd_of_dvd_mul_left (Nat.Coprime.symm va.cop) ⟨P.natAbs, by rw [hn, Nat.mul_comm]⟩
  have hq := h.q
  have hk0 : 0 < k := by
    rcases Nat.eq_zero_or_pos k with h0 | h0
    · rw [h0, Nat.mul_zero] at hk; omega
    · exact h0
  have hb := h.bd
  have hb2 := h.bn
  constructor
  · have : a.Num.natAbs * k = P.natAbs := by
      have h2 : a.Num.natAbs * k * a.Den.natAbs = P.natAbs * a.Den.natAbs := by rw [← hn, hk, Nat.mul_assoc, Nat.mul_comm k]
      exact Nat.eq_of_mul_eq_mul_right va.d0 h2
    have := Nat.le_mul_of_pos_right a.Num.natAbs hk0
    omega
  · have := Nat.le_mul_of_pos_right a.Den.natAbs hk0
    omega
theorem ValB.eq {x y : api_Ratio} {P Q P' Q' : Int} {N D N' D' : Nat} (hx : ValB x P Q N D) (hy : ValB y P' Q' N' D') (h : P * Q' = P' * Q) : x = y := by
  refine lowest_eq hx.v hy.v ?_
  have hQ := hx.q; have hQ' := hy.q
  have e1 := hx.e; have e2 := hy.e
  have : x.Num * y.Den * (Q * Q') = y.Num * x.Den * (Q * Q') := by
    have a1 : x.Num * y.Den * (Q * Q') = x.Num * Q * (y.Den * Q') := by grind
    have a2 : y.Num * x.Den * (Q * Q') = y.Num * Q' * (x.Den * Q) := by grind
    rw [a1, a2, e1, e2]
    have a3 : P * x.Den * (y.Den * Q') = P * Q' * (x.Den * y.Den) := by grind
    have a4 : P' * y.Den * (x.Den * Q) = P' * Q * (x.Den * y.Den) := by grind
    rw [a3, a4, h]
  exact Int.eq_of_mul_eq_mul_right (by have := Int.mul_pos hQ hQ'; omega) this
theorem fit_ok (neg : Bool) (n d : Nat) (hn : n ≤ MX) (hd : d ≤ MX) : ∃ x, redOf neg n d = (x, 0) := by
  unfold redOf fitOf
  have k1 := Nat.div_le_self n (Nat.gcd n d)
  have k2 := Nat.div_le_self d (Nat.gcd n d)
  unfold MX at hn hd
  rw [if_pos ⟨by omega, by omega⟩]
  exact ⟨_, rfl⟩
theorem natAbs_lin (P1 Q1 P2 Q2 : Int) (N1 D1 N2 D2 : Nat) (h1 : P1.natAbs ≤ N1) (h2 : Q1.natAbs ≤ D1) (h3 : P2.natAbs ≤ N2) (h4 : Q2.natAbs ≤ D2) : (P1 * Q2 + P2 * Q1).natAbs ≤ N1 * D2 + N2 * D1 := by
  have a1 := Int.natAbs_add_le (P1 * Q2) (P2 * Q1)
  rw [Int.natAbs_mul, Int.natAbs_mul] at a1
  have a2 := Nat.mul_le_mul h1 h4
  have a3 := Nat.mul_le_mul h3 h2
  omega
theorem add_go {a b : api_Ratio} {P1 Q1 P2 Q2 : Int} {N1 D1 N2 D2 : Nat} (ha : ValB a P1 Q1 N1 D1) (hb : ValB b P2 Q2 N2 D2) (h1 : N1 * D2 + N2 * D1 ≤ MX) (h2 : D1 * D2 ≤ MX) :
    ∃ x, addOf2 a b = (x, 0) ∧ ValB x (P1 * Q2 + P2 * Q1) (Q1 * Q2) (N1 * D2 + N2 * D1) (D1 * D2) := by
  have va := vn_of ha.v
  have vb := vn_of hb.v
  obtain ⟨la, da⟩ := ha.le
  obtain ⟨lb, db⟩ := hb.le
  have hx : ∃ x, addOf2 a b = (x, 0) := by
    unfold addOf2
    rw [if_pos ⟨ha.v, hb.v⟩]
    have hle := addS_le (decide (a.Num < 0)) (a.Num.natAbs * b.Den.natAbs) (decide (b.Num < 0)) (b.Num.natAbs * a.Den.natAbs)
    have k1 := Nat.mul_le_mul la db
    have k2 := Nat.mul_le_mul lb da
    have k3 := Nat.mul_le_mul da db
    exact fit_ok _ _ _ (by omega) (by omega)
  obtain ⟨x, hx⟩ := hx
  obtain ⟨g1, g2, g3⟩ := addOf2_val ha.v hb.v hx
  refine ⟨x, hx, g1, Int.mul_pos ha.q hb.q, ?_, natAbs_lin _ _ _ _ _ _ _ _ ha.bn ha.bd hb.bn hb.bd, by rw [Int.natAbs_mul]; exact Nat.mul_le_mul ha.bd hb.bd⟩
  have hab : a.Den * b.Den ≠ 0 := by
    have := Int.mul_pos (show 0 < a.Den by have := (vd_of ha.v).d0; omega) (show 0 < b.Den by have := (vd_of hb.v).d0; omega)
    omega
  refine Int.eq_of_mul_eq_mul_right hab ?_
  have e1 := ha.e; have e2 := hb.e
  have a1 : x.Num * (Q1 * Q2) * (a.Den * b.Den) = x.Num * (a.Den * b.Den) * (Q1 * Q2) := by grind
  rw [a1, g2]
  have a2 : (a.Num * b.Den + b.Num * a.Den) * x.Den * (Q1 * Q2) = (a.Num * Q1 * (b.Den * Q2) + b.Num * Q2 * (a.Den * Q1)) * x.Den := by grind
  rw [a2, e1, e2]
  grind
theorem mulOf_val {a b x : api_Ratio} (ha : vR a = true) (hb : vR b = true) (h : mulOf a b = (x, 0)) : vR x = true ∧ x.Num * (a.Den * b.Den) = a.Num * b.Num * x.Den ∧ 0 < x.Den := by
  have va := vn_of ha
  have vb := vn_of hb
  unfold mulOf at h
  rw [if_pos ⟨ha, hb⟩] at h
  obtain ⟨g1, g2, g3⟩ := redOf_val _ _ _ (Nat.mul_pos va.d0 vb.d0) x h
  refine ⟨g1, ?_, g3⟩
  rw [Int.natCast_mul, va.de, vb.de] at g2
  rw [g2]
  congr 1
  unfold sv sgn
  rw [Int.natCast_mul]
  by_cases h1 : a.Num < 0 <;> by_cases h2 : b.Num < 0
  · simp [h1, h2]; rw [show ((a.Num.natAbs : Nat) : Int) = -a.Num by omega, show ((b.Num.natAbs : Nat) : Int) = -b.Num by omega, Int.neg_mul_neg]
  · simp [h1, h2]; rw [show ((a.Num.natAbs : Nat) : Int) = -a.Num by omega, show ((b.Num.natAbs : Nat) : Int) = b.Num by omega, Int.neg_mul, Int.neg_neg]
  · simp [h1, h2]; rw [show ((a.Num.natAbs : Nat) : Int) = a.Num by omega, show ((b.Num.natAbs : Nat) : Int) = -b.Num by omega, Int.mul_neg, Int.neg_neg]
  · simp [h1, h2]; rw [show ((a.Num.natAbs : Nat) : Int) = a.Num by omega, show ((b.Num.natAbs : Nat) : Int) = b.Num by omega]
theorem mul_go {a b : api_Ratio} {P1 Q1 P2 Q2 : Int} {N1 D1 N2 D2 : Nat} (ha : ValB a P1 Q1 N1 D1) (hb : ValB b P2 Q2 N2 D2) (h1 : N1 * N2 ≤ MX) (h2 : D1 * D2 ≤ MX) :
    ∃ x, mulOf a b = (x, 0) ∧ ValB x (P1 * P2) (Q1 * Q2) (N1 * N2) (D1 * D2) := by
  have va := vn_of ha.v
  have vb := vn_of hb.v
  obtain ⟨la, da⟩ := ha.le
  obtain ⟨lb, db⟩ := hb.le
  have hx : ∃ x, mulOf a b = (x, 0) := by
    unfold mulOf
    rw [if_pos ⟨ha.v, hb.v⟩]
    have k1 := Nat.mul_le_mul la lb
    have k3 := Nat.mul_le_mul da db
    exact fit_ok _ _ _ (by omega) (by omega)
  obtain ⟨x, hx⟩ := hx
  obtain ⟨g1, g2, g3⟩ := mulOf_val ha.v hb.v hx
  refine ⟨x, hx, g1, Int.mul_pos ha.q hb.q, ?_, by rw [Int.natAbs_mul]; exact Nat.mul_le_mul ha.bn hb.bn, by rw [Int.natAbs_mul]; exact Nat.mul_le_mul ha.bd hb.bd⟩
  have hab : a.Den * b.Den ≠ 0 := by
    have := Int.mul_pos (show 0 < a.Den by have := (vd_of ha.v).d0; omega) (show 0 < b.Den by have := (vd_of hb.v).d0; omega)
    omega
  refine Int.eq_of_mul_eq_mul_right hab ?_
  have e1 := ha.e; have e2 := hb.e
  have a1 : x.Num * (Q1 * Q2) * (a.Den * b.Den) = x.Num * (a.Den * b.Den) * (Q1 * Q2) := by grind
  rw [a1, g2]
  have a2 : a.Num * b.Num * x.Den * (Q1 * Q2) = a.Num * Q1 * (b.Num * Q2) * x.Den := by grind
  rw [a2, e1, e2]
  grind
theorem neg_v {b : api_Ratio} (h : vR b = true) : vR ⟨-b.Num, b.Den⟩ = true := by
  rw [vR_iff] at h ⊢
  obtain ⟨h1, h2, h3, h4, h5⟩ := h
  refine ⟨h1, h2, by show _ ≤ -b.Num; omega, by show -b.Num ≤ _; omega, ?_⟩
  show Nat.gcd (-b.Num).natAbs _ = 1
  rw [Int.natAbs_neg]; exact h5
theorem neg_go {b : api_Ratio} {P Q : Int} {N D : Nat} (h : ValB b P Q N D) : ValB ⟨-b.Num, b.Den⟩ (-P) Q N D :=
  ⟨neg_v h.v, h.q, by show -b.Num * Q = -P * b.Den; rw [Int.neg_mul, h.e, Int.neg_mul], by rw [Int.natAbs_neg]; exact h.bn, h.bd⟩
theorem sub_go {a b : api_Ratio} {P1 Q1 P2 Q2 : Int} {N1 D1 N2 D2 : Nat} (ha : ValB a P1 Q1 N1 D1) (hb : ValB b P2 Q2 N2 D2) (h1 : N1 * D2 + N2 * D1 ≤ MX) (h2 : D1 * D2 ≤ MX) :
    ∃ x, subOf a b = (x, 0) ∧ ValB x (P1 * Q2 + -P2 * Q1) (Q1 * Q2) (N1 * D2 + N2 * D1) (D1 * D2) := by
  unfold subOf
  rw [if_pos ⟨ha.v, hb.v⟩]
  exact add_go ha (neg_go hb) h1 h2
theorem small_go (t : make_Tape) (h : TOK t) : ∃ a t' n d, make_Tape_Small t = some (a, t') ∧ TOK t' ∧ ValB a n d 30 12 := by
  obtain ⟨a, t', e, ht, hv, n, d, h1, h2, h3, h4, _, h5⟩ := tSmall t h
  exact ⟨a, t', n, d, e, ht, hv, by omega, h5, by omega, by omega⟩
/-! ### the laws of a field -/
theorem div_back {a b p : api_Ratio} {P1 Q1 P2 Q2 : Int} {N1 D1 N2 D2 : Nat} (ha : ValB a P1 Q1 N1 D1) (hb : ValB b P2 Q2 N2 D2) (hp : ValB p (P1 * P2) (Q1 * Q2) (N1 * N2) (D1 * D2)) (hz : b.Num ≠ 0) (h1 : N1 * N2 * D2 ≤ MX) (h2 : D1 * D2 * N2 ≤ MX) : divOf p b = (a, 0) := by
  have vp := vn_of hp.v
  have vb := vn_of hb.v
  obtain ⟨lp, dp⟩ := hp.le
  obtain ⟨lb, db⟩ := hb.le
  unfold divOf
  rw [if_pos ⟨hp.v, hb.v⟩, if_neg hz]
  obtain ⟨x, hx⟩ := fit_ok (sgn p b) (p.Num.natAbs * b.Den.natAbs) (p.Den.natAbs * b.Num.natAbs) (Nat.le_trans (Nat.mul_le_mul lp db) h1) (Nat.le_trans (Nat.mul_le_mul dp lb) h2)
  rw [hx]
  obtain ⟨g1, g2, g3⟩ := redOf_val _ _ _ (Nat.mul_pos vp.d0 (by omega)) x hx
  have key : x.Num * (p.Den * b.Num) = p.Num * b.Den * x.Den := by
    rw [Int.natCast_mul, vp.de] at g2
    unfold sv sgn at g2
    rw [Int.natCast_mul, vb.de] at g2
    by_cases k1 : p.Num < 0 <;> by_cases k2 : b.Num < 0
    · simp [k1, k2] at g2; rw [show ((b.Num.natAbs : Nat) : Int) = -b.Num by omega, show ((p.Num.natAbs : Nat) : Int) = -p.Num by omega] at g2; grind
    · simp [k1, k2] at g2; rw [show ((b.Num.natAbs : Nat) : Int) = b.Num by omega, show ((p.Num.natAbs : Nat) : Int) = -p.Num by omega] at g2; grind
    · simp [k1, k2] at g2; rw [show ((b.Num.natAbs : Nat) : Int) = -b.Num by omega, show ((p.Num.natAbs : Nat) : Int) = p.Num by omega] at g2; grind
    · simp [k1, k2] at g2; rw [show ((b.Num.natAbs : Nat) : Int) = b.Num by omega, show ((p.Num.natAbs : Nat) : Int) = p.Num by omega] at g2; grind
  have : x = a := by
    refine lowest_eq g1 ha.v ?_
    have ep := hp.e; have ea := ha.e; have eb := hb.e
    have hQ1 := ha.q; have hQ2 := hb.q
    have hbd : 0 < b.Den := by have := (vd_of hb.v).d0; omega
    have hpd : 0 < p.Den := by have := (vd_of hp.v).d0; omega
    have hne : p.Den * b.Num * (b.Den * (Q1 * Q2)) ≠ 0 := by
      refine Int.mul_ne_zero (Int.mul_ne_zero (by omega) hz) (Int.mul_ne_zero (by omega) (Int.mul_ne_zero (by omega) (by omega)))
    refine Int.eq_of_mul_eq_mul_right hne ?_
    have s1 : x.Num * a.Den * (p.Den * b.Num * (b.Den * (Q1 * Q2))) = x.Num * (p.Den * b.Num) * (a.Den * b.Den * (Q1 * Q2)) := by grind
    rw [s1, key]
    have s2 : p.Num * b.Den * x.Den * (a.Den * b.Den * (Q1 * Q2)) = p.Num * (Q1 * Q2) * (b.Den * x.Den * a.Den * b.Den) := by grind
    rw [s2, ep]
    have s3 : P1 * P2 * p.Den * (b.Den * x.Den * a.Den * b.Den) = P1 * a.Den * (P2 * b.Den) * (p.Den * b.Den * x.Den) := by grind
    rw [s3, ← ea, ← eb]
    grind
  rw [this]
theorem pure_RatioField (t : List Int) : law01_RatioField t = some true := by
  unfold law01_RatioField
  obtain ⟨t1, e1, h1⟩ := new_ok t
  rw [e1, some_bind]
  obtain ⟨a, t2, n1, d1, e2, h2, va⟩ := small_go t1 h1
  rw [e2, some_bind]; dsimp only
  obtain ⟨b, t3, n2, d2, e3, h3, vb⟩ := small_go t2 h2
  rw [e3, some_bind]; dsimp only
  obtain ⟨c, t4, n3, d3, e4, h4, vc⟩ := small_go t3 h3
  rw [e4, some_bind]; dsimp only
  obtain ⟨ab, x1, v1⟩ := add_go va vb (by decide) (by decide)
  obtain ⟨ba, x2, v2⟩ := add_go vb va (by decide) (by decide)
  obtain ⟨bc, x3, v3⟩ := add_go vb vc (by decide) (by decide)
  obtain ⟨x, x4, v4⟩ := add_go v1 vc (by decide) (by decide)
  obtain ⟨y, x5, v5⟩ := add_go va v3 (by decide) (by decide)
  obtain ⟨p, x6, v6⟩ := mul_go va vb (by decide) (by decide)
  obtain ⟨q, x7, v7⟩ := mul_go vb va (by decide) (by decide)
  obtain ⟨ac, x8, v8⟩ := mul_go va vc (by decide) (by decide)
  obtain ⟨l, x9, v9⟩ := mul_go va v3 (by decide) (by decide)
  obtain ⟨r, x10, v10⟩ := add_go v6 v8 (by decide) (by decide)
  obtain ⟨back, x11, v11⟩ := sub_go v1 vb (by decide) (by decide)
  simp only [Add_eq, Mul_eq, Sub_eq, x1, x2, x3, some_bind]
  simp only [x4, x5, x6, x7, x8, x9, some_bind, x11]
  simp only [x10, some_bind, Div_eq]
  have k1 : ab = ba := v1.eq v2 (by grind)
  have k2 : x = y := v4.eq v5 (by grind)
  have k3 : p = q := v6.eq v7 (by grind)
  have k4 : l = r := v9.eq v10 (by grind)
  have k5 : back = a := v11.eq va (by grind)
  subst k1 k2 k3 k4 k5
  have fin : law01_RatioField_j1 back ab ab x x p p l l back = some true := by
    unfold law01_RatioField_j1
    simp [awake_eq, req_pos]
  by_cases hz : b.Num = 0
  · have hd : divOf p b = (⟨0, 0⟩, 2) := by unfold divOf; rw [if_pos ⟨v6.v, vb.v⟩, if_pos hz]
    rw [hd]
    simp [hz, fin]
  · rw [div_back va vb v6 hz (by decide) (by decide)]
    have hb0 : (b.Num == 0) = false := by simpa using hz
    simp [hb0, fin]
/-! ### rounded numbers are near -/
theorem new_one (f : Int) (h1 : -1152921504606846976 ≤ f) (h2 : f ≤ 1152921504606846976) : newOf f 1 = (⟨f, 1⟩, 0) := by
  unfold newOf redOf fitOf
  rw [if_neg (by omega)]
  simp only [Int.natAbs_one, Nat.gcd_one_right, Nat.div_one]
  rw [if_pos ⟨by omega, by omega⟩]
  by_cases h : f < 0
  · simp [h]; omega
  · simp [h]; omega
theorem v_one (f : Int) (h1 : -1152921504606846976 ≤ f) (h2 : f ≤ 1152921504606846976) : vR ⟨f, 1⟩ = true := by
  rw [vR_iff]
  exact ⟨by show (1 : Int) ≤ 1; decide, by show (1 : Int) ≤ 1152921504606846976; decide, h1, h2, by simp⟩
theorem fl_neg {a : api_Ratio} (hv : vR a = true) : -flR ⟨-a.Num, a.Den⟩ = ceilR a := by
  have h := vd_of hv
  have h0 := h.d0; have hr := h.rs
  have e := h.eq
  unfold ceilR up
  have ef : flR ⟨-a.Num, a.Den⟩ = (-a.Num) / a.Den := rfl
  rw [ef]
  by_cases hz : 0 < rsR a
  · have := (div_is (n := -a.Num) (d := a.Den) (q := -flR a - 1) (r := a.Den - rsR a) (by omega) (by rw [Int.mul_sub, Int.mul_neg]; omega) (by omega) (by omega)).1
    rw [this]; simp [hz]; omega
  · have := (div_is (n := -a.Num) (d := a.Den) (q := -flR a) (r := 0) (by omega) (by rw [Int.mul_neg]; omega) (by omega) (by omega)).1
    rw [this]; simp [hz]
theorem less_v {a b : api_Ratio} (ha : vR a = true) (hb : vR b = true) : (cmpR a b == -1) = decide (a.Num * b.Den < b.Num * a.Den) := by
  rw [cmpR_v ha hb, Bool.eq_iff_iff]
  simp only [beq_iff_eq, decide_eq_true_eq]
  unfold cmpI
  (repeat' split) <;> omega
theorem pure_RatioNear (t : List Int) : law01_RatioNear t = some true := by
  unfold law01_RatioNear
  obtain ⟨t1, e1, h1⟩ := new_ok t
  rw [e1, some_bind]
  obtain ⟨a, t2, n1, d1, e2, h2, va⟩ := small_go t1 h1
  rw [e2, some_bind]; dsimp only
  have hv := va.v
  have hvd := vd_of hv
  obtain ⟨la, da⟩ := va.le
  have hfl := hvd.fl; have hrs := hvd.rs; have heq := hvd.eq; have hd0 := hvd.d0
  have hf30 : -30 ≤ flR a ∧ flR a ≤ 30 := by unfold flR; exact div_between _ _ 30 (by omega) (by omega) (by omega) (by decide)
  simp only [Floor_eq, hv, if_true, some_bind]
  rw [New_eq (flR a) 1 ⟨by omega, by omega⟩ ⟨by decide, by decide⟩, new_one _ (by omega) (by omega), some_bind]
  dsimp only
  have vf : ValB ⟨flR a, 1⟩ (flR a) 1 30 1 := ⟨v_one _ (by omega) (by omega), by decide, by show flR a * 1 = flR a * 1; rfl, by omega, by decide⟩
  obtain ⟨d, x1, vd⟩ := sub_go (⟨hv, by omega, rfl, la, da⟩ : ValB a a.Num a.Den 30 12) vf (by decide) (by decide)
  rw [Sub_eq, x1, some_bind]
  dsimp only
  have hdv := vd.v
  have hdd : 0 < d.Den := by have := (vd_of hdv).d0; omega
  have ed : d.Num * a.Den = rsR a * d.Den := by
    have := vd.e
    rw [Int.mul_one] at this
    rw [this]
    have h3 : a.Num * 1 + -flR a * a.Den = rsR a := by rw [Int.mul_one, Int.neg_mul, Int.mul_comm (flR a)]; omega
    rw [h3]
  have had : 0 < a.Den := by omega
  -- comparisons of d with numbers
  have cmp : ∀ p q : Int, 0 < q → (d.Num * q < p * d.Den ↔ rsR a * q < p * a.Den) := by
    intro p q hq
    constructor
    · intro h
      have h1 := Int.mul_lt_mul_of_pos_right h had
      have h2 : d.Num * q * a.Den = rsR a * q * d.Den := by
        have : d.Num * q * a.Den = d.Num * a.Den * q := by grind
        rw [this, ed]; grind
      have h3 : p * d.Den * a.Den = p * a.Den * d.Den := by grind
      rw [h2, h3] at h1
      exact Int.lt_of_mul_lt_mul_right h1 (by omega)
    · intro h
      have h1 := Int.mul_lt_mul_of_pos_right h hdd
      have h2 : rsR a * q * d.Den = d.Num * q * a.Den := by
        have : d.Num * q * a.Den = d.Num * a.Den * q := by grind
        rw [this, ed]; grind
      have h3 : p * a.Den * d.Den = p * d.Den * a.Den := by grind
      rw [h2, h3] at h1
      exact Int.lt_of_mul_lt_mul_right h1 (by omega)
  have w0 : vR ⟨0, 1⟩ = true := by decide
  have w1 : vR ⟨1, 1⟩ = true := by decide
  have w2 : vR ⟨1, 2⟩ = true := by decide
  have L0 : (cmpR d ⟨0, 1⟩ == -1) = false := by
    rw [less_v hdv w0, decide_eq_false_iff_not, cmp 0 1 (by decide)]; omega
  have L1 : (cmpR d ⟨1, 1⟩ == -1) = true := by
    rw [less_v hdv w1, decide_eq_true_eq, cmp 1 1 (by decide)]; omega
  have L2 : (cmpR d ⟨1, 2⟩ == -1) = decide (2 * rsR a < a.Den) := by
    rw [less_v hdv w2, Bool.eq_iff_iff]
    simp only [decide_eq_true_eq]
    rw [cmp 1 2 (by decide)]; omega
  have hneg : IntKind.i64.wrap (0 - a.Num) = -a.Num := neg_wrap hv
  have hcl : -31 ≤ ceilR a ∧ ceilR a ≤ 31 := by unfold ceilR up; split <;> omega
  simp only [Less_eq, L0, L1, L2, Ceil_eq, hneg, neg_v hv, hv, if_true, some_bind, Option.getD_some, Option.isSome_some, bne_self_eq_false, Bool.or_self, Bool.not_true, Bool.or_false]
  rw [req_pos (by simp)]
  have c1 : (ceilR a != IntKind.i64.wrap (0 - flR ⟨-a.Num, a.Den⟩)) = false := by
    rw [bne_eq_false_iff_eq, ← fl_neg hv, wrap64 (by have := fl_neg hv; omega) (by have := fl_neg hv; omega)]; omega
  rw [c1, Bool.or_self, cond_false]
  -- is it one half
  have half : ((d.Num == 1) && (d.Den == 2)) = decide (a.Den = 2 * rsR a) := by
    rw [Bool.eq_iff_iff]
    simp only [Bool.and_eq_true, beq_iff_eq, decide_eq_true_eq]
    constructor
    · rintro ⟨k1, k2⟩
      rw [k1, k2] at ed; omega
    · intro k
      have : d = ⟨1, 2⟩ := by
        refine lowest_eq hdv w2 ?_
        show d.Num * 2 = 1 * d.Den
        have h3 : d.Num * 2 * rsR a = 1 * d.Den * rsR a := by
          rw [k] at ed
          have : d.Num * 2 * rsR a = d.Num * (2 * rsR a) := by grind
          rw [this, ed]; grind
        exact Int.eq_of_mul_eq_mul_right (by omega) h3
      rw [this]; exact ⟨rfl, rfl⟩
  have fin : ∀ u : Int, u = roundR a → law01_RatioNear_j1 a d u = some true := by
    rintro u rfl
    unfold law01_RatioNear_j1
    have hro : -31 ≤ roundR a ∧ roundR a ≤ 31 := by unfold roundR up; split <;> omega
    simp only [Round_eq, Even_eq, hv, if_true, some_bind, bne_self_eq_false, cond_false, half, awake_eq, Option.getD_some, Option.isSome_some]
    rw [req_pos (by simp), req_pos (by simp)]
    by_cases hh : a.Den = 2 * rsR a
    · rw [show decide (a.Den = 2 * rsR a) = true by simpa using hh, cond_true]
      have hev : evenR a = flR a + up (decide (flR a % 2 ≠ 0)) := by
        unfold evenR
        rw [show decide (a.Den < 2 * rsR a) = false by simp; omega, show decide (a.Den = 2 * rsR a) = true by simpa using hh]
        simp
      have hru : roundR a = flR a + 1 := by unfold roundR up; simp; omega
      have hm : (Int.tmod (evenR a) 2 == 0) = true := by
        have h5 : evenR a % 2 = 0 := by rw [hev]; unfold up; split <;> rename_i h6 <;> simp at h6 <;> omega
        rw [beq_iff_eq]
        exact Int.tmod_eq_zero_of_dvd (Int.dvd_of_emod_eq_zero h5)
      rw [hm, wrap64 (by omega) (by omega), hru, hev]
      by_cases ho : flR a % 2 ≠ 0
      · simp [up, ho]
      · simp [up, ho]
    · rw [show decide (a.Den = 2 * rsR a) = false by simpa using hh, cond_false]
      have : evenR a = roundR a := by
        unfold evenR roundR
        rw [show decide (a.Den = 2 * rsR a) = false by simpa using hh, show decide (a.Den ≤ 2 * rsR a) = decide (a.Den < 2 * rsR a) by rw [Bool.eq_iff_iff]; simp; omega]
        simp
      rw [this]; simp
  rcases bcases (decide (2 * rsR a < a.Den)) with hc | hc <;> rw [hc]
  · have hc' : 2 * rsR a < a.Den := by simpa using hc
    rw [Bool.not_true, cond_false]
    exact fin _ (by unfold roundR up; simp; omega)
  · have hc' : ¬ 2 * rsR a < a.Den := by simpa using hc
    rw [Bool.not_false, cond_true, wrap64 (by omega) (by omega)]
    exact fin _ (by unfold roundR up; simp; omega)
/-! ### long sums -/
theorem sumT_rep (C : Nat) (a : api_Ratio) : ∀ n : Nat, sumT C (List.replicate n a) = (n : Int) * (a.Num * ((C / a.Den.natAbs : Nat) : Int))
  | 0 => by simp [sumT]
  | n + 1 => by
    rw [List.replicate_succ]
    simp only [sumT]
    rw [sumT_rep C a n]
    have : ((n + 1 : Nat) : Int) = (n : Int) + 1 := by omega
    rw [this, Int.add_mul, Int.one_mul]; omega
theorem lcmL_rep (a : api_Ratio) (h : 0 < a.Den.natAbs) : ∀ n : Nat, lcmL (List.replicate (n + 1) a) = a.Den.natAbs
  | 0 => by simp [lcmL, Nat.lcm]
  | n + 1 => by
    rw [List.replicate_succ]
    simp only [lcmL]
    rw [lcmL_rep a h n, Nat.lcm_self]
theorem iter_rep (y : Nat) (a : api_Ratio) (hy : y ≤ 1000) : ∀ (n k : Nat), y - k = n → k ≤ y → iter (law01_RatioSumsLong_l2 (y : Int) a) ((k : Int), List.replicate k a) = some (List.replicate y a) := by
  intro n
  induction n with
  | zero =>
    intro k hn hk
    have : k = y := by omega
    subst this
    refine iter_inr ?_
    simp [law01_RatioSumsLong_l2]
  | succ n ih =>
    intro k hn hk
    have hs : law01_RatioSumsLong_l2 (y : Int) a ((k : Int), List.replicate k a) = some (.inl (((k + 1 : Nat) : Int), List.replicate (k + 1) a)) := by
      simp only [law01_RatioSumsLong_l2]
      rw [show decide ((k : Int) < (y : Int)) = true by simp; omega, cond_true, req_pos (by simp; omega), i64_add1 k (by omega)]
      rw [List.replicate_succ']
    rw [iter_inl hs]
    exact ih (k + 1) (by omega) (by omega)
theorem pure_RatioSumsLong (n num den : Int) : law01_RatioSumsLong n num den = some true := by
  unfold law01_RatioSumsLong
  obtain ⟨y, e1, y0, y1, _⟩ := cut_ok n 110 (by decide)
  have y2 := y1 (by decide)
  rw [e1, some_bind]
  obtain ⟨u, e2, u0, u1, _⟩ := cut_ok num 1000 (by decide)
  have u2 := u1 (by decide)
  rw [e2, some_bind]
  obtain ⟨w, e3, w0, w1, _⟩ := cut_ok den 1000 (by decide)
  have w2 := w1 (by decide)
  rw [e3, some_bind]
  rw [wrap64 (n := u - 500) (by omega) (by omega), wrap64 (n := 1 + w) (by omega) (by omega), New_eq _ _ ⟨by omega, by omega⟩ ⟨by omega, by omega⟩]
  obtain ⟨a, ha, hv, hval, _⟩ := newOf_ok' (u - 500) (1 + w) (by omega) (by omega) (by omega) (by omega)
  rw [ha, some_bind]
  dsimp only
  rw [New_eq _ _ ⟨by omega, by omega⟩ ⟨by decide, by decide⟩, new_one y (by omega) (by omega), some_bind]
  dsimp only
  have va : ValB a (u - 500) (1 + w) 500 1000 := ⟨hv, by omega, hval, by omega, by omega⟩
  have vy : ValB ⟨y, 1⟩ y 1 110 1 := ⟨v_one _ (by omega) (by omega), by decide, rfl, by omega, by decide⟩
  obtain ⟨p, hp, vp⟩ := mul_go va vy (by decide) (by decide)
  rw [Mul_eq, hp, some_bind]
  dsimp only
  obtain ⟨k, rfl⟩ : ∃ k : Nat, y = (k : Int) := ⟨y.toNat, by omega⟩
  have hit := iter_rep k a (by omega) k 0 (by omega) (by omega)
  rw [show ((0 : Int), ([] : List api_Ratio)) = (((0 : Nat) : Int), List.replicate 0 a) by rfl, hit, some_bind]
  unfold law01_RatioSumsLong_j1
  rw [Sum_eq, some_bind]
  have hvn := vn_of hv
  by_cases hc : 100 < k
  · have hs : sumOf (List.replicate k a) = (⟨0, 0⟩, 3) := by
      rw [sumOf_eq, if_pos (by simpa using hc)]
    rw [hs]
    dsimp only
    rw [show decide ((100 : Int) < (k : Int)) = true by simp; omega, cond_true]
    simp [awake_eq, req_pos]
  · have hs : sumOf (List.replicate k a) = (p, 0) := by
      rw [sumOf_eq, if_neg (by simpa using hc), if_pos (by simp [hv])]
      have hmu : mulOf a ⟨(k : Int), 1⟩ = redOf (sgn a ⟨(k : Int), 1⟩) (a.Num.natAbs * (k : Int).natAbs) (a.Den.natAbs * (1 : Int).natAbs) := by
        unfold mulOf
        rw [if_pos ⟨hv, vy.v⟩]
      rw [← hp, hmu]
      clear hmu hp vp vy hit e1
      cases k with
      | zero =>
        simp only [List.replicate_zero, lcmL, sumT]
        rw [if_pos (by decide)]
        unfold redV sgn
        have hz : redOf (!(decide (a.Num < 0) == decide ((((0 : Nat) : Int)) < 0))) (a.Num.natAbs * ((0 : Nat) : Int).natAbs) (a.Den.natAbs * (1 : Int).natAbs) = redOf false 0 a.Den.natAbs := by
          rw [show a.Num.natAbs * ((0 : Nat) : Int).natAbs = 0 by simp, show a.Den.natAbs * (1 : Int).natAbs = a.Den.natAbs by simp, red_zero]
        rw [hz]
        unfold redOf fitOf
        have := hvn.d0
        simp [Nat.gcd_zero_left, Nat.div_self hvn.d0]
      | succ k =>
        rw [lcmL_rep a hvn.d0, if_pos hvn.d1, sumT_rep, Nat.div_self hvn.d0]
        unfold redV sgn
        have e1 : ((k + 1 : Nat) : Int) * (a.Num * ((1 : Nat) : Int)) = a.Num * ((k + 1 : Nat) : Int) := by rw [show (((1 : Nat) : Int)) = 1 by rfl, Int.mul_one, Int.mul_comm]
        rw [e1, Int.natAbs_mul]
        have e2 : decide (a.Num * ((k + 1 : Nat) : Int) < 0) = (!(decide (a.Num < 0) == decide ((((k + 1 : Nat) : Int)) < 0))) := by
          rw [show decide ((((k + 1 : Nat) : Int)) < 0) = false by simp; omega]
          by_cases hn : a.Num < 0
          · have : a.Num * ((k + 1 : Nat) : Int) < 0 := Int.mul_neg_of_neg_of_pos hn (by omega)
            simp only [this, hn]; rfl
          · have : ¬ a.Num * ((k + 1 : Nat) : Int) < 0 := by
              have := Int.mul_nonneg (show 0 ≤ a.Num by omega) (show (0 : Int) ≤ ((k + 1 : Nat) : Int) by omega)
              omega
            simp only [this, hn]; rfl
        rw [e2, show a.Den.natAbs * (1 : Int).natAbs = a.Den.natAbs by simp]
    rw [hs]
    dsimp only
    rw [show decide ((100 : Int) < (k : Int)) = false by simp; omega, cond_false]
    simp [awake_eq, req_pos]
end Go.LS
