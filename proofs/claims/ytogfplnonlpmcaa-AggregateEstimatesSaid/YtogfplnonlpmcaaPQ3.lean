/-
  Law 01: the laws about sums of lists, their order, and the order of fractions.
  Conditions: none but those of the statements.
-/
import Derived.Test.YtogfplnonlpmcaaPQ2
namespace Go.LS
set_option linter.all false
set_option linter.unusedSimpArgs false
set_option linter.unusedVariables false
set_option maxRecDepth 20000

theorem newOf_ok' (a N : Int) (h1 : -1152921504606846976 ≤ a) (h2 : a ≤ 1152921504606846976) (h3 : 0 < N) (h4 : N ≤ 1152921504606846976) : ∃ r, newOf a N = (r, 0) ∧ vR r = true ∧ r.Num * N = a * r.Den ∧ 0 < r.Den := by
  unfold newOf
  rw [if_neg (by omega)]
  have e : ∃ r, redOf (!(decide (a < 0) == decide (N < 0))) a.natAbs N.natAbs = (r, 0) := by
    unfold redOf fitOf
    have k1 := Nat.div_le_self a.natAbs (Nat.gcd a.natAbs N.natAbs)
    have k2 := Nat.div_le_self N.natAbs (Nat.gcd a.natAbs N.natAbs)
    rw [if_pos ⟨by omega, by omega⟩]
    exact ⟨_, rfl⟩
  obtain ⟨r, hr⟩ := e
  obtain ⟨g1, g2, g3⟩ := redOf_val _ _ _ (by omega) r hr
  refine ⟨r, hr, g1, ?_, g3⟩
  rw [show ((N.natAbs : Nat) : Int) = N by omega] at g2
  rw [g2]
  congr 1
  unfold sv
  rw [show decide (N < 0) = false by simp; omega]
  by_cases h : a < 0
  · simp [h]; omega
  · simp [h]; omega
/-! ### order does not matter -/
def lcmL : List api_Ratio → Nat
  | [] => 1
  | a :: l => Nat.lcm a.Den.natAbs (lcmL l)
theorem lcmL_pos : ∀ (l : List api_Ratio), (∀ a ∈ l, vR a = true) → 0 < lcmL l
  | [], _ => by simp [lcmL]
  | a :: l, h => lcm_pos' (vn_of (h a (by simp))).d0 (lcmL_pos l fun x hx => h x (by simp [hx]))
theorem lcmF_eq : ∀ (l : List api_Ratio) (c : Nat), 0 < c → c ≤ MX → (∀ a ∈ l, vR a = true) → lcmF l c = if Nat.lcm c (lcmL l) ≤ MX then some (Nat.lcm c (lcmL l)) else none
  | [], c, h0, h1, _ => by simp [lcmF, lcmL, h1]
  | a :: l, c, h0, h1, hv => by
    have hd := (vn_of (hv a (by simp))).d0
    have hv' : ∀ x ∈ l, vR x = true := fun x hx => hv x (by simp [hx])
    have eL : Nat.lcm c (lcmL (a :: l)) = Nat.lcm (Nat.lcm c a.Den.natAbs) (lcmL l) := (Nat.lcm_assoc _ _ _).symm
    rw [eL]
    simp only [lcmF]
    by_cases hc : Nat.lcm c a.Den.natAbs ≤ 1152921504606846976
    · rw [if_pos hc]
      exact lcmF_eq l _ (lcm_pos' h0 hd) hc hv'
    · rw [if_neg hc]
      have h2 : Nat.lcm c a.Den.natAbs ≤ Nat.lcm (Nat.lcm c a.Den.natAbs) (lcmL l) := Nat.le_of_dvd (lcm_pos' (lcm_pos' h0 hd) (lcmL_pos l hv')) (Nat.dvd_lcm_left _ _)
      rw [if_neg (by unfold MX; omega)]
theorem lcmL_perm {l m : List api_Ratio} (h : l.Perm m) : lcmL l = lcmL m := by
  induction h with
  | nil => rfl
  | cons x _ ih => simp only [lcmL, ih]
  | swap x y l => simp only [lcmL]; rw [← Nat.lcm_assoc, ← Nat.lcm_assoc, Nat.lcm_comm y.Den.natAbs]
  | trans _ _ ih1 ih2 => exact ih1.trans ih2
def sumT (C : Nat) : List api_Ratio → Int
  | [] => 0
  | a :: l => a.Num * ((C / a.Den.natAbs : Nat) : Int) + sumT C l
theorem sumT_perm (C : Nat) {l m : List api_Ratio} (h : l.Perm m) : sumT C l = sumT C m := by
  induction h with
  | nil => rfl
  | cons x _ ih => simp only [sumT, ih]
  | swap x y l => simp only [sumT]; omega
  | trans _ _ ih1 ih2 => exact ih1.trans ih2
theorem sv_num (a : Int) (n : Nat) : sv (decide (a < 0)) (a.natAbs * n) = a * (n : Int) := by
  unfold sv
  by_cases h : a < 0
  · rw [if_pos (by simpa using h), Int.natCast_mul, show ((a.natAbs : Nat) : Int) = -a by omega, Int.neg_mul, Int.neg_neg]
  · rw [if_neg (by simpa using h), Int.natCast_mul, show ((a.natAbs : Nat) : Int) = a by omega]
theorem sumF_val (C : Nat) : ∀ (l : List api_Ratio) (p : Bool × Nat), sv (sumF C l p).1 (sumF C l p).2 = sv p.1 p.2 + sumT C l
  | [], p => by simp [sumF, sumT]
  | a :: l, p => by
    have := sumF_val C l (addS p.1 p.2 (decide (a.Num < 0)) (a.Num.natAbs * (C / a.Den.natAbs)))
    rw [addS_val, sv_num] at this
    simp only [sumT]
    show sv (sumF C l (addS p.1 p.2 (decide (a.Num < 0)) (a.Num.natAbs * (C / a.Den.natAbs)))).1 _ = _
    rw [show sumF C (a :: l) p = sumF C l (addS p.1 p.2 (decide (a.Num < 0)) (a.Num.natAbs * (C / a.Den.natAbs))) from rfl, this]
    omega
def redV (v : Int) (C : Nat) : api_Ratio × Int := redOf (decide (v < 0)) v.natAbs C
theorem red_val (s : Bool) (k C : Nat) : redOf s k C = redV (sv s k) C := by
  unfold redV sv
  cases s with
  | false => simp [show ¬ ((k : Int) < 0) by omega]
  | true =>
    rcases Nat.eq_zero_or_pos k with h | h
    · subst h; simp; exact red_zero true C
    · simp [h]
theorem sumOf_eq (l : List api_Ratio) : sumOf l = if 100 < l.length then (⟨0, 0⟩, 3) else if (l.all fun a => vR a) = true then (if lcmL l ≤ MX then redV (sumT (lcmL l) l) (lcmL l) else (⟨0, 0⟩, 6)) else (⟨0, 0⟩, 1) := by
  unfold sumOf
  split
  · rfl
  · split
    · rename_i h1 h2
      rw [lcmF_eq l 1 (by omega) (by decide) (all_valid h2), show Nat.lcm 1 (lcmL l) = lcmL l by simp [Nat.lcm]]
      by_cases hc : lcmL l ≤ MX
      · rw [if_pos hc, if_pos hc]
        dsimp only
        rw [red_val, sumF_val]
        simp [sv]
      · rw [if_neg hc, if_neg hc]
    · rfl
theorem sumOf_perm {l m : List api_Ratio} (h : l.Perm m) : sumOf l = sumOf m := by
  rw [sumOf_eq, sumOf_eq, h.length_eq, h.all_eq, lcmL_perm h, sumT_perm _ h]
theorem foldl_snoc {α β : Type} (f : β → α) : ∀ (l : List β) (b : List α), l.foldl (fun b n => b ++ [f n]) b = b ++ l.map f
  | [], b => by simp
  | x :: l, b => by simp [foldl_snoc f l]
/-! ### the order of fractions -/
theorem cmpI_neg (x y : Int) : cmpI x y = -cmpI y x := by
  unfold cmpI; (repeat' split) <;> omega
theorem cmpI_zero (x y : Int) : cmpI x y = 0 ↔ x = y := by
  unfold cmpI; (repeat' split) <;> omega
theorem cmpI_nonpos (x y : Int) : cmpI x y ≤ 0 ↔ x ≤ y := by
  unfold cmpI; (repeat' split) <;> omega
theorem cmpI_pos (x y : Int) : 0 < cmpI x y ↔ y < x := by
  unfold cmpI; (repeat' split) <;> omega
theorem cmpI_mul' (x y c : Int) (h : 0 < c) : cmpI (x * c) (y * c) = cmpI x y := by
  unfold cmpI
  have e1 : x * c < y * c ↔ x < y := ⟨fun hh => Int.lt_of_mul_lt_mul_right hh (by omega), fun hh => Int.mul_lt_mul_of_pos_right hh h⟩
  have e2 : y * c < x * c ↔ y < x := ⟨fun hh => Int.lt_of_mul_lt_mul_right hh (by omega), fun hh => Int.mul_lt_mul_of_pos_right hh h⟩
  simp only [e1, e2]
theorem cmpI_shift (x y z : Int) : cmpI (x + z) (y + z) = cmpI x y := by
  unfold cmpI
  simp only [show x + z < y + z ↔ x < y by omega, show y + z < x + z ↔ y < x by omega]
theorem cmpR_v {a b : api_Ratio} (ha : vR a = true) (hb : vR b = true) : cmpR a b = cmpI (a.Num * b.Den) (b.Num * a.Den) := by unfold cmpR; rw [if_pos ⟨ha, hb⟩]
/-- fractions in lowest terms are equal if their values are -/
theorem lowest_eq {a b : api_Ratio} (ha : vR a = true) (hb : vR b = true) (h : a.Num * b.Den = b.Num * a.Den) : a = b := by
  have va := vn_of ha
  have vb := vn_of hb
  have hn : a.Num.natAbs * b.Den.natAbs = b.Num.natAbs * a.Den.natAbs := by
    rw [← Int.natAbs_mul, ← Int.natAbs_mul, h]
  have d1 : a.Den.natAbs ∣ b.Den.natAbs := Nat.Coprime.dvd_of_dvd_mul_left (Nat.Coprime.symm va.cop) ⟨b.Num.natAbs, by rw [hn, Nat.mul_comm]⟩
  have d2 : b.Den.natAbs ∣ a.Den.natAbs := Nat.Coprime.dvd_of_dvd_mul_left (Nat.Coprime.symm vb.cop) ⟨a.Num.natAbs, by rw [← hn, Nat.mul_comm]⟩
  have hd := Nat.dvd_antisymm d1 d2
  have hD : a.Den = b.Den := by rw [← va.de, ← vb.de, hd]
  have h0 : a.Den ≠ 0 := by have := va.d0; omega
  rw [← hD] at h
  have hN := Int.eq_of_mul_eq_mul_right h0 h
  cases a; cases b
  simp_all
theorem cmpR_trans {a b c : api_Ratio} (ha : vR a = true) (hb : vR b = true) (hc : vR c = true) (h1 : cmpR a b ≤ 0) (h2 : cmpR b c ≤ 0) : cmpR a c ≤ 0 := by
  rw [cmpR_v ha hb, cmpI_nonpos] at h1
  rw [cmpR_v hb hc, cmpI_nonpos] at h2
  rw [cmpR_v ha hc, cmpI_nonpos]
  have da := (vd_of ha).d0; have db := (vd_of hb).d0; have dc := (vd_of hc).d0
  have k1 := Int.mul_le_mul_of_nonneg_right h1 (show 0 ≤ c.Den by omega)
  have k2 := Int.mul_le_mul_of_nonneg_right h2 (show 0 ≤ a.Den by omega)
  have k3 : a.Num * c.Den * b.Den ≤ c.Num * a.Den * b.Den := by
    have e1 : a.Num * c.Den * b.Den = a.Num * b.Den * c.Den := by rw [Int.mul_right_comm]
    have e2 : c.Num * a.Den * b.Den = c.Num * b.Den * a.Den := by rw [Int.mul_right_comm]
    have e3 : b.Num * a.Den * c.Den = b.Num * c.Den * a.Den := by rw [Int.mul_right_comm]
    omega
  exact Int.le_of_mul_le_mul_right k3 (by omega)
/-- what a sum denotes -/
theorem addOf2_val {a b x : api_Ratio} (ha : vR a = true) (hb : vR b = true) (h : addOf2 a b = (x, 0)) : vR x = true ∧ x.Num * (a.Den * b.Den) = (a.Num * b.Den + b.Num * a.Den) * x.Den ∧ 0 < x.Den := by
  have va := vn_of ha
  have vb := vn_of hb
  unfold addOf2 at h
  rw [if_pos ⟨ha, hb⟩] at h
  obtain ⟨g1, g2, g3⟩ := redOf_val _ _ _ (Nat.mul_pos va.d0 vb.d0) x h
  refine ⟨g1, ?_, g3⟩
  rw [addS_val, sv_num, sv_num, Int.natCast_mul, va.de, vb.de] at g2
  exact g2
theorem cmpR_add {a b c x y : api_Ratio} (ha : vR a = true) (hb : vR b = true) (hc : vR c = true) (hx : addOf2 a c = (x, 0)) (hy : addOf2 b c = (y, 0)) : cmpR x y = cmpR a b := by
  obtain ⟨x1, x2, x3⟩ := addOf2_val ha hc hx
  obtain ⟨y1, y2, y3⟩ := addOf2_val hb hc hy
  have da := (vd_of ha).d0; have db := (vd_of hb).d0; have dc := (vd_of hc).d0
  rw [cmpR_v x1 y1, cmpR_v ha hb]
  have hD : 0 < a.Den * c.Den * (b.Den * c.Den) := Int.mul_pos (Int.mul_pos (by omega) (by omega)) (Int.mul_pos (by omega) (by omega))
  have hE : 0 < x.Den * y.Den := Int.mul_pos x3 y3
  have hF : 0 < c.Den * c.Den := Int.mul_pos (by omega) (by omega)
  rw [← cmpI_mul' _ _ _ hD]
  have e1 : x.Num * y.Den * (a.Den * c.Den * (b.Den * c.Den)) = (a.Num * b.Den * (c.Den * c.Den) + c.Num * a.Den * b.Den * c.Den) * (x.Den * y.Den) := by
    have : x.Num * y.Den * (a.Den * c.Den * (b.Den * c.Den)) = x.Num * (a.Den * c.Den) * (y.Den * (b.Den * c.Den)) := by grind
    rw [this, x2]; grind
  have e2 : y.Num * x.Den * (a.Den * c.Den * (b.Den * c.Den)) = (b.Num * a.Den * (c.Den * c.Den) + c.Num * a.Den * b.Den * c.Den) * (x.Den * y.Den) := by
    have : y.Num * x.Den * (a.Den * c.Den * (b.Den * c.Den)) = y.Num * (b.Den * c.Den) * (x.Den * (a.Den * c.Den)) := by grind
    rw [this, y2]; grind
  rw [e1, e2, cmpI_mul' _ _ _ hE, cmpI_shift, cmpI_mul' _ _ _ hF]
theorem cmpR_anti (a b : api_Ratio) : cmpR a b = -cmpR b a := by
  unfold cmpR
  by_cases h : vR a = true ∧ vR b = true
  · rw [if_pos h, if_pos h.symm]; exact cmpI_neg _ _
  · rw [if_neg h, if_neg (fun h2 => h h2.symm)]; rfl
end Go.LS
