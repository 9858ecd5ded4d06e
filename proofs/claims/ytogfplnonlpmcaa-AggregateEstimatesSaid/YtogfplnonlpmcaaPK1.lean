/-
  Law 36: totals in closed form.
  Conditions: valid awards and marks with the numbers that the dice make.
-/
import Derived.Test.YtogfplnonlpmcaaPK
namespace Go.LS
set_option linter.all false
set_option linter.unusedSimpArgs false
set_option linter.unusedVariables false
set_option maxRecDepth 20000

theorem ValB.scale {a : api_Ratio} {P Q : Int} {N D : Nat} (h : ValB a P Q N D) (k : Int) (hk : 0 < k) (N' D' : Nat) (h1 : (P * k).natAbs ≤ N') (h2 : (Q * k).natAbs ≤ D') : ValB a (P * k) (Q * k) N' D' :=
  ⟨h.v, Int.mul_pos h.q hk, by rw [← Int.mul_assoc, h.e, Int.mul_right_comm], h1, h2⟩
/-- fractions over one denominator -/
def AllV (Q : Int) (N D : Nat) : List api_Ratio → List Int → Prop
  | [], [] => True
  | a :: l, t :: ts => ValB a t Q N D ∧ AllV Q N D l ts
  | _, _ => False
def sumL : List Int → Int
  | [] => 0
  | a :: l => a + sumL l
theorem AllV.len {Q : Int} {N D : Nat} : ∀ {l : List api_Ratio} {ts : List Int}, AllV Q N D l ts → l.length = ts.length
  | [], [], _ => rfl
  | a :: l, t :: ts, h => by simp [AllV.len h.2]
theorem AllV.v {Q : Int} {N D : Nat} : ∀ {l : List api_Ratio} {ts : List Int}, AllV Q N D l ts → ∀ a ∈ l, vR a = true ∧ a.Den.natAbs ∣ Q.natAbs
  | a :: l, t :: ts, h, x, hx => by
    rcases List.mem_cons.1 hx with rfl | hx
    · refine ⟨h.1.v, ?_⟩
      have va := vn_of h.1.v
      have hn : x.Num.natAbs * Q.natAbs = t.natAbs * x.Den.natAbs := by rw [← Int.natAbs_mul, ← Int.natAbs_mul, h.1.e]
      exact Nat.Coprime.dvd_of_dvd_mul_left (Nat.Coprime.symm va.cop) ⟨t.natAbs, by rw [hn, Nat.mul_comm]⟩
    · exact AllV.v h.2 x hx
theorem AllV.lcm {Q : Int} {N D : Nat} : ∀ {l : List api_Ratio} {ts : List Int}, AllV Q N D l ts → lcmL l ∣ Q.natAbs
  | [], [], _ => by simp [lcmL]
  | a :: l, t :: ts, h => Nat.lcm_dvd (AllV.v h a (by simp)).2 (AllV.lcm h.2)
theorem AllV.sum {Q : Int} {N D : Nat} (L k : Nat) (hk : (L * k : Nat) = Q.natAbs) (hQ : 0 < Q) : ∀ {l : List api_Ratio} {ts : List Int}, AllV Q N D l ts → (∀ a ∈ l, a.Den.natAbs ∣ L) → sumT L l * (k : Int) = sumL ts ∧ (sumL ts).natAbs ≤ N * ts.length
  | [], [], _, _ => by simp [sumT, sumL]
  | a :: l, t :: ts, h, hd => by
    obtain ⟨i1, i2⟩ := AllV.sum L k hk hQ h.2 (fun x hx => hd x (by simp [hx]))
    have va := vn_of h.1.v
    obtain ⟨c, hc⟩ := hd a (by simp)
    have hdiv : L / a.Den.natAbs = c := by rw [hc]; exact Nat.mul_div_cancel_left c va.d0
    have hQ' : (Q.natAbs : Int) = Q := by omega
    have e1 : a.Num * (c : Int) * (k : Int) = t := by
      have h0 : a.Den ≠ 0 := by have := va.d0; omega
      refine Int.eq_of_mul_eq_mul_right h0 ?_
      have he := h.1.e
      rw [← he, ← hQ', ← hk, hc, ← va.de]
      simp only [Int.natCast_mul]
      grind
    constructor
    · simp only [sumT, sumL, hdiv]
      rw [Int.add_mul, e1, i1]
    · simp only [sumL, List.length_cons]
      have := Int.natAbs_add_le t (sumL ts)
      have := h.1.bn
      rw [Nat.mul_add, Nat.mul_one]
      omega
theorem sum_go {Q : Int} {N D : Nat} {l : List api_Ratio} {ts : List Int} (h : AllV Q N D l ts) (hQ : 0 < Q) (hD : Q.natAbs ≤ D) (hDM : D ≤ MX) (hl : l.length ≤ 100) (hN : N * 100 ≤ MX) : ∃ x, sumOf l = (x, 0) ∧ ValB x (sumL ts) Q (N * 100) D := by
  have hv : ∀ a ∈ l, vR a = true := fun a ha => (h.v a ha).1
  obtain ⟨k, hk⟩ := h.lcm
  have hL : 0 < lcmL l := lcmL_pos l hv
  have hk0 : 0 < k := by
    rcases Nat.eq_zero_or_pos k with h0 | h0
    · rw [h0, Nat.mul_zero] at hk; omega
    · exact h0
  have hLle : lcmL l ≤ Q.natAbs := Nat.le_of_dvd (by omega) h.lcm
  have hdvd : ∀ a ∈ l, a.Den.natAbs ∣ lcmL l := by
    intro a ha
    clear hk hLle hL h
    induction l with
    | nil => cases ha
    | cons b l ih =>
      rcases List.mem_cons.1 ha with rfl | ha
      · exact Nat.dvd_lcm_left _ _
      · exact Nat.dvd_trans (ih (by simp at hl; omega) (fun x hx => hv x (by simp [hx])) ha) (Nat.dvd_lcm_right _ _)
  obtain ⟨s1, s2⟩ := h.sum (lcmL l) k hk.symm hQ hdvd
  have hlen := h.len
  have hb : (sumL ts).natAbs ≤ N * 100 := Nat.le_trans s2 (Nat.mul_le_mul_left N (by omega))
  have hsb : (sumT (lcmL l) l).natAbs ≤ MX := by
    have : (sumT (lcmL l) l).natAbs * k = (sumL ts).natAbs := by rw [← s1, Int.natAbs_mul, Int.natAbs_natCast]
    have := Nat.le_mul_of_pos_right (sumT (lcmL l) l).natAbs hk0
    omega
  rw [sumOf_eq, if_neg (by omega), if_pos (List.all_eq_true.2 hv), if_pos (by omega)]
  obtain ⟨x, hx⟩ := fit_ok (decide (sumT (lcmL l) l < 0)) (sumT (lcmL l) l).natAbs (lcmL l) hsb (by omega)
  refine ⟨x, hx, ?_⟩
  obtain ⟨g1, g2, g3⟩ := redOf_val _ _ _ hL x hx
  refine ⟨g1, hQ, ?_, hb, hD⟩
  have hsv : sv (decide (sumT (lcmL l) l < 0)) (sumT (lcmL l) l).natAbs = sumT (lcmL l) l := by
    unfold sv; split <;> rename_i hh <;> simp at hh <;> omega
  rw [hsv] at g2
  have hQ' : (Q.natAbs : Int) = Q := by omega
  rw [← hQ', hk, Int.natCast_mul, ← Int.mul_assoc, g2, ← s1]
  grind
/-! ### awards and marks -/
def okMax (n : Int) : Prop := n = 10 ∨ n = 12 ∨ n = 50 ∨ n = 100
structure UOK (u : api_Unit) : Prop where
  w0 : 1 ≤ u.Weight
  w1 : u.Weight ≤ 600
  mx : okMax u.Max
structure MOK (u : api_Unit) (m : api_UnitMark) : Prop where
  k0 : 0 ≤ m.Kind
  k1 : m.Kind ≤ 3
  v : vR m.Value = true
  n0 : 0 ≤ m.Value.Num
  den : m.Value.Den = 1 ∨ m.Value.Den = 2
  le : m.Value.Num ≤ u.Max * m.Value.Den
  z : m.Kind ≠ 0 → m.Value = ⟨0, 1⟩
def PairOK : List api_Unit → List api_UnitMark → Prop
  | [], [] => True
  | u :: us, m :: ms => UOK u ∧ MOK u m ∧ PairOK us ms
  | _, _ => False
def counts (m : api_UnitMark) : Bool := m.Kind == 0 || m.Kind == 1
def tOf (u : api_Unit) (m : api_UnitMark) : Int := m.Value.Num * u.Weight * (600 / (m.Value.Den * u.Max))
def termOf (u : api_Unit) (m : api_UnitMark) : api_Ratio := (mulOf m.Value (newOf u.Weight u.Max).1).1
def terms : List api_Unit → List api_UnitMark → List api_Ratio
  | u :: us, m :: ms => if counts m = true then termOf u m :: terms us ms else terms us ms
  | _, _ => []
def tsOf : List api_Unit → List api_UnitMark → List Int
  | u :: us, m :: ms => if counts m = true then tOf u m :: tsOf us ms else tsOf us ms
  | _, _ => []
def wOf : List api_Unit → List api_UnitMark → Int
  | u :: us, m :: ms => if counts m = true then u.Weight + wOf us ms else wOf us ms
  | _, _ => 0
theorem term_ok {u : api_Unit} {m : api_UnitMark} (hu : UOK u) (hm : MOK u m) : ∃ f x, newOf u.Weight u.Max = (f, 0) ∧ mulOf m.Value f = (x, 0) ∧ termOf u m = x ∧ ValB x (tOf u m) 600 7200000 600 := by
  have w0 := hu.w0; have w1 := hu.w1; have hn0 := hm.n0; have hle := hm.le
  have hmx : 10 ≤ u.Max ∧ u.Max ≤ 100 := by rcases hu.mx with h | h | h | h <;> omega
  obtain ⟨f, h1, h2, h3, _⟩ := newOf_ok' u.Weight u.Max (by omega) (by omega) (by omega) (by omega)
  have hden : 1 ≤ m.Value.Den ∧ m.Value.Den ≤ 2 := by rcases hm.den with h | h <;> omega
  have hnb : m.Value.Num ≤ 200 := by
    rcases hm.den with h | h <;> rw [h] at hle <;> omega
  have vv : ValB m.Value m.Value.Num m.Value.Den 200 2 := ⟨hm.v, by omega, rfl, by omega, by omega⟩
  have vf : ValB f u.Weight u.Max 600 100 := ⟨h2, by omega, h3, by omega, by omega⟩
  obtain ⟨x, h4, h5⟩ := mul_go vv vf (by decide) (by decide)
  refine ⟨f, x, h1, h4, by unfold termOf; rw [h1]; dsimp only; rw [h4], ?_⟩
  have hq : ∃ k : Int, 0 < k ∧ m.Value.Den * u.Max * k = 600 ∧ 600 / (m.Value.Den * u.Max) = k ∧ k ≤ 60 := by
    rcases hm.den with h | h <;> rcases hu.mx with h' | h' | h' | h' <;> rw [h, h']
    · exact ⟨60, by decide, by decide, by decide, by decide⟩
    · exact ⟨50, by decide, by decide, by decide, by decide⟩
    · exact ⟨12, by decide, by decide, by decide, by decide⟩
    · exact ⟨6, by decide, by decide, by decide, by decide⟩
    · exact ⟨30, by decide, by decide, by decide, by decide⟩
    · exact ⟨25, by decide, by decide, by decide, by decide⟩
    · exact ⟨6, by decide, by decide, by decide, by decide⟩
    · exact ⟨3, by decide, by decide, by decide, by decide⟩
  obtain ⟨k, k0, k1, k2, k3⟩ := hq
  have hb : (m.Value.Num * u.Weight * k).natAbs ≤ 7200000 := by
    have a1 : 0 ≤ m.Value.Num * u.Weight := Int.mul_nonneg hn0 (by omega)
    have a2 : m.Value.Num * u.Weight ≤ 200 * 600 := Int.mul_le_mul hnb w1 (by omega) (by decide)
    have a3 : 0 ≤ m.Value.Num * u.Weight * k := Int.mul_nonneg a1 (by omega)
    have a4 : m.Value.Num * u.Weight * k ≤ 120000 * 60 := Int.mul_le_mul (by omega) k3 (by omega) (by decide)
    omega
  have := h5.scale k k0 7200000 600 hb (by rw [k1]; decide)
  rw [k1] at this
  unfold tOf
  rw [k2]
  exact this
theorem terms_all : ∀ {us : List api_Unit} {ms : List api_UnitMark}, PairOK us ms → AllV 600 7200000 600 (terms us ms) (tsOf us ms)
  | [], [], _ => trivial
  | u :: us, m :: ms, h => by
    simp only [terms, tsOf]
    split
    · obtain ⟨f, x, _, _, h3, h4⟩ := term_ok h.1 h.2.1
      rw [h3]
      exact ⟨h4, terms_all h.2.2⟩
    · exact terms_all h.2.2
theorem terms_len : ∀ {us : List api_Unit} {ms : List api_UnitMark}, PairOK us ms → (terms us ms).length ≤ ms.length ∧ us.length = ms.length
  | [], [], _ => by simp [terms]
  | u :: us, m :: ms, h => by
    have := terms_len h.2.2
    simp only [terms]
    split <;> simp <;> omega
theorem wOf_b : ∀ {us : List api_Unit} {ms : List api_UnitMark}, PairOK us ms → 0 ≤ wOf us ms ∧ wOf us ms ≤ 600 * ms.length ∧ ((ms.any counts) = true → 1 ≤ wOf us ms)
  | [], [], _ => by simp [wOf]
  | u :: us, m :: ms, h => by
    obtain ⟨h1, h2, h3⟩ := wOf_b h.2.2
    have w0 := h.1.w0; have w1 := h.1.w1
    simp only [wOf, List.length_cons, List.any_cons]
    by_cases hc : counts m = true
    · rw [if_pos hc]
      refine ⟨by omega, by omega, fun _ => by omega⟩
    · rw [if_neg hc, show counts m = false by simpa using hc, Bool.false_or]
      exact ⟨h1, by omega, h3⟩
theorem pair_at : ∀ {us : List api_Unit} {ms : List api_UnitMark}, PairOK us ms → ∀ k (h1 : k < us.length) (h2 : k < ms.length), UOK us[k] ∧ MOK us[k] ms[k] ∧ PairOK (us.drop k) (ms.drop k)
  | u :: us, m :: ms, h, 0, _, _ => ⟨h.1, h.2.1, h⟩
  | u :: us, m :: ms, h, k + 1, h1, h2 => by
    have := pair_at h.2.2 k (by simpa using h1) (by simpa using h2)
    simpa using this
theorem weighted_loop (a : api_Award) (l : List api_UnitMark) (h : PairOK a.Units l) (hl : l.length ≤ 6) : ∀ (n k : Nat) (w : Int) (ts : List api_Ratio), l.length - k = n → k ≤ l.length → 0 ≤ w → w ≤ 1000 * k → ts.length ≤ k →
    iter (aggregate_weighted_l3 a l) (w, (k : Int), ts) = some (.inl (w + wOf (a.Units.drop k) (l.drop k), ts ++ terms (a.Units.drop k) (l.drop k))) := by
  have hul := (terms_len h).2
  intro n
  induction n with
  | zero =>
    intro k w ts hn hk hw0 hw1 ht
    have : k = l.length := by omega
    subst this
    refine iter_inr ?_
    rw [List.drop_length, ← hul, List.drop_length]
    simp [aggregate_weighted_l3, terms, wOf, hul]
  | succ n ih =>
    intro k w ts hn hk hw0 hw1 ht
    have hk' : k < l.length := by omega
    have hku : k < a.Units.length := by omega
    obtain ⟨hu, hm, _⟩ := pair_at h k hku hk'
    have e1 : a.Units.drop k = a.Units[k] :: a.Units.drop (k + 1) := List.drop_eq_getElem_cons hku
    have e2 : l.drop k = l[k] :: l.drop (k + 1) := List.drop_eq_getElem_cons hk'
    have hwt : wOf (a.Units.drop k) (l.drop k) = if counts l[k] = true then a.Units[k].Weight + wOf (a.Units.drop (k + 1)) (l.drop (k + 1)) else wOf (a.Units.drop (k + 1)) (l.drop (k + 1)) := by rw [e1, e2]; rfl
    have htt : terms (a.Units.drop k) (l.drop k) = if counts l[k] = true then termOf a.Units[k] l[k] :: terms (a.Units.drop (k + 1)) (l.drop (k + 1)) else terms (a.Units.drop (k + 1)) (l.drop (k + 1)) := by rw [e1, e2]; rfl
    rw [hwt, htt]
    have w1 := hu.w1; have w0 := hu.w0
    by_cases hc : counts l[k] = true
    · rw [if_pos hc, if_pos hc]
      obtain ⟨f, x, t1, t2, t3, t4⟩ := term_ok hu hm
      have hmx : 10 ≤ a.Units[k].Max ∧ a.Units[k].Max ≤ 100 := by rcases hu.mx with h | h | h | h <;> omega
      have hf : aggregate_weighted_l3 a l (w, (k : Int), ts) = some (.inl (w + a.Units[k].Weight, ((k + 1 : Nat) : Int), ts ++ [x])) := by
        simp only [aggregate_weighted_l3]
        rw [show decide ((k : Int) < (l.length : Int)) = true by simp; exact hk', cond_true, req_pos (by omega), ix_nat l k hk', ix_nat a.Units k hku]
        have hcc : ((l[k].Kind != 0) && (l[k].Kind != 1)) = false := by
          have h0 := hc
          simp only [counts, Bool.or_eq_true, beq_iff_eq] at h0
          rcases h0 with h0 | h0 <;> rw [h0] <;> rfl
        rw [hcc, cond_false, req_pos (by omega), New_eq _ _ ⟨by omega, by omega⟩ ⟨by omega, by omega⟩, t1, some_bind]
        dsimp only
        rw [show ((0 : Int) != 0) = false by decide, cond_false, Mul_eq, t2, some_bind]
        dsimp only
        rw [show ((0 : Int) != 0) = false by decide, cond_false, req_pos (by simp; omega)]
        unfold aggregate_weighted_j2
        rw [i64_add1 k (by omega), wrap64 (by omega) (by omega)]
      rw [iter_inl hf, ih (k + 1) _ _ (by omega) (by omega) (by omega) (by omega) (by simp; omega), t3]
      simp only [List.append_assoc, List.singleton_append, Int.add_assoc]
    · rw [if_neg hc, if_neg hc]
      have hf : aggregate_weighted_l3 a l (w, (k : Int), ts) = some (.inl (w, ((k + 1 : Nat) : Int), ts)) := by
        simp only [aggregate_weighted_l3]
        rw [show decide ((k : Int) < (l.length : Int)) = true by simp; exact hk', cond_true, req_pos (by omega), ix_nat l k hk']
        have hcc : ((l[k].Kind != 0) && (l[k].Kind != 1)) = true := by
          have h0 := hc
          simp only [counts, Bool.or_eq_true, beq_iff_eq, not_or] at h0
          rw [Bool.and_eq_true, bne_iff_ne, bne_iff_ne]
          exact h0
        rw [hcc, cond_true]
        unfold aggregate_weighted_j2
        rw [i64_add1 k (by omega)]
      rw [iter_inl hf, ih (k + 1) _ _ (by omega) (by omega) (by omega) (by omega) (by omega)]
def SS (us : List api_Unit) (ms : List api_UnitMark) : Int := sumL (tsOf us ms)
theorem weighted_eq (a : api_Award) (l : List api_UnitMark) (h : PairOK a.Units l) (hl : l.length ≤ 6) : ∃ x, aggregate_weighted a l = some (x, wOf a.Units l, 0) ∧ ValB x (SS a.Units l) 600 720000000 600 := by
  unfold aggregate_weighted
  have hloop := weighted_loop a l h hl l.length 0 0 [] (by omega) (by omega) (by omega) (by omega) (by simp)
  rw [List.drop_zero, List.drop_zero, Int.zero_add, List.nil_append] at hloop
  rw [show ((0 : Int), (0 : Int), ([] : List api_Ratio)) = ((0 : Int), ((0 : Nat) : Int), ([] : List api_Ratio)) by rfl, hloop, some_bind]
  unfold aggregate_weighted_j1
  have ht := (terms_len h).1
  obtain ⟨x, h1, h2⟩ := sum_go (terms_all h) (by decide) (by decide) (by decide) (by omega) (by decide)
  dsimp only
  rw [Sum_eq, h1, some_bind]
  exact ⟨x, rfl, h2⟩
theorem scaled_eq (a : api_Award) (l : List api_UnitMark) (most : Int) (h : PairOK a.Units l) (hl : l.length ≤ 6) (hc : (l.any counts) = true) (m0 : 1 ≤ most) (m1 : most ≤ 200) : ∃ x, aggregate_scaled a l most = some (x, 0) ∧ ValB x (SS a.Units l * most) (600 * wOf a.Units l) 144000000000 2160000 := by
  unfold aggregate_scaled
  obtain ⟨x, h1, h2⟩ := weighted_eq a l h hl
  obtain ⟨b1, b2, b3⟩ := wOf_b h
  have b4 := b3 hc
  rw [h1, some_bind]
  dsimp only
  rw [show ((0 : Int) != 0) = false by decide, cond_false, New_eq _ _ ⟨by omega, by omega⟩ ⟨by omega, by omega⟩]
  obtain ⟨f, f1, f2, f3, _⟩ := newOf_ok' most (wOf a.Units l) (by omega) (by omega) (by omega) (by omega)
  rw [f1, some_bind]
  dsimp only
  rw [show ((0 : Int) != 0) = false by decide, cond_false, Mul_eq]
  have vf : ValB f most (wOf a.Units l) 200 3600 := ⟨f2, by omega, f3, by omega, by omega⟩
  obtain ⟨y, y1, y2⟩ := mul_go h2 vf (by decide) (by decide)
  rw [y1, some_bind]
  exact ⟨y, rfl, y2⟩
/-! ### checks -/
theorem has_loop (l : List api_UnitMark) (k : Int) (hl : l.length ≤ 1000) : aggregate_has l k = some (l.any fun m => m.Kind == k) := by
  have key : ∀ (n j : Nat), l.length - j = n → j ≤ l.length → iter (slices_IndexFunc_awardingbodyapiUnitMarkawardingbodyapiUnitMark_aggregate_has_f1_l2 l) ((j : Int), k) = some (if ((l.drop j).any fun m => m.Kind == k) = true then .inr (((j + (l.drop j).findIdx (fun m => m.Kind == k) : Nat) : Int), k) else .inl k) := by
    intro n
    induction n with
    | zero =>
      intro j hn hj
      have : j = l.length := by omega
      subst this
      rw [List.drop_length]
      refine iter_inr ?_
      simp [slices_IndexFunc_awardingbodyapiUnitMarkawardingbodyapiUnitMark_aggregate_has_f1_l2]
    | succ n ih =>
      intro j hn hj
      have hj' : j < l.length := by omega
      have e2 : l.drop j = l[j] :: l.drop (j + 1) := List.drop_eq_getElem_cons hj'
      have hf : slices_IndexFunc_awardingbodyapiUnitMarkawardingbodyapiUnitMark_aggregate_has_f1_l2 l ((j : Int), k) = some (if (l[j].Kind == k) = true then .inr (.inr ((j : Int), k)) else .inl (((j + 1 : Nat) : Int), k)) := by
        simp only [slices_IndexFunc_awardingbodyapiUnitMarkawardingbodyapiUnitMark_aggregate_has_f1_l2, aggregate_has_f1]
        rw [show decide ((j : Int) < (l.length : Int)) = true by simp; exact hj', cond_true, req_pos (by omega), ix_nat l j hj', some_bind, i64_add1 j (by omega)]
        dsimp only
        cases l[j].Kind == k <;> rfl
      have ha : ((l.drop j).any fun m => m.Kind == k) = ((l[j].Kind == k) || ((l.drop (j + 1)).any fun m => m.Kind == k)) := by rw [e2]; rfl
      by_cases hc : (l[j].Kind == k) = true
      · rw [if_pos hc] at hf
        rw [iter_inr hf, ha, hc, Bool.true_or, if_pos rfl, e2, List.findIdx_cons, hc]
        simp
      · rw [if_neg hc] at hf
        have hc' : (l[j].Kind == k) = false := by simpa using hc
        rw [iter_inl hf, ih (j + 1) (by omega) (by omega), ha, hc', Bool.false_or, e2, List.findIdx_cons, hc']
        simp only [cond_false]
        rw [show j + 1 + (l.drop (j + 1)).findIdx (fun m => m.Kind == k) = j + ((l.drop (j + 1)).findIdx (fun m => m.Kind == k) + 1) by omega]
  unfold aggregate_has slices_ContainsFunc_awardingbodyapiUnitMarkawardingbodyapiUnitMark_aggregate_has_f1 slices_IndexFunc_awardingbodyapiUnitMarkawardingbodyapiUnitMark_aggregate_has_f1
  have h0 : iter (slices_IndexFunc_awardingbodyapiUnitMarkawardingbodyapiUnitMark_aggregate_has_f1_l2 l) ((0 : Int), k) = _ := key l.length 0 (by omega) (by omega)
  rw [h0, some_bind, List.drop_zero]
  by_cases hc : (l.any fun m => m.Kind == k) = true
  · rw [if_pos hc, hc]
    simp
  · rw [if_neg hc, show (l.any fun m => m.Kind == k) = false by simpa using hc]
    rfl
structure AOK (a : api_Award) : Prop where
  l0 : 1 ≤ a.Units.length
  l1 : a.Units.length ≤ 4
  u : ∀ u ∈ a.Units, UOK u ∧ 0 ≤ u.Paper ∧ u.Paper ≤ 31
  up : ∀ i (hi : i + 1 < a.Units.length), a.Units[i].Paper < a.Units[i + 1].Paper
  m0 : 1 ≤ a.Max
  m1 : a.Max ≤ 200
  b : Bd a.Bounds a.Max
theorem isScore_eq (n : Int) : aggregate_isScore n = some (decide (1 ≤ n) && decide (n ≤ 200)) := by
  unfold aggregate_isScore
  rfl
theorem aCheck (a : api_Award) (h : AOK a) : aggregate_Check a = some 0 := by
  have l0 := h.l0; have l1 := h.l1; have m0 := h.m0; have m1 := h.m1
  unfold aggregate_Check
  rw [show (decide ((a.Units.length : Int) < 1) || decide ((6 : Int) < (a.Units.length : Int))) = false by simp only [Bool.or_eq_false_iff, decide_eq_false_iff_not]; omega, cond_false]
  have key : ∀ (n j : Nat), a.Units.length - j = n → j ≤ a.Units.length → iter (aggregate_Check_l2 a) (j : Int) = some (.inl ()) := by
    intro n
    induction n with
    | zero =>
      intro j hn hj
      have : j = a.Units.length := by omega
      subst this
      refine iter_inr ?_
      simp [aggregate_Check_l2]
    | succ n ih =>
      intro j hn hj
      have hj' : j < a.Units.length := by omega
      obtain ⟨hu, p0, p1⟩ := h.u a.Units[j] (List.getElem_mem hj')
      have w0 := hu.w0; have w1 := hu.w1
      have hmx : 10 ≤ a.Units[j].Max ∧ a.Units[j].Max ≤ 100 := by rcases hu.mx with h | h | h | h <;> omega
      have hf : aggregate_Check_l2 a (j : Int) = some (.inl ((j + 1 : Nat) : Int)) := by
        simp only [aggregate_Check_l2, isScore_eq]
        rw [show decide ((j : Int) < (a.Units.length : Int)) = true by simp; exact hj', cond_true, req_pos (by omega), req_pos (by intro _; rfl), ix_nat a.Units j hj']
        rw [show (((((decide (a.Units[j].Paper < 0)) || (decide ((31 : Int) < a.Units[j].Paper))) || (decide (a.Units[j].Weight < 1))) || (decide ((1000 : Int) < a.Units[j].Weight))) || (!((some (decide (1 ≤ a.Units[j].Max) && decide (a.Units[j].Max ≤ 200))).getD default))) = false by
          simp only [Option.getD_some, Bool.or_eq_false_iff, decide_eq_false_iff_not, Bool.not_eq_false', Bool.and_eq_true, decide_eq_true_eq]; omega, cond_false]
        by_cases hj0 : j = 0
        · subst hj0
          rw [req_pos (fun hh => by simp at hh)]
          simp
          decide
        · rw [wrap64 (n := (j : Int) - 1) (by omega) (by omega), show (j : Int) - 1 = ((j - 1 : Nat) : Int) by omega, req_pos (fun _ => by omega), ix_nat a.Units (j - 1) (by omega), i64_add1 j (by omega)]
          have hup := h.up (j - 1) (by omega)
          have hup' : a.Units[j - 1].Paper < a.Units[j].Paper := by
            have e : j - 1 + 1 = j := by omega
            simpa only [e] using hup
          rw [show decide (a.Units[j].Paper ≤ a.Units[j - 1].Paper) = false by simp only [decide_eq_false_iff_not]; omega, Bool.and_false, cond_false]
      rw [iter_inl hf]
      exact ih (j + 1) (by omega) (by omega)
  have h0 : iter (aggregate_Check_l2 a) (0 : Int) = _ := key a.Units.length 0 (by omega) (by omega)
  rw [h0, some_bind]
  dsimp only
  unfold aggregate_Check_j1
  rw [isScore_eq, some_bind, show (!(decide (1 ≤ a.Max) && decide (a.Max ≤ 200))) = false by simp; omega, cond_false, Check_eq _ _ h.b (by omega) m1]
  rfl
theorem v_whole (n : Int) (h0 : 0 ≤ n) (h1 : n ≤ 1000) : vR ⟨n, 1⟩ = true := v_one n (by omega) (by omega)
theorem fit_eq (a : api_Award) (l : List api_UnitMark) (h : PairOK a.Units l) (hl : l.length ≤ 6) : aggregate_fit a l = some true := by
  have hul := (terms_len h).2
  unfold aggregate_fit
  rw [show ((l.length : Int) != (a.Units.length : Int)) = false by simp; omega, cond_false]
  have key : ∀ (n j : Nat), l.length - j = n → j ≤ l.length → iter (aggregate_fit_l4 a l) (j : Int) = some (.inl ()) := by
    intro n
    induction n with
    | zero =>
      intro j hn hj
      have : j = l.length := by omega
      subst this
      refine iter_inr ?_
      simp [aggregate_fit_l4]
    | succ n ih =>
      intro j hn hj
      have hj' : j < l.length := by omega
      have hju : j < a.Units.length := by omega
      obtain ⟨hu, hm, _⟩ := pair_at h j hju hj'
      have hmx : 10 ≤ a.Units[j].Max ∧ a.Units[j].Max ≤ 100 := by rcases hu.mx with h | h | h | h <;> omega
      have hf : aggregate_fit_l4 a l (j : Int) = some (.inl ((j + 1 : Nat) : Int)) := by
        simp only [aggregate_fit_l4]
        rw [show decide ((j : Int) < (l.length : Int)) = true by simp; exact hj', cond_true, req_pos (by omega), ix_nat l j hj', ix_nat a.Units j hju]
        have j2 : aggregate_fit_j2 (j : Int) = some (.inl ((j + 1 : Nat) : Int)) := by unfold aggregate_fit_j2; rw [i64_add1 j (by omega)]
        by_cases hk : l[j].Kind = 0
        · rw [show (l[j].Kind == 0) = true by simpa using hk, cond_true, req_pos (by omega), Valid_eq, some_bind, hm.v, Compare_eq, req_pos (by intro _; rfl)]
          have hn0 := hm.n0; have hle := hm.le
          have hcm : ¬ 0 < cmpR l[j].Value ⟨a.Units[j].Max, 1⟩ := by
            rw [cmpR_v hm.v (v_whole _ (by omega) (by omega)), cmpI_pos]
            show ¬ a.Units[j].Max * l[j].Value.Den < l[j].Value.Num * 1
            omega
          rw [show (((!true) || (decide (l[j].Value.Num < 0))) || (decide ((0 : Int) < ((some (cmpR l[j].Value ⟨a.Units[j].Max, 1⟩)).getD default)))) = false by
            simp only [Option.getD_some, Bool.not_true, Bool.false_or, Bool.or_eq_false_iff, decide_eq_false_iff_not]; omega, cond_false]
          exact j2
        · have hz := hm.z hk
          have j3 : aggregate_fit_j3 l (j : Int) true = some (.inl ((j + 1 : Nat) : Int)) := by
            unfold aggregate_fit_j3
            rw [ix_nat l j hj', hz, cond_true]
            exact j2
          have k0 := hm.k0; have k1 := hm.k1
          rw [show (l[j].Kind == 0) = false by simpa using hk, cond_false]
          by_cases h1 : l[j].Kind = 1
          · rw [show (l[j].Kind == 1) = true by simpa using h1, cond_true]; exact j3
          · rw [show (l[j].Kind == 1) = false by simpa using h1, cond_false]
            by_cases h2 : l[j].Kind = 2
            · rw [show (l[j].Kind == 2) = true by simpa using h2, cond_true]; exact j3
            · rw [show (l[j].Kind == 2) = false by simpa using h2, cond_false, show (l[j].Kind == 3) = true by simp; omega]
              exact j3
      rw [iter_inl hf]
      exact ih (j + 1) (by omega) (by omega)
  have h0 : iter (aggregate_fit_l4 a l) (0 : Int) = _ := key l.length 0 (by omega) (by omega)
  rw [h0]
  rfl
theorem checkMarks_eq (a : api_Award) (l : List api_UnitMark) (special : Int) (ha : AOK a) (h : PairOK a.Units l) (s0 : 0 ≤ special) (s1 : special ≤ 50) : aggregate_checkMarks a l special = some 0 := by
  have hul := (terms_len h).2
  have := ha.l1
  unfold aggregate_checkMarks
  rw [aCheck a ha, some_bind, fit_eq a l h (by omega), req_pos (by intro _; rfl)]
  rw [show (((0 : Int) != 0) || (!((some true).getD default))) = false by decide, cond_false, show (decide (special < 0) || decide ((50 : Int) < special)) = false by simp only [Bool.or_eq_false_iff, decide_eq_false_iff_not]; omega, cond_false]
/-! ### the exact total -/
def PP (a : api_Award) (l : List api_UnitMark) (special : Int) : Int := SS a.Units l * a.Max * 1000 + special * a.Max * (600 * wOf a.Units l)
def QQ (a : api_Award) (l : List api_UnitMark) : Int := 600 * wOf a.Units l * 1000
def isP (l : List api_UnitMark) : Bool := l.any fun m => m.Kind == 3
def isC (l : List api_UnitMark) : Bool := l.any counts
theorem any_counts (l : List api_UnitMark) : ((l.any fun m => m.Kind == 0) || (l.any fun m => m.Kind == 1)) = l.any counts := by
  induction l with
  | nil => rfl
  | cons m l ih =>
    simp only [List.any_cons, counts]
    rw [← ih]
    cases m.Kind == 0 <;> cases m.Kind == 1 <;> simp
/-- the total as a fraction -/
structure TOf (a : api_Award) (l : List api_UnitMark) (special : Int) (x : api_Ratio) : Prop where
  v : vR x = true
  q : 0 < QQ a l
  hi : a.Max * QQ a l < PP a l special → x = ⟨a.Max, 1⟩
  lo : ¬ a.Max * QQ a l < PP a l special → x.Num * QQ a l = PP a l special * x.Den
theorem Exact_eq (a : api_Award) (l : List api_UnitMark) (special : Int) (ha : AOK a) (h : PairOK a.Units l) (s0 : 0 ≤ special) (s1 : special ≤ 50) :
    (isP l = true → aggregate_Exact a l special = some (⟨0, 0⟩, 8)) ∧ (isP l = false → isC l = false → aggregate_Exact a l special = some (⟨0, 0⟩, 10)) ∧
    (isP l = false → isC l = true → ∃ x, aggregate_Exact a l special = some (x, 0) ∧ TOf a l special x) := by
  have hul := (terms_len h).2
  have l1 := ha.l1; have m0 := ha.m0; have m1 := ha.m1
  unfold aggregate_Exact
  rw [checkMarks_eq a l special ha h s0 s1, some_bind, show ((0 : Int) != 0) = false by decide, cond_false]
  simp only [has_loop l _ (by omega), some_bind]
  have hany := any_counts l
  refine ⟨fun hp => ?_, fun hp hc => ?_, fun hp hc => ?_⟩
  · unfold isP at hp; rw [hp]; rfl
  · unfold isP at hp; unfold isC at hc
    rw [hc] at hany
    simp only [Bool.or_eq_false_iff] at hany
    rw [hp, hany.1, hany.2]
    rw [cond_false, req_pos (by intro _; rfl)]
    rfl
  · unfold isP at hp; unfold isC at hc
    rw [hp, cond_false, req_pos (by intro _; rfl)]
    rw [hc] at hany
    rw [show ((!(l.any fun m => m.Kind == 0)) && (!((some (l.any fun m => m.Kind == 1)).getD default))) = false by
      simp only [Option.getD_some]
      cases h1 : (l.any fun m => m.Kind == 0) <;> cases h2 : (l.any fun m => m.Kind == 1) <;> simp_all, cond_false]
    obtain ⟨x, x1, x2⟩ := scaled_eq a l a.Max h (by omega) hc m0 m1
    rw [x1, some_bind]
    dsimp only
    have sm0 : 0 ≤ special * a.Max := Int.mul_nonneg s0 (by omega)
    have sm1 : special * a.Max ≤ 50 * 200 := Int.mul_le_mul s1 m1 (by omega) (by decide)
    rw [show ((0 : Int) != 0) = false by decide, cond_false, wrap64 (by omega) (by omega), New_eq _ _ ⟨by omega, by omega⟩ ⟨by decide, by decide⟩]
    obtain ⟨f, f1, f2, f3, _⟩ := newOf_ok' (special * a.Max) 1000 (by omega) (by omega) (by decide) (by decide)
    rw [f1, some_bind]
    dsimp only
    rw [show ((0 : Int) != 0) = false by decide, cond_false, Add_eq]
    have vf : ValB f (special * a.Max) 1000 10000 1000 := ⟨f2, by decide, f3, by omega, by decide⟩
    obtain ⟨y, y1, y2⟩ := add_go x2 vf (by decide) (by decide)
    rw [y1, some_bind]
    dsimp only
    rw [show ((0 : Int) != 0) = false by decide, cond_false, Less_eq, some_bind, less_v (v_whole a.Max (by omega) (by omega)) y2.v]
    have hP : PP a l special = SS a.Units l * a.Max * 1000 + special * a.Max * (600 * wOf a.Units l) := rfl
    have hQ : QQ a l = 600 * wOf a.Units l * 1000 := rfl
    have yd : 0 < y.Den := by have := (vd_of y2.v).d0; omega
    have yq := y2.q
    have ye := y2.e
    rw [← hP, ← hQ] at ye
    rw [← hQ] at yq
    have hcmp : (a.Max * y.Den < y.Num * 1) ↔ a.Max * QQ a l < PP a l special := by
      rw [Int.mul_one]
      constructor
      · intro hh
        have h2 := Int.mul_lt_mul_of_pos_right hh yq
        rw [ye] at h2
        have h3 : a.Max * QQ a l * y.Den < PP a l special * y.Den := by
          have e : a.Max * QQ a l * y.Den = a.Max * y.Den * QQ a l := by rw [Int.mul_right_comm]
          rw [e]; exact h2
        exact Int.lt_of_mul_lt_mul_right h3 (by omega)
      · intro hh
        have h2 := Int.mul_lt_mul_of_pos_right hh yd
        rw [← ye] at h2
        have h3 : a.Max * y.Den * QQ a l < y.Num * QQ a l := by
          have e : a.Max * y.Den * QQ a l = a.Max * QQ a l * y.Den := by rw [Int.mul_right_comm]
          rw [e]; exact h2
        exact Int.lt_of_mul_lt_mul_right h3 (by omega)
    by_cases hh : a.Max * QQ a l < PP a l special
    · rw [show decide (a.Max * y.Den < y.Num * 1) = true by rw [decide_eq_true_eq]; exact hcmp.2 hh, cond_true]
      exact ⟨_, rfl, v_whole a.Max (by omega) (by omega), yq, fun _ => rfl, fun hn => absurd hh hn⟩
    · rw [show decide (a.Max * y.Den < y.Num * 1) = false by rw [decide_eq_false_iff_not]; exact fun h => hh (hcmp.1 h), cond_false]
      exact ⟨_, rfl, y2.v, yq, fun hn => absurd hn hh, fun _ => ye⟩
theorem TOf.same {a b : api_Award} {l m : List api_UnitMark} {s : Int} {x y : api_Ratio} (hx : TOf a l s x) (hy : TOf b m s y) (hM : a.Max = b.Max) (he : PP a l s * QQ b m = PP b m s * QQ a l) : x = y := by
  have q1 := hx.q; have q2 := hy.q
  have hiff : a.Max * QQ a l < PP a l s ↔ b.Max * QQ b m < PP b m s := by
    rw [hM]
    constructor
    · intro h
      have h2 := Int.mul_lt_mul_of_pos_right h q2
      rw [he] at h2
      have e : b.Max * QQ a l * QQ b m = b.Max * QQ b m * QQ a l := by rw [Int.mul_right_comm]
      rw [e] at h2
      exact Int.lt_of_mul_lt_mul_right h2 (by omega)
    · intro h
      have h2 := Int.mul_lt_mul_of_pos_right h q1
      rw [← he] at h2
      have e : b.Max * QQ b m * QQ a l = b.Max * QQ a l * QQ b m := by rw [Int.mul_right_comm]
      rw [e] at h2
      exact Int.lt_of_mul_lt_mul_right h2 (by omega)
  by_cases h : a.Max * QQ a l < PP a l s
  · rw [hx.hi h, hy.hi (hiff.1 h), hM]
  · have e1 := hx.lo h
    have e2 := hy.lo (fun h2 => h (hiff.2 h2))
    have v1 : ValB x (PP a l s) (QQ a l) (PP a l s).natAbs (QQ a l).natAbs := ⟨hx.v, q1, e1, Nat.le_refl _, Nat.le_refl _⟩
    have v2 : ValB y (PP b m s) (QQ b m) (PP b m s).natAbs (QQ b m).natAbs := ⟨hy.v, q2, e2, Nat.le_refl _, Nat.le_refl _⟩
    exact v1.eq v2 he
end Go.LS
