/-
  Law 36: AggregateEstimates, in plain functions.
  Conditions: the numbers that a byte has.
-/
import Derived.Test.YtogfplnonlpmcaaPK3
namespace Go.LS
set_option linter.all false
set_option linter.unusedSimpArgs false
set_option linter.unusedVariables false
set_option maxRecDepth 20000

theorem ValB.cancel {a : api_Ratio} {P Q : Int} {N D : Nat} (k : Int) (hk : 0 < k) (h : ValB a (P * k) (Q * k) N D) (N' D' : Nat) (h1 : P.natAbs ≤ N') (h2 : Q.natAbs ≤ D') : ValB a P Q N' D' := by
  refine ⟨h.v, ?_, ?_, h1, h2⟩
  · have := h.q
    rcases Int.lt_or_le 0 Q with g | g
    · exact g
    · have g2 := Int.mul_le_mul_of_nonneg_right g (Int.le_of_lt hk)
      rw [Int.zero_mul] at g2
      omega
  · have e := h.e
    refine Int.eq_of_mul_eq_mul_right (a := k) (by omega) ?_
    rw [Int.mul_assoc, e, Int.mul_right_comm]
structure MF (u : api_Unit) (m : api_UnitMark) : Prop where
  k0 : 0 ≤ m.Kind
  k1 : m.Kind ≤ 3
  v : vR m.Value = true
  n0 : 0 ≤ m.Value.Num
  le : m.Value.Num ≤ u.Max * m.Value.Den
  z : m.Kind ≠ 0 → m.Value = ⟨0, 1⟩
theorem weightedG_loop (a : api_Award) (l : List api_UnitMark) (hul : a.Units.length = l.length) (hG : ∀ k (h1 : k < a.Units.length) (h2 : k < l.length), UOK a.Units[k] ∧ (counts l[k] = true → ∃ f, newOf a.Units[k].Weight a.Units[k].Max = (f, 0) ∧ mulOf l[k].Value f = (termOf a.Units[k] l[k], 0))) (hl : l.length ≤ 6) : ∀ (n k : Nat) (w : Int) (ts : List api_Ratio), l.length - k = n → k ≤ l.length → 0 ≤ w → w ≤ 1000 * k → ts.length ≤ k →
    iter (aggregate_weighted_l3 a l) (w, (k : Int), ts) = some (.inl (w + wOf (a.Units.drop k) (l.drop k), ts ++ terms (a.Units.drop k) (l.drop k))) := by
  intro n
  induction n with
  | zero =>
    intro k w ts hn hk hw0 hw1 ht
    have : k = l.length := by omega
    subst this
    refine iter_inr ?_
    rw [List.drop_length, ← hul, List.drop_length]
    simp [aggregate_weighted_l3, terms, wOf, hul]
  | succ n ih =>
    intro k w ts hn hk hw0 hw1 ht
    have hk' : k < l.length := by omega
    have hku : k < a.Units.length := by omega
    obtain ⟨hu, hm⟩ := hG k hku hk'
    have e1 : a.Units.drop k = a.Units[k] :: a.Units.drop (k + 1) := List.drop_eq_getElem_cons hku
    have e2 : l.drop k = l[k] :: l.drop (k + 1) := List.drop_eq_getElem_cons hk'
    have hwt : wOf (a.Units.drop k) (l.drop k) = if counts l[k] = true then a.Units[k].Weight + wOf (a.Units.drop (k + 1)) (l.drop (k + 1)) else wOf (a.Units.drop (k + 1)) (l.drop (k + 1)) := by rw [e1, e2]; rfl
    have htt : terms (a.Units.drop k) (l.drop k) = if counts l[k] = true then termOf a.Units[k] l[k] :: terms (a.Units.drop (k + 1)) (l.drop (k + 1)) else terms (a.Units.drop (k + 1)) (l.drop (k + 1)) := by rw [e1, e2]; rfl
    rw [hwt, htt]
    have w1 := hu.w1; have w0 := hu.w0
    by_cases hc : counts l[k] = true
    · rw [if_pos hc, if_pos hc]
      obtain ⟨f, t1, t2⟩ := hm hc
      have hmx : 10 ≤ a.Units[k].Max ∧ a.Units[k].Max ≤ 100 := by rcases hu.mx with h | h | h | h <;> omega
      have hf : aggregate_weighted_l3 a l (w, (k : Int), ts) = some (.inl (w + a.Units[k].Weight, ((k + 1 : Nat) : Int), ts ++ [termOf a.Units[k] l[k]])) := by
        simp only [aggregate_weighted_l3]
        rw [show decide ((k : Int) < (l.length : Int)) = true by simp; exact hk', cond_true, req_pos (by omega), ix_nat l k hk', ix_nat a.Units k hku]
        have hcc : ((l[k].Kind != 0) && (l[k].Kind != 1)) = false := by
          have h0 := hc
          simp only [counts, Bool.or_eq_true, beq_iff_eq] at h0
          rcases h0 with h0 | h0 <;> rw [h0] <;> rfl
        rw [hcc, cond_false, req_pos (by omega), New_eq _ _ ⟨by omega, by omega⟩ ⟨by omega, by omega⟩, t1, some_bind]
        dsimp only
        rw [show ((0 : Int) != 0) = false by decide, cond_false, Mul_eq, t2, some_bind]
        dsimp only
        rw [show ((0 : Int) != 0) = false by decide, cond_false, req_pos (by simp; omega)]
        unfold aggregate_weighted_j2
        rw [i64_add1 k (by omega), wrap64 (by omega) (by omega)]
      rw [iter_inl hf, ih (k + 1) _ _ (by omega) (by omega) (by omega) (by omega) (by simp; omega)]
      simp only [List.append_assoc, List.singleton_append, Int.add_assoc]
    · rw [if_neg hc, if_neg hc]
      have hf : aggregate_weighted_l3 a l (w, (k : Int), ts) = some (.inl (w, ((k + 1 : Nat) : Int), ts)) := by
        simp only [aggregate_weighted_l3]
        rw [show decide ((k : Int) < (l.length : Int)) = true by simp; exact hk', cond_true, req_pos (by omega), ix_nat l k hk']
        have hcc : ((l[k].Kind != 0) && (l[k].Kind != 1)) = true := by
          have h0 := hc
          simp only [counts, Bool.or_eq_true, beq_iff_eq, not_or] at h0
          rw [Bool.and_eq_true, bne_iff_ne, bne_iff_ne]
          exact h0
        rw [hcc, cond_true]
        unfold aggregate_weighted_j2
        rw [i64_add1 k (by omega)]
      rw [iter_inl hf, ih (k + 1) _ _ (by omega) (by omega) (by omega) (by omega) (by omega)]
theorem fitG (a : api_Award) (l : List api_UnitMark) (hul : a.Units.length = l.length) (hG : ∀ k (h1 : k < a.Units.length) (h2 : k < l.length), UOK a.Units[k] ∧ MF a.Units[k] l[k]) (hl : l.length ≤ 6) : aggregate_fit a l = some true := by
  unfold aggregate_fit
  rw [show ((l.length : Int) != (a.Units.length : Int)) = false by simp; omega, cond_false]
  have key : ∀ (n j : Nat), l.length - j = n → j ≤ l.length → iter (aggregate_fit_l4 a l) (j : Int) = some (.inl ()) := by
    intro n
    induction n with
    | zero =>
      intro j hn hj
      have : j = l.length := by omega
      subst this
      refine iter_inr ?_
      simp [aggregate_fit_l4]
    | succ n ih =>
      intro j hn hj
      have hj' : j < l.length := by omega
      have hju : j < a.Units.length := by omega
      obtain ⟨hu, hm⟩ := hG j hju hj'
      have hmx : 10 ≤ a.Units[j].Max ∧ a.Units[j].Max ≤ 100 := by rcases hu.mx with h | h | h | h <;> omega
      have hf : aggregate_fit_l4 a l (j : Int) = some (.inl ((j + 1 : Nat) : Int)) := by
        simp only [aggregate_fit_l4]
        rw [show decide ((j : Int) < (l.length : Int)) = true by simp; exact hj', cond_true, req_pos (by omega), ix_nat l j hj', ix_nat a.Units j hju]
        have j2 : aggregate_fit_j2 (j : Int) = some (.inl ((j + 1 : Nat) : Int)) := by unfold aggregate_fit_j2; rw [i64_add1 j (by omega)]
        by_cases hk : l[j].Kind = 0
        · rw [show (l[j].Kind == 0) = true by simpa using hk, cond_true, req_pos (by omega), Valid_eq, some_bind, hm.v, Compare_eq, req_pos (by intro _; rfl)]
          have hn0 := hm.n0; have hle := hm.le
          have hcm : ¬ 0 < cmpR l[j].Value ⟨a.Units[j].Max, 1⟩ := by
            rw [cmpR_v hm.v (v_whole _ (by omega) (by omega)), cmpI_pos]
            show ¬ a.Units[j].Max * l[j].Value.Den < l[j].Value.Num * 1
            omega
          rw [show (((!true) || (decide (l[j].Value.Num < 0))) || (decide ((0 : Int) < ((some (cmpR l[j].Value ⟨a.Units[j].Max, 1⟩)).getD default)))) = false by
            simp only [Option.getD_some, Bool.not_true, Bool.false_or, Bool.or_eq_false_iff, decide_eq_false_iff_not]; omega, cond_false]
          exact j2
        · have hz := hm.z hk
          have j3 : aggregate_fit_j3 l (j : Int) true = some (.inl ((j + 1 : Nat) : Int)) := by
            unfold aggregate_fit_j3
            rw [ix_nat l j hj', hz, cond_true]
            exact j2
          have k0 := hm.k0; have k1 := hm.k1
          rw [show (l[j].Kind == 0) = false by simpa using hk, cond_false]
          by_cases h1 : l[j].Kind = 1
          · rw [show (l[j].Kind == 1) = true by simpa using h1, cond_true]; exact j3
          · rw [show (l[j].Kind == 1) = false by simpa using h1, cond_false]
            by_cases h2 : l[j].Kind = 2
            · rw [show (l[j].Kind == 2) = true by simpa using h2, cond_true]; exact j3
            · rw [show (l[j].Kind == 2) = false by simpa using h2, cond_false, show (l[j].Kind == 3) = true by simp; omega]
              exact j3
      rw [iter_inl hf]
      exact ih (j + 1) (by omega) (by omega)
  have h0 : iter (aggregate_fit_l4 a l) (0 : Int) = _ := key l.length 0 (by omega) (by omega)
  rw [h0]
  rfl

theorem SS_le : ∀ {us : List api_Unit} {ms : List api_UnitMark}, PairOK us ms → SS us ms ≤ 600 * wOf us ms
  | [], [], _ => by simp [SS, tsOf, sumL, wOf]
  | u :: us, m :: ms, h => by
    have ih := SS_le h.2.2
    rw [SS_cons, wOf_cons]
    split
    · have hu := h.1; have hm := h.2.1
      have key : tOf u m ≤ 600 * u.Weight := by
        have w0 := hu.w0; have hle := hm.le; have n0 := hm.n0
        have hq : ∃ k : Int, 0 < k ∧ u.Max * m.Value.Den * k = 600 ∧ 600 / (m.Value.Den * u.Max) = k := by
          rcases hm.den with h | h <;> rcases hu.mx with h' | h' | h' | h' <;> rw [h, h']
          · exact ⟨60, by decide, by decide, by decide⟩
          · exact ⟨50, by decide, by decide, by decide⟩
          · exact ⟨12, by decide, by decide, by decide⟩
          · exact ⟨6, by decide, by decide, by decide⟩
          · exact ⟨30, by decide, by decide, by decide⟩
          · exact ⟨25, by decide, by decide, by decide⟩
          · exact ⟨6, by decide, by decide, by decide⟩
          · exact ⟨3, by decide, by decide, by decide⟩
        obtain ⟨k, k0, k1, k2⟩ := hq
        unfold tOf
        rw [k2]
        have h1 : m.Value.Num * (u.Weight * k) ≤ u.Max * m.Value.Den * (u.Weight * k) := Int.mul_le_mul_of_nonneg_right hle (Int.mul_nonneg (by omega) (by omega))
        have h2 : u.Max * m.Value.Den * (u.Weight * k) = u.Weight * 600 := by rw [← k1, Int.mul_left_comm]
        rw [Int.mul_assoc]
        omega
      rw [Int.mul_add]
      omega
    · omega
theorem scale_all (W : Int) (W0 : 0 < W) (W1 : W ≤ 3600) : ∀ {us : List api_Unit} {ms : List api_UnitMark}, PairOK us ms →
    ∃ ts, AllV (600 * W) 432000000000 2160000 (terms us ms) ts ∧ sumL ts = SS us ms * W ∧ (terms us ms).length ≤ ms.length
  | [], [], _ => ⟨[], trivial, by simp [SS, tsOf, sumL], by simp [terms]⟩
  | u :: us, m :: ms, h => by
    obtain ⟨ts, h1, h2, h3⟩ := scale_all W W0 W1 h.2.2
    simp only [terms, SS_cons]
    split
    · obtain ⟨f, x, _, _, t3, t4⟩ := term_ok h.1 h.2.1
      have hb := t4.bn
      have hb2 : (tOf u m * W).natAbs ≤ 7200000 * 3600 := by rw [Int.natAbs_mul]; exact Nat.mul_le_mul hb (by omega)
      refine ⟨tOf u m * W :: ts, ⟨?_, h1⟩, ?_, by simp; omega⟩
      · rw [t3]
        exact t4.scale W W0 _ _ (by omega) (by omega)
      · rw [sumL, h2, Int.add_mul]
    · exact ⟨ts, h1, by rw [h2, Int.zero_add], by simp; omega⟩
theorem full_all (W : Int) (W0 : 0 < W) (W1 : W ≤ 3600) : ∀ {us : List api_Unit} {ms : List api_UnitMark} (k : Nat) (m' : api_UnitMark) (T : Int), PairOK us ms → ∀ (h1 : k < us.length) (h2 : k < ms.length), counts ms[k] = false → counts m' = true →
    ValB (termOf us[k] m') T (600 * W) 432000000000 2160000 →
    ∃ ts, AllV (600 * W) 432000000000 2160000 (terms us (ms.set k m')) ts ∧ sumL ts = SS us ms * W + T ∧ wOf us (ms.set k m') = wOf us ms + us[k].Weight ∧ (terms us (ms.set k m')).length ≤ ms.length
  | u :: us, m :: ms, 0, m', T, h, _, _, hc, hc', hT => by
    simp only [List.getElem_cons_zero] at hc hT
    simp only [List.set_cons_zero, List.getElem_cons_zero]
    obtain ⟨ts, h1, h2, h3⟩ := scale_all W W0 W1 h.2.2
    have hcn : ¬ counts m = true := by rw [hc]; decide
    refine ⟨T :: ts, ?_, ?_, ?_, ?_⟩
    · simp only [terms]; rw [if_pos hc']; exact ⟨hT, h1⟩
    · rw [sumL, h2, SS_cons, if_neg hcn, Int.zero_add, Int.add_comm]
    · rw [wOf_cons, wOf_cons, if_pos hc', if_neg hcn, Int.zero_add, Int.add_comm]
    · simp only [terms]; rw [if_pos hc']; simp; omega
  | u :: us, m :: ms, k + 1, m', T, h, h1, h2, hc, hc', hT => by
    simp only [List.getElem_cons_succ] at hc hT
    obtain ⟨ts, a1, a2, a3, a4⟩ := full_all W W0 W1 k m' T h.2.2 (by simpa using h1) (by simpa using h2) hc hc' hT
    simp only [List.set_cons_succ, List.getElem_cons_succ]
    simp only [terms, SS_cons, wOf_cons]
    by_cases hm : counts m = true
    · rw [if_pos hm, if_pos hm, if_pos hm]
      obtain ⟨f, x, _, _, t3, t4⟩ := term_ok h.1 h.2.1
      have hb := t4.bn
      have hb2 : (tOf u m * W).natAbs ≤ 7200000 * 3600 := by rw [Int.natAbs_mul]; exact Nat.mul_le_mul hb (by omega)
      refine ⟨tOf u m * W :: ts, ⟨?_, a1⟩, ?_, by rw [a3]; omega, by simp; omega⟩
      · rw [t3]
        exact t4.scale W W0 _ _ (by omega) (by omega)
      · rw [sumL, a2, Int.add_mul, Int.add_assoc]
    · rw [if_neg hm, if_neg hm, if_neg hm]
      exact ⟨ts, a1, by rw [a2, Int.zero_add], by rw [a3]; omega, by simp; omega⟩
theorem set_any {ms : List api_UnitMark} (k : Nat) (m' : api_UnitMark) (c : Int) (h : k < ms.length) (h0 : (ms.any fun m => m.Kind == c) = false) (h1 : (m'.Kind == c) = false) : ((ms.set k m').any fun m => m.Kind == c) = false := by
  rw [List.any_eq_false] at h0 ⊢
  intro x hx
  rcases List.mem_or_eq_of_mem_set hx with g | g
  · exact h0 x g
  · rw [g, h1]; decide
theorem set_any1 {ms : List api_UnitMark} (k : Nat) (m' : api_UnitMark) (c : Int) (h : k < ms.length) (h1 : (m'.Kind == c) = true) : ((ms.set k m').any fun m => m.Kind == c) = true := by
  rw [List.any_eq_true]
  exact ⟨m', List.mem_set h m', h1⟩
theorem estimate_full (a : api_Award) (l : List api_UnitMark) (i : Nat) (ha : AOK a) (h : PairOK a.Units l) (hi : i < l.length) (hk : l[i].Kind = 2) (hp : isP l = false) (hc : isC l = true) :
    ∃ y, aggregate_Estimate a l (i : Int) = some (y, 0) ∧ aggregate_Exact a (l.set i ⟨0, y⟩) 0 = aggregate_Exact a l 0 := by
  have hul := (terms_len h).2
  have l1 := ha.l1; have m0 := ha.m0; have m1 := ha.m1
  have hiu : i < a.Units.length := by omega
  obtain ⟨hu, hm, _⟩ := pair_at h i hiu hi
  have w0 := hu.w0; have w1 := hu.w1
  have hmx : 10 ≤ a.Units[i].Max ∧ a.Units[i].Max ≤ 100 := by rcases hu.mx with h | h | h | h <;> omega
  obtain ⟨b1, b2, b3⟩ := wOf_b h
  have b4 := b3 hc
  obtain ⟨x, x1, _⟩ := (Exact_eq a l 0 ha h (by omega) (by omega)).2.2 hp hc
  obtain ⟨y, y1, y2⟩ := scaled_eq a l a.Units[i].Max h (by omega) hc (by omega) (by omega)
  have s0 := SS_nn h; have s1 := SS_le h
  obtain ⟨xw, _, hS⟩ := weighted_eq a l h (by omega)
  have hSb := hS.bn
  refine ⟨y, ?_, ?_⟩
  · unfold aggregate_Estimate
    rw [show (decide ((i : Int) < 0) || decide ((a.Units.length : Int) ≤ (i : Int))) = false by simp only [Bool.or_eq_false_iff, decide_eq_false_iff_not]; omega, cond_false, x1, some_bind]
    dsimp only
    rw [show ((0 : Int) != 0) = false by decide, cond_false, req_pos (by omega), ix_nat a.Units i hiu, y1, some_bind]
  · have yd : 0 < y.Den := by have := (vd_of y2.v).d0; omega
    have yq := y2.q; have ye := y2.e
    have yn : 0 ≤ y.Num := by
      rcases Int.lt_or_le y.Num 0 with g | g
      · have g1 := Int.mul_lt_mul_of_pos_right g yq
        rw [Int.zero_mul, ye] at g1
        have g2 : 0 ≤ SS a.Units l * a.Units[i].Max * y.Den := Int.mul_nonneg (Int.mul_nonneg s0 (by omega)) (by omega)
        omega
      · exact g
    have yl : y.Num ≤ a.Units[i].Max * y.Den := by
      suffices hh : y.Num * (600 * wOf a.Units l) ≤ (a.Units[i].Max * y.Den) * (600 * wOf a.Units l) from Int.le_of_mul_le_mul_right hh yq
      rw [ye]
      have g := Int.mul_le_mul_of_nonneg_right s1 (Int.mul_nonneg (show 0 ≤ a.Units[i].Max by omega) (show 0 ≤ y.Den by omega))
      rw [← Int.mul_assoc] at g
      rw [Int.mul_comm (a.Units[i].Max * y.Den)]
      exact g
    have hf : MF a.Units[i] ⟨0, y⟩ := ⟨by show (0 : Int) ≤ 0; omega, by show (0 : Int) ≤ 3; omega, y2.v, yn, yl, fun g => absurd rfl g⟩
    have hcl : counts l[i] = false := by unfold counts; rw [hk]; rfl
    have hcn : counts ⟨0, y⟩ = true := rfl
    obtain ⟨f, f1, f2, f3, _⟩ := newOf_ok' a.Units[i].Weight a.Units[i].Max (by omega) (by omega) (by omega) (by omega)
    have vf : ValB f a.Units[i].Weight a.Units[i].Max 600 100 := ⟨f2, by omega, f3, by omega, by omega⟩
    obtain ⟨z, z1, z2⟩ := mul_go y2 vf (by decide) (by decide)
    have zt : termOf a.Units[i] ⟨0, y⟩ = z := by unfold termOf; rw [f1]; dsimp only; rw [z1]
    have hTb : (SS a.Units l * a.Units[i].Weight).natAbs ≤ 720000000 * 600 := by rw [Int.natAbs_mul]; exact Nat.mul_le_mul hSb (by omega)
    have zT : ValB z (SS a.Units l * a.Units[i].Weight) (600 * wOf a.Units l) 432000000000 2160000 := by
      refine ValB.cancel (N := 144000000000 * 600) (D := 2160000 * 100) a.Units[i].Max (by omega) ?_ _ _ (by omega) (by omega)
      rw [Int.mul_right_comm]
      exact z2
    obtain ⟨ts, t1, t2, t3, t4⟩ := full_all (wOf a.Units l) (by omega) (by omega) i ⟨0, y⟩ _ h hiu hi hcl hcn (zt ▸ zT)
    have hlen : (l.set i ⟨0, y⟩).length = l.length := List.length_set
    have hGf : ∀ k (h1 : k < a.Units.length) (h2 : k < (l.set i ⟨0, y⟩).length), UOK a.Units[k] ∧ MF a.Units[k] (l.set i ⟨0, y⟩)[k] := by
      intro k h1 h2
      have h2' : k < l.length := by omega
      obtain ⟨c1, c2, _⟩ := pair_at h k h1 h2'
      refine ⟨c1, ?_⟩
      rw [List.getElem_set]
      by_cases g : i = k
      · subst g; rw [if_pos rfl]; exact hf
      · rw [if_neg g]; exact ⟨c2.k0, c2.k1, c2.v, c2.n0, c2.le, c2.z⟩
    have hGw : ∀ k (h1 : k < a.Units.length) (h2 : k < (l.set i ⟨0, y⟩).length), UOK a.Units[k] ∧ (counts (l.set i ⟨0, y⟩)[k] = true → ∃ f, newOf a.Units[k].Weight a.Units[k].Max = (f, 0) ∧ mulOf (l.set i ⟨0, y⟩)[k].Value f = (termOf a.Units[k] (l.set i ⟨0, y⟩)[k], 0)) := by
      intro k h1 h2
      have h2' : k < l.length := by omega
      obtain ⟨c1, c2, _⟩ := pair_at h k h1 h2'
      refine ⟨c1, ?_⟩
      rw [List.getElem_set]
      by_cases g : i = k
      · subst g; rw [if_pos rfl]; intro _; exact ⟨f, f1, by rw [zt]; exact z1⟩
      · rw [if_neg g]; intro _
        obtain ⟨f', x', e1, e2, e3, _⟩ := term_ok c1 c2
        exact ⟨f', e1, by rw [e3]; exact e2⟩
    have hfit := fitG a (l.set i ⟨0, y⟩) (by omega) hGf (by rw [hlen]; omega)
    have hloop := weightedG_loop a (l.set i ⟨0, y⟩) (by omega) hGw (by rw [hlen]; omega) (l.set i ⟨0, y⟩).length 0 0 [] (by omega) (by omega) (by omega) (by omega) (by simp)
    rw [List.drop_zero, List.drop_zero, Int.zero_add, List.nil_append] at hloop
    obtain ⟨s, s2, s3⟩ := sum_go t1 (by omega) (by omega) (by decide) (by omega) (by decide)
    have hscaled : aggregate_scaled a (l.set i ⟨0, y⟩) a.Max = aggregate_scaled a l a.Max := by
      obtain ⟨q, q1, q2⟩ := scaled_eq a l a.Max h (by omega) hc m0 m1
      rw [q1]
      unfold aggregate_scaled aggregate_weighted
      rw [show ((0 : Int), (0 : Int), ([] : List api_Ratio)) = ((0 : Int), ((0 : Nat) : Int), ([] : List api_Ratio)) by rfl, hloop, some_bind]
      unfold aggregate_weighted_j1
      dsimp only
      rw [Sum_eq, s2, some_bind]
      dsimp only
      rw [some_bind]
      dsimp only
      rw [t3, show ((0 : Int) != 0) = false by decide, cond_false, New_eq _ _ ⟨by omega, by omega⟩ ⟨by omega, by omega⟩]
      obtain ⟨g, g1, g2, g3, _⟩ := newOf_ok' a.Max (wOf a.Units l + a.Units[i].Weight) (by omega) (by omega) (by omega) (by omega)
      rw [g1, some_bind]
      dsimp only
      rw [show ((0 : Int) != 0) = false by decide, cond_false, Mul_eq]
      have vg : ValB g a.Max (wOf a.Units l + a.Units[i].Weight) 200 4200 := ⟨g2, by omega, g3, by omega, by omega⟩
      obtain ⟨r, r1, r2⟩ := mul_go s3 vg (by decide) (by decide)
      rw [r1, some_bind]
      dsimp only
      have hq : r = q := by
        refine r2.eq q2 ?_
        rw [t2, ← Int.mul_add]
        generalize SS a.Units l = S
        generalize wOf a.Units l = W
        generalize a.Units[i].Weight = V
        generalize a.Max = M
        simp only [Int.mul_assoc, Int.mul_comm, Int.mul_left_comm]
      rw [hq]
    unfold aggregate_Exact aggregate_checkMarks
    rw [aCheck a ha, some_bind, some_bind, hfit, fit_eq a l h (by omega), req_pos (by intro _; rfl), hscaled]
    have hl' : (l.set i ⟨0, y⟩).length ≤ 1000 := by rw [hlen]; omega
    simp only [has_loop l _ (show l.length ≤ 1000 by omega), has_loop (l.set i ⟨0, y⟩) _ hl', some_bind]
    have hany := any_counts l
    unfold isP at hp; unfold isC at hc
    rw [hc] at hany
    rw [set_any i ⟨0, y⟩ 3 hi hp rfl, set_any1 i ⟨0, y⟩ 0 hi rfl, hp]
    have hb : ((!(l.any fun m => m.Kind == 0)) && (!((some (l.any fun m => m.Kind == 1)).getD default))) = false := by
      simp only [Option.getD_some]
      cases h1 : (l.any fun m => m.Kind == 0) <;> cases h2 : (l.any fun m => m.Kind == 1) <;> simp_all
    simp only [hb, Bool.not_true, Bool.false_and, cond_false, req_pos (show ((!(l.any fun m => m.Kind == 0)) = true → (some (l.any fun m => m.Kind == 1)).isSome = true) by intro _; rfl)]
    rw [req_pos (by intro _; rfl)]
theorem set_ok2 : ∀ {us : List api_Unit} {ms : List api_UnitMark} (k : Nat) (m' : api_UnitMark), PairOK us ms → (∀ u, UOK u → MOK u m') → PairOK us (ms.set k m')
  | [], [], _, _, _, _ => trivial
  | u :: us, m :: ms, 0, m', h, g => ⟨h.1, g u h.1, h.2.2⟩
  | u :: us, m :: ms, k + 1, m', h, g => ⟨h.1, h.2.1, set_ok2 k m' h.2.2 g⟩
theorem ex_mok (u : api_Unit) (hu : UOK u) : MOK u ⟨2, ⟨0, 1⟩⟩ := by
  have hmx : 10 ≤ u.Max ∧ u.Max ≤ 100 := by rcases hu.mx with h | h | h | h <;> omega
  exact ⟨by show (0 : Int) ≤ 2; omega, by show (2 : Int) ≤ 3; omega, v_whole 0 (by omega) (by omega), by show (0 : Int) ≤ 0; omega, .inl rfl, by show (0 : Int) ≤ u.Max * 1; omega, fun _ => rfl⟩
theorem pure_AggregateEstimates (t : List Int) (n : Int) (hn : 0 ≤ n ∧ n < 256) : law36_AggregateEstimates t n = some true := by
  unfold law36_AggregateEstimates
  rw [light36, some_bind]
  by_cases ht : (t.length : Int) ≤ 600
  · rw [show (!(decide ((t.length : Int) ≤ 600))) = false by simpa using ht, cond_false]
    show (some (mark_Dice.mk t 0)).bind _ = _
    rw [some_bind]
    obtain ⟨y3, y4, a, t2, l, t3, e1, e2, e3, ha, hp, hw, l0, l1, hul⟩ := head36 t (fun h => absurd ht h)
    rw [e1, some_bind]
    dsimp only
    rw [e2, some_bind]
    dsimp only
    rw [e3, some_bind]
    dsimp only
    rw [wrap64 (n := n) (by omega) (by omega), req_pos (by omega), whole_eq, some_bind]
    have hmod : Int.tmod n (l.length : Int) = ((n.toNat % l.length : Nat) : Int) := by
      have : n = (n.toNat : Int) := by omega
      rw [this, Int.ofNat_tmod]
      simp
    rw [hmod]
    have hi : n.toNat % l.length < l.length := Nat.mod_lt _ (by omega)
    revert hi
    generalize n.toNat % l.length = i
    intro hi
    rw [req_pos (by omega)]
    unfold bindV
    have hs : setI l (i : Int) ⟨2, ⟨0, 1⟩⟩ = l.set i ⟨2, ⟨0, 1⟩⟩ := by unfold setI; simp
    rw [hs]
    have hp2 := set_ok2 i ⟨2, ⟨0, 1⟩⟩ hp ex_mok
    have hlen : (l.set i ⟨2, ⟨0, 1⟩⟩).length = l.length := List.length_set
    have hki : ∀ h : i < (l.set i ⟨2, ⟨0, 1⟩⟩).length, (l.set i ⟨2, ⟨0, 1⟩⟩)[i].Kind = 2 := by intro h; simp
    revert hp2 hlen hki
    generalize l.set i ⟨2, ⟨0, 1⟩⟩ = w
    intro hp2 hlen hki
    obtain ⟨E1, E2, E3⟩ := Exact_eq a w 0 ha hp2 (by omega) (by omega)
    have est : ∀ e : Int, e ≠ 0 → aggregate_Exact a w 0 = some (⟨0, 0⟩, e) → aggregate_Estimate a w (i : Int) = some (⟨0, 0⟩, e) := by
      intro e he h
      unfold aggregate_Estimate
      rw [show (decide ((i : Int) < 0) || decide ((a.Units.length : Int) ≤ (i : Int))) = false by simp only [Bool.or_eq_false_iff, decide_eq_false_iff_not]; omega, cond_false, h, some_bind]
      dsimp only
      rw [show (e != 0) = true by simpa using he, cond_true]
    dsimp only
    cases hP : isP w
    · cases hC : isC w
      · rw [E2 hP hC, some_bind]
        dsimp only
        rw [est 10 (by decide) (E2 hP hC), some_bind]
        dsimp only
        rw [sane36, show (((10 : Int) != 0) || ((10 : Int) != 0)) = true by decide, cond_true]
        simp [req]
      · obtain ⟨x, x1, _⟩ := E3 hP hC
        obtain ⟨y, y1, y2⟩ := estimate_full a w i ha hp2 (by omega) (hki (by omega)) hP hC
        rw [x1, some_bind]
        dsimp only
        rw [y1, some_bind]
        dsimp only
        rw [show (((0 : Int) != 0) || ((0 : Int) != 0)) = false by decide, cond_false, req_pos (by omega), req_pos (by omega)]
        have hs2 : setI w (i : Int) ⟨0, y⟩ = w.set i ⟨0, y⟩ := by unfold setI; simp
        rw [hs2, y2, x1, some_bind]
        dsimp only
        rw [sane36]
        simp [req]
    · rw [E1 hP, some_bind]
      dsimp only
      rw [est 8 (by decide) (E1 hP), some_bind]
      dsimp only
      rw [sane36, show (((8 : Int) != 0) || ((8 : Int) != 0)) = true by decide, cond_true]
      simp [req]
  · rw [show (!(decide ((t.length : Int) ≤ 600))) = true by simpa using ht, cond_true, sane36]
    rfl
end Go.LS
