/-
  DistributionExact: all functions of distributions are those of the reference.
  Conditions: none but those of the statement.
-/
import Derived.Test.YtdfbbiahpcelmaaPGD
namespace Go.LS
set_option linter.all false
set_option linter.unusedSimpArgs false
set_option linter.unusedVariables false
set_option maxRecDepth 20000

theorem i64w (n : Int) : I64 (IntKind.i64.wrap n) := by
  unfold I64
  simp only [IntKind.wrap, IntKind.bits, IntKind.signed, Bool.true_and]
  split
  · rename_i h; simp at h; omega
  · rename_i h; simp at h; omega
theorem NN_eq (a b : Int) (ha : I64 a) (hb : I64 b) : ratio_New a b = ref01_New a b := by rw [New_eq _ _ ha hb, NewR_eq _ _ ha hb]
def chk (d : api_Distribution) : Prop := Gd d ∧ 0 < cn d
noncomputable def er (d : api_Distribution) : Int := if vD d = true then (if cn d = 0 then 10 else 0) else 1
theorem gcheck (d : api_Distribution) : distribution_check d = some (if er d = 0 then cn d else 0, er d) := by
  unfold distribution_check er
  rw [gValid, gsb]
  by_cases hv : vD d = true
  · rw [hv, Bool.not_true, cond_false, gCount, gsb, if_pos rfl]
    by_cases h0 : cn d = 0
    · rw [if_pos h0, h0, show ((0 : Int) == 0) = true by decide, cond_true, if_neg (by decide)]
    · rw [if_neg h0, if_pos rfl, show (cn d == 0) = false by simpa using h0, cond_false]
  · have hv : vD d = false := by simpa using hv
    rw [hv, Bool.not_false, cond_true]
    simp
theorem gwrong (d : api_Distribution) : ref32_wrong d = some (er d) := by
  unfold ref32_wrong er
  rw [gValidR, gsb]
  by_cases hv : vD d = true
  · rw [hv, Bool.not_true, cond_false, gCountR, gsb, if_pos rfl]
    by_cases h0 : cn d = 0
    · rw [if_pos h0, h0, show ((0 : Int) == 0) = true by decide, cond_true]
    · rw [if_neg h0, show (cn d == 0) = false by simpa using h0, cond_false]
  · have hv : vD d = false := by simpa using hv
    rw [hv, Bool.not_false, cond_true, if_neg (by decide)]
theorem er_0 {d : api_Distribution} (h : er d = 0) : Gd d ∧ 0 < cn d := by
  unfold er at h
  split at h
  · rename_i hv
    have := cn_b d
    split at h
    · omega
    · exact ⟨(vD_iff d).1 hv, by omega⟩
  · omega
theorem i64_small {n : Int} (h0 : -1152921504606846976 ≤ n) (h1 : n ≤ 1152921504606846976) : I64 n := ⟨by omega, by omega⟩
theorem i64_0 : I64 0 := ⟨by decide, by decide⟩
/-! ### sums of scores -/
theorem gsum_b (d : api_Distribution) (hl : d.Counts.length ≤ 1000) : ∃ s, distribution_sumOfScores d = some s ∧ ref32_sum d = some s ∧ I64 s := by
  have key : ∀ (n k : Nat) (s : Int), d.Counts.length - k = n → k ≤ d.Counts.length → I64 s → ∃ r, iter (distribution_sumOfScores_l2 d) (s, (k : Int)) = some r ∧ I64 r := by
    intro n
    induction n with
    | zero =>
      intro k s hn hk hs
      exact ⟨s, iter_inr (by
        simp only [distribution_sumOfScores_l2]
        rw [show decide ((k : Int) < (d.Counts.length : Int)) = false by simp; omega, cond_false]), hs⟩
    | succ n ih =>
      intro k s hn hk hs
      obtain ⟨r, h1, h2⟩ := ih (k + 1) (IntKind.i64.wrap (s + (IntKind.i64.wrap ((k : Int) * (ix d.Counts (k : Int)))))) (by omega) (by omega) (i64w _)
      refine ⟨r, ?_, h2⟩
      rw [← h1]
      refine iter_inl ?_
      simp only [distribution_sumOfScores_l2]
      rw [show decide ((k : Int) < (d.Counts.length : Int)) = true by simp; omega, cond_true, req_pos (by omega), i64_add1 k (by omega)]
  obtain ⟨r, h1, h2⟩ := key _ 0 0 rfl (by omega) i64_0
  have h1' : iter (distribution_sumOfScores_l2 d) ((0 : Int), (0 : Int)) = some r := h1
  refine ⟨r, ?_, ?_, h2⟩
  · unfold distribution_sumOfScores; rw [h1']; rfl
  · unfold ref32_sum
    rw [show ref32_sum_l2 d = distribution_sumOfScores_l2 d from rfl, h1']; rfl
theorem gdev (d : api_Distribution) (n s : Int) (hl : d.Counts.length ≤ 1000) : ∃ r, iter (distribution_Deviation_l2 d n s) ((0 : Int), (0 : Int)) = some r ∧ iter (ref32_Deviation_l2 d n s) ((0 : Int), (0 : Int)) = some r ∧ I64 r := by
  have key : ∀ (m k : Nat) (t : Int), d.Counts.length - k = m → k ≤ d.Counts.length → I64 t → ∃ r, iter (distribution_Deviation_l2 d n s) (t, (k : Int)) = some r ∧ I64 r := by
    intro m
    induction m with
    | zero =>
      intro k t hn hk hs
      exact ⟨t, iter_inr (by
        simp only [distribution_Deviation_l2]
        rw [show decide ((k : Int) < (d.Counts.length : Int)) = false by simp; omega, cond_false]), hs⟩
    | succ m ih =>
      intro k t hn hk hs
      have e : ∃ t', I64 t' ∧ distribution_Deviation_l2 d n s (t, (k : Int)) = some (.inl (t', ((k + 1 : Nat) : Int))) := by
        simp only [distribution_Deviation_l2, bindV]
        rw [show decide ((k : Int) < (d.Counts.length : Int)) = true by simp; omega, cond_true, req_pos (by omega), i64_add1 k (by omega)]
        exact ⟨_, i64w _, rfl⟩
      obtain ⟨t', h0, e⟩ := e
      obtain ⟨r, h1, h2⟩ := ih (k + 1) t' (by omega) (by omega) h0
      exact ⟨r, by rw [← h1]; exact iter_inl e, h2⟩
  obtain ⟨r, h1, h2⟩ := key _ 0 0 rfl (by omega) i64_0
  exact ⟨r, h1, h1, h2⟩
theorem gMean (d : api_Distribution) : ∃ r, distribution_Mean d = some r ∧ ref32_Mean d = some r := by
  unfold distribution_Mean ref32_Mean
  rw [gcheck, gwrong, gsb, gsb]
  try dsimp only
  by_cases h : er d = 0
  · have hg := (er_0 h).1
    have hi := hg.hi
    have hc := cn_b d
    obtain ⟨s, h1, h2, h3⟩ := gsum_b d (by omega)
    rw [h, show ((0 : Int) != 0) = false by decide, cond_false, cond_false, if_pos rfl, h1, h2, gsb, gsb, gCountR, gsb, NN_eq _ _ h3 (i64_small (by omega) (by omega)), NewR_eq _ _ h3 (i64_small (by omega) (by omega)), gsb]
    exact ⟨_, rfl, rfl⟩
  · rw [show (er d != 0) = true by simpa using h, cond_true, cond_true]
    exact ⟨_, rfl, rfl⟩
theorem gDeviation (d : api_Distribution) : ∃ r, distribution_Deviation d = some r ∧ ref32_Deviation d = some r := by
  unfold distribution_Deviation ref32_Deviation
  rw [gcheck, gwrong, gsb, gsb]
  try dsimp only
  by_cases h : er d = 0
  · have hg := (er_0 h).1
    have hi := hg.hi
    obtain ⟨s, h1, h2, h3⟩ := gsum_b d (by omega)
    obtain ⟨r, g1, g2, g3⟩ := gdev d (cn d) s (by omega)
    rw [h, show ((0 : Int) != 0) = false by decide, cond_false, cond_false, if_pos rfl, h1, h2, gsb, gCountR, gsb, gsb, g1, g2, gsb, gsb]
    unfold distribution_Deviation_j1 ref32_Deviation_j1
    rw [NN_eq _ _ g3 (i64w _), NewR_eq _ _ g3 (i64w _), gsb]
    exact ⟨_, rfl, rfl⟩
  · rw [show (er d != 0) = true by simpa using h, cond_true, cond_true]
    exact ⟨_, rfl, rfl⟩
theorem gRank (d : api_Distribution) (s : Int) : ∃ r, distribution_Rank d s = some r ∧ ref32_Rank d s = some r := by
  unfold distribution_Rank ref32_Rank
  rw [gcheck, gwrong, gsb, gsb]
  try dsimp only
  by_cases h : er d = 0
  · rw [h, show ((0 : Int) != 0) = false by decide, cond_false, cond_false, if_pos rfl]
    have fin : ∀ x : Int, ∃ r, distribution_Rank_j1 d s (cn d) x = some r ∧ ref32_Rank_j1 d s x = some r := fun x => by
      unfold distribution_Rank_j1 ref32_Rank_j1
      rw [gBelow, gBelowR, gsb, gsb, gCountR, gsb, NN_eq _ _ (i64w _) (i64w _), NewR_eq _ _ (i64w _) (i64w _), gsb]
      exact ⟨_, rfl, rfl⟩
    rcases bcases ((decide ((0 : Int) ≤ s)) && (decide (s < (d.Counts.length : Int)))) with hc | hc <;> rw [hc]
    · rw [cond_true, cond_true]
      simp only [Bool.and_eq_true, decide_eq_true_eq] at hc
      rw [req_pos hc, req_pos hc]
      exact fin _
    · rw [cond_false, cond_false]
      exact fin _
  · rw [show (er d != 0) = true by simpa using h, cond_true, cond_true]
    exact ⟨_, rfl, rfl⟩
/-! ### Quantile -/
theorem cmpR_not (a b : api_Ratio) : (!(decide (cmpR a b < 0))) = decide ((0 : Int) ≤ cmpR a b) := by
  rw [Bool.eq_iff_iff]
  simp
theorem gReaches (n m : Int) (x : api_Ratio) (hn : I64 n) (hm : I64 m) : ref32_Reaches n m x = some (decide ((0 : Int) ≤ cmpR (newOf n m).1 x)) := by
  unfold ref32_Reaches
  rw [NewR_eq _ _ hn hm, gsb]
  try dsimp only
  rw [LessR_eq, gsb, cmpR_not]
theorem gquant (d : api_Distribution) (x : api_Ratio) (hg : Gd d) (hc : 0 < cn d) (hv : vR x = true) (h1 : x.Num ≤ x.Den) : ∀ (m v : Nat), d.Counts.length - v = m → v < d.Counts.length →
    ∃ q : Int, iter (distribution_Quantile_l2 d x (cn d)) (bl d (v : Int), (v : Int)) = some (.inr (q, 0)) ∧ iter (ref32_Quantile_l2 d x) (v : Int) = some q := by
  have hb := cn_b d
  have hi := hg.hi
  intro m
  induction m with
  | zero => intro v hm hv'; omega
  | succ m ih =>
    intro v hm hv'
    have b1 := bl_b d ((v + 1 : Nat) : Int)
    have b0 := bl_b d (v : Int)
    have bs := bl_succ d hg v hv'
    obtain ⟨r, er, vr, qr, dr⟩ := newOf_ok (bl d ((v + 1 : Nat) : Int)) (cn d) (by omega) (by omega) hc (by omega)
    have e : distribution_Quantile_l2 d x (cn d) (bl d (v : Int), (v : Int)) = bif decide ((0 : Int) ≤ cmpR r x) then some (.inr (.inr ((v : Int), 0))) else some (.inl (bl d ((v + 1 : Nat) : Int), ((v + 1 : Nat) : Int))) := by
      simp only [distribution_Quantile_l2, ix_nat d.Counts v hv']
      rw [show decide ((v : Int) < (d.Counts.length : Int)) = true by simp; omega, cond_true, req_pos (by omega), ← bs, wrap64 (n := bl d ((v + 1 : Nat) : Int)) (by omega) (by omega), New_eq _ _ (i64_small (by omega) (by omega)) (i64_small (by omega) (by omega)), er, gsb]
      try dsimp only
      rw [show ((0 : Int) != 0) = false by decide, cond_false, Compare_eq, gsb, i64_add1 v (by omega)]
    have e2 : ref32_Quantile_l2 d x (v : Int) = bif !(decide ((0 : Int) ≤ cmpR r x)) then some (.inl ((v + 1 : Nat) : Int)) else some (.inr (v : Int)) := by
      simp only [ref32_Quantile_l2]
      rw [i64_add1 v (by omega), gBelowR, gsb, gCountR, gsb, gReaches _ _ _ (i64_small (by omega) (by omega)) (i64_small (by omega) (by omega)), er, gsb]
    rcases bcases (decide ((0 : Int) ≤ cmpR r x)) with hd | hd
    · rw [hd] at e e2
      exact ⟨v, iter_inr e, iter_inr e2⟩
    · rw [hd] at e e2
      by_cases hl : v + 1 < d.Counts.length
      · obtain ⟨q, i1, i2⟩ := ih (v + 1) (by omega) hl
        exact ⟨q, by rw [← i1]; exact iter_inl e, by rw [← i2]; exact iter_inl e2⟩
      · exfalso
        have : bl d ((v + 1 : Nat) : Int) = cn d := bl_len d _ (by omega)
        rw [this] at qr
        have hx := (vR_iff x).1 hv
        have hrn : r.Num = r.Den := by
          have : r.Num * cn d = r.Den * cn d := by rw [qr, Int.mul_comm]
          exact Int.eq_of_mul_eq_mul_right (by omega) this
        have hge : 0 ≤ cmpR r x := by
          unfold cmpR
          rw [if_pos ⟨vr, hv⟩, cmpI_ge, hrn, Int.mul_comm r.Den x.Den]
          exact Int.mul_le_mul_of_nonneg_right h1 (by omega)
        simp at hd; omega
theorem gQuantile (d : api_Distribution) (x : api_Ratio) : ∃ r, distribution_Quantile d x = some r ∧ ref32_Quantile d x = some r := by
  unfold distribution_Quantile ref32_Quantile
  rw [gValid, gValidR, gsb, gsb, Valid_eq, ValidR_eq]
  simp only [Option.isSome_some, implies_true, req_true, Option.getD_some]
  rcases bcases ((!(vD d)) || (!(vR x))) with h | h <;> rw [h]
  · exact ⟨_, rfl, rfl⟩
  · simp only [Bool.or_eq_false_iff, Bool.not_eq_false'] at h
    rw [cond_false, cond_false, gcheck, gCountR, gsb, gsb]
    try dsimp only
    have hg := (vD_iff d).1 h.1
    have hb := cn_b d
    by_cases h0 : cn d = 0
    · have he : er d = 10 := by unfold er; rw [if_pos h.1, if_pos h0]
      rw [he, h0, show ((10 : Int) != 0) = true by decide, show ((0 : Int) == 0) = true by decide, cond_true, cond_true]
      exact ⟨_, rfl, rfl⟩
    · have he : er d = 0 := by unfold er; rw [if_pos h.1, if_neg h0]
      rw [he, show ((0 : Int) != 0) = false by decide, show (cn d == 0) = false by simpa using h0, cond_false, cond_false, if_pos rfl, gOutside, gsb]
      rcases bcases ((decide (x.Num < (0 : Int))) || (decide (x.Den < x.Num))) with ho | ho <;> rw [ho]
      · exact ⟨_, rfl, rfl⟩
      · simp only [Bool.or_eq_false_iff, decide_eq_false_iff_not] at ho
        obtain ⟨q, i1, i2⟩ := gquant d x hg (by omega) h.2 (by omega) _ 0 rfl (by have := hg.lo; omega)
        have z : bl d ((0 : Nat) : Int) = 0 := by unfold bl; split <;> simp [sumI]
        rw [z] at i1
        have i1' : iter (distribution_Quantile_l2 d x (cn d)) ((0 : Int), (0 : Int)) = some (.inr (q, 0)) := i1
        have i2' : iter (ref32_Quantile_l2 d x) (0 : Int) = some q := i2
        rw [cond_false, cond_false, i1', i2', gsb, gsb]
        exact ⟨(q, 0), rfl, rfl⟩
/-! ### Add, Smooth, Dominates -/
theorem gAdd_l2 (b : api_Distribution) : ref32_Add_l2 b = distribution_Add_l2 b := by
  funext ⟨v, w⟩
  simp only [ref32_Add_l2, distribution_Add_l2]
  rw [greq]
theorem gAdd_l4 (b : api_Distribution) : ref32_Add_l4 b = distribution_Add_l4 b := by
  funext ⟨v, w⟩
  simp only [ref32_Add_l4, distribution_Add_l4]
  rw [greq]
theorem gadd_loop (b : api_Distribution) (W : Nat) (hl : b.Counts.length ≤ W) (hW : W ≤ 1000) : ∀ (n k : Nat) (w : List Int), b.Counts.length - k = n → k ≤ b.Counts.length → w.length = W → ∃ w', iter (distribution_Add_l2 b) ((k : Int), w) = some w' ∧ w'.length = W := by
  intro n
  induction n with
  | zero =>
    intro k w hn hk hw
    refine ⟨w, iter_inr ?_, hw⟩
    simp only [distribution_Add_l2]
    rw [show decide ((k : Int) < (b.Counts.length : Int)) = false by simp; omega, cond_false]
  | succ n ih =>
    intro k w hn hk hw
    obtain ⟨w', h1, h2⟩ := ih (k + 1) (setI w (k : Int) (IntKind.i64.wrap ((ix w (k : Int)) + (ix b.Counts (k : Int))))) (by omega) (by omega) (by simp [setI, hw])
    refine ⟨w', ?_, h2⟩
    rw [← h1]
    refine iter_inl ?_
    simp only [distribution_Add_l2]
    rw [show decide ((k : Int) < (b.Counts.length : Int)) = true by simp; omega, cond_true, req_pos (by omega), req_pos (by omega), i64_add1 k (by omega)]
theorem gAdd (a b : api_Distribution) : ∃ r, distribution_Add a b = some r ∧ ref32_Add a b = some r ∧ r.1.Counts.length ≤ 1000 := by
  unfold distribution_Add ref32_Add
  rw [gValid, gValidR, gsb, gsb, gValid, gValidR, gCount, gCount, gCountR, gCountR, gsb, gsb, gsb, gsb]
  simp only [Option.isSome_some, implies_true, req_true, Option.getD_some]
  rcases bcases ((!(vD a)) || (!(vD b))) with h | h <;> rw [h]
  · exact ⟨(⟨[]⟩, _), rfl, rfl, by simp⟩
  · simp only [Bool.or_eq_false_iff, Bool.not_eq_false'] at h
    have ha := ((vD_iff a).1 h.1).hi
    have hb := ((vD_iff b).1 h.2).hi
    rw [cond_false, cond_false]
    rcases bcases (decide ((1048576 : Int) < IntKind.i64.wrap (cn a + cn b))) with hc | hc <;> rw [hc]
    · exact ⟨(⟨[]⟩, _), rfl, rfl, by simp⟩
    · rw [cond_false, cond_false]
      have hmax : imax (a.Counts.length : Int) (b.Counts.length : Int) = ((max a.Counts.length b.Counts.length : Nat) : Int) := by unfold imax; split <;> omega
      rw [hmax, req_pos (by omega), req_pos (by omega)]
      obtain ⟨w1, i1, l1⟩ := gadd_loop a (max a.Counts.length b.Counts.length) (by omega) (by omega) _ 0 (rep ((max a.Counts.length b.Counts.length : Nat) : Int) (0 : Int)) rfl (by omega) (by simp [rep])
      obtain ⟨w2, i2, l2⟩ := gadd_loop b (max a.Counts.length b.Counts.length) (by omega) (by omega) _ 0 w1 rfl (by omega) l1
      have e4 : distribution_Add_l4 a = distribution_Add_l2 a := rfl
      have i1' : iter (distribution_Add_l2 a) ((0 : Int), (rep ((max a.Counts.length b.Counts.length : Nat) : Int) (0 : Int))) = some w1 := i1
      have i2' : iter (distribution_Add_l2 b) ((0 : Int), w1) = some w2 := i2
      unfold distribution_Add_j3 ref32_Add_j3
      rw [gAdd_l4, e4, i1', gsb, gsb, gAdd_l2, i2', gsb, gsb]
      exact ⟨(⟨w2⟩, 0), rfl, rfl, by show w2.length ≤ 1000; omega⟩
theorem gsmooth_loop (d : api_Distribution) (hW : d.Counts.length ≤ 1000) : ∀ (n k : Nat) (w : List Int), d.Counts.length - k = n → k ≤ d.Counts.length → w.length = d.Counts.length → ∃ w', iter (distribution_Smooth_l2 d) ((k : Int), w) = some w' ∧ iter (ref32_Smooth_l2) ((k : Int), w) = some w' := by
  intro n
  induction n with
  | zero =>
    intro k w hn hk hw
    refine ⟨w, iter_inr ?_, iter_inr ?_⟩
    · simp only [distribution_Smooth_l2]
      rw [show decide ((k : Int) < ((rep (d.Counts.length : Int) (0 : Int)).length : Int)) = false by simp [rep]; omega, cond_false]
    · simp only [ref32_Smooth_l2]
      rw [show decide ((k : Int) < (w.length : Int)) = false by simp; omega, cond_false]
  | succ n ih =>
    intro k w hn hk hw
    obtain ⟨w', h1, h2⟩ := ih (k + 1) (setI w (k : Int) 1) (by omega) (by omega) (by simp [setI, hw])
    refine ⟨w', ?_, ?_⟩
    · rw [← h1]
      refine iter_inl ?_
      simp only [distribution_Smooth_l2]
      rw [show decide ((k : Int) < ((rep (d.Counts.length : Int) (0 : Int)).length : Int)) = true by simp [rep]; omega, cond_true, req_pos (by omega), i64_add1 k (by omega)]
    · rw [← h2]
      refine iter_inl ?_
      simp only [ref32_Smooth_l2]
      rw [show decide ((k : Int) < (w.length : Int)) = true by simp; omega, cond_true, req_pos (by omega), i64_add1 k (by omega)]
theorem gSmooth (d : api_Distribution) : ∃ r, distribution_Smooth d = some r ∧ ref32_Smooth d = some r ∧ r.1.Counts.length ≤ 1000 := by
  unfold distribution_Smooth ref32_Smooth
  rw [gValid, gValidR, gsb, gsb]
  rcases bcases (vD d) with h | h <;> rw [h]
  · have hl := ((vD_iff d).1 h).hi
    rw [Bool.not_true, cond_false, cond_false, req_pos (by omega), req_pos (by omega)]
    obtain ⟨w, i1, i2⟩ := gsmooth_loop d (by omega) _ 0 (rep (d.Counts.length : Int) (0 : Int)) rfl (by omega) (by simp [rep])
    have i1' : iter (distribution_Smooth_l2 d) ((0 : Int), (rep (d.Counts.length : Int) (0 : Int))) = some w := i1
    have i2' : iter (ref32_Smooth_l2) ((0 : Int), (rep (d.Counts.length : Int) (0 : Int))) = some w := i2
    rw [i1', i2', gsb, gsb]
    unfold distribution_Smooth_j1 ref32_Smooth_j1
    obtain ⟨⟨r, re⟩, a1, a2, a3⟩ := gAdd d ⟨w⟩
    rw [a1, a2, gsb]
    exact ⟨(r, re), rfl, rfl, a3⟩
  · exact ⟨(⟨[]⟩, 1), rfl, rfl, by simp⟩
theorem gdom (a b : api_Distribution) (X : Nat) (hX : imax (a.Counts.length : Int) (b.Counts.length : Int) = (X : Int)) (hX1 : X ≤ 1000) : ∀ (m v : Nat), X - v = m → v ≤ X →
    ∃ z, iter (distribution_Dominates_l2 a b (cn a) (cn b)) (v : Int) = some z ∧ iter (ref32_Dominates_l2 a b) (v : Int) = some z := by
  have hle : (a.Counts.length : Int) ≤ X ∧ (b.Counts.length : Int) ≤ X := by rw [← hX]; unfold imax; split <;> omega
  intro m
  induction m with
  | zero =>
    intro v hm hv
    have : v = X := by omega
    subst this
    refine ⟨.inl (), iter_inr ?_, ?_⟩
    · simp only [distribution_Dominates_l2]
      rw [hX, show decide ((v : Int) < (v : Int)) = false by simp, cond_false]
    · rw [iter_inl (s' := ((v + 1 : Nat) : Int)), iter_inr]
      · simp only [ref32_Dominates_l2]
        rw [hX, show decide (((v + 1 : Nat) : Int) ≤ (v : Int)) = false by simp; omega, cond_false]
      · simp only [ref32_Dominates_l2]
        rw [hX, show decide ((v : Int) ≤ (v : Int)) = true by simp, cond_true, gBelowR, gsb, gCountR, gsb, gBelowR, gsb, gCountR, gsb, bl_len a _ hle.1, bl_len b _ hle.2, Int.mul_comm (cn b) (cn a), show decide (IntKind.i64.wrap (cn a * cn b) < IntKind.i64.wrap (cn a * cn b)) = false by simp, cond_false, i64_add1 v (by omega)]
  | succ m ih =>
    intro v hm hv
    have e1 : distribution_Dominates_l2 a b (cn a) (cn b) (v : Int) = bif decide (IntKind.i64.wrap (bl b (v : Int) * cn a) < IntKind.i64.wrap (bl a (v : Int) * cn b)) then some (.inr (.inr false)) else some (.inl ((v + 1 : Nat) : Int)) := by
      simp only [distribution_Dominates_l2]
      rw [hX, show decide ((v : Int) < (X : Int)) = true by simp; omega, cond_true, gBelow, gsb, gBelow, gsb, i64_add1 v (by omega)]
    have e2 : ref32_Dominates_l2 a b (v : Int) = bif decide (IntKind.i64.wrap (bl b (v : Int) * cn a) < IntKind.i64.wrap (bl a (v : Int) * cn b)) then some (.inr (.inr false)) else some (.inl ((v + 1 : Nat) : Int)) := by
      simp only [ref32_Dominates_l2]
      rw [hX, show decide ((v : Int) ≤ (X : Int)) = true by simp; omega, cond_true, gBelowR, gsb, gCountR, gsb, gBelowR, gsb, gCountR, gsb, i64_add1 v (by omega)]
    rcases bcases (decide (IntKind.i64.wrap (bl b (v : Int) * cn a) < IntKind.i64.wrap (bl a (v : Int) * cn b))) with h | h
    · rw [h] at e1 e2
      exact ⟨_, iter_inr e1, iter_inr e2⟩
    · rw [h] at e1 e2
      obtain ⟨z, i1, i2⟩ := ih (v + 1) (by omega) (by omega)
      exact ⟨z, by rw [← i1]; exact iter_inl e1, by rw [← i2]; exact iter_inl e2⟩
theorem gDominates (a b : api_Distribution) : ∃ r, distribution_Dominates a b = some r ∧ ref32_Dominates a b = some r := by
  unfold distribution_Dominates ref32_Dominates
  rw [gcheck, gwrong, gsb, gsb, gcheck, gwrong]
  simp only [gsb, Option.isSome_some, implies_true, req_true, Option.getD_some]
  by_cases ha : er a = 0
  · rw [ha, show ((0 : Int) != 0) = false by decide, cond_false, Bool.false_or]
    by_cases hb : er b = 0
    · rw [hb, show ((0 : Int) != 0) = false by decide, cond_false, cond_false, if_pos rfl, if_pos rfl]
      have la := (er_0 ha).1.hi
      have lb := (er_0 hb).1.hi
      have hmax : imax (a.Counts.length : Int) (b.Counts.length : Int) = ((max a.Counts.length b.Counts.length : Nat) : Int) := by unfold imax; split <;> omega
      obtain ⟨z, i1, i2⟩ := gdom a b _ hmax (by omega) _ 0 rfl (by omega)
      have i1' : iter (distribution_Dominates_l2 a b (cn a) (cn b)) (0 : Int) = some z := i1
      have i2' : iter (ref32_Dominates_l2 a b) (0 : Int) = some z := i2
      rw [i1', i2', gsb, gsb]
      rcases z with _ | z
      · exact ⟨true, rfl, rfl⟩
      · exact ⟨z, rfl, rfl⟩
    · rw [show (er b != 0) = true by simpa using hb, cond_true, cond_true]
      exact ⟨_, rfl, rfl⟩
  · rw [show (er a != 0) = true by simpa using ha, Bool.true_or, cond_true, cond_true]
    exact ⟨_, rfl, rfl⟩
/-! ### Make -/
theorem gmake_loop (l : List Int) (most : Int) (h0 : 0 ≤ most) (h1 : most ≤ 200) (hl : l.length ≤ 60) : ∀ (n k : Nat) (w : List Int), l.length - k = n → k ≤ l.length → (w.length : Int) = most + 1 →
    ((∀ c ∈ l.drop k, 0 ≤ c ∧ c ≤ most) → ∃ W, iter (distribution_Make_l2 l) ((k : Int), w) = some W ∧ iter (ref32_Make_l2 l most) ((k : Int), w) = some (.inl W) ∧ (W.length : Int) = most + 1) ∧
    ((∃ c ∈ l.drop k, ¬ (0 ≤ c ∧ c ≤ most)) → iter (ref32_Make_l2 l most) ((k : Int), w) = some (.inr (⟨[]⟩, 2))) := by
  intro n
  induction n with
  | zero =>
    intro k w hn hk hw
    have : k = l.length := by omega
    subst this
    refine ⟨fun _ => ⟨w, iter_inr ?_, iter_inr ?_, hw⟩, fun ⟨c, hc, _⟩ => by rw [List.drop_length] at hc; cases hc⟩
    · simp only [distribution_Make_l2]
      rw [show decide ((l.length : Int) < (l.length : Int)) = false by simp, cond_false]
    · simp only [ref32_Make_l2]
      rw [show decide ((l.length : Int) < (l.length : Int)) = false by simp, cond_false]
  | succ n ih =>
    intro k w hn hk hw
    have hk' : k < l.length := by omega
    rw [List.drop_eq_getElem_cons hk']
    by_cases hc : 0 ≤ l[k] ∧ l[k] ≤ most
    · have e1 : distribution_Make_l2 l ((k : Int), w) = some (.inl (((k + 1 : Nat) : Int), setI w l[k] (IntKind.i64.wrap ((ix w l[k]) + 1)))) := by
        simp only [distribution_Make_l2, ix_nat l k hk', bindV]
        rw [show decide ((k : Int) < (l.length : Int)) = true by simp; omega, cond_true, req_pos (by omega), req_pos (by omega), i64_add1 k (by omega)]
      have e2 : ref32_Make_l2 l most ((k : Int), w) = some (.inl (((k + 1 : Nat) : Int), setI w l[k] (IntKind.i64.wrap ((ix w l[k]) + 1)))) := by
        simp only [ref32_Make_l2, ix_nat l k hk', bindV]
        rw [show decide ((k : Int) < (l.length : Int)) = true by simp; omega, cond_true, req_pos ⟨by omega, fun _ => by omega⟩, show ((decide (l[k] < (0 : Int))) || (decide (most < l[k]))) = false by simp; omega, cond_false, req_pos (by omega), i64_add1 k (by omega)]
      obtain ⟨i1, i2⟩ := ih (k + 1) (setI w l[k] (IntKind.i64.wrap ((ix w l[k]) + 1))) (by omega) (by omega) (by simp [setI, hw])
      refine ⟨fun h => ?_, fun ⟨c, hm, hn2⟩ => ?_⟩
      · obtain ⟨W, j1, j2, j3⟩ := i1 fun c hc => h c (List.mem_cons_of_mem _ hc)
        exact ⟨W, by rw [← j1]; exact iter_inl e1, by rw [← j2]; exact iter_inl e2, j3⟩
      · rw [iter_inl e2]
        refine i2 ⟨c, ?_, hn2⟩
        rcases List.mem_cons.1 hm with rfl | hm
        · exact absurd hc hn2
        · exact hm
    · refine ⟨fun h => absurd (h l[k] List.mem_cons_self) hc, fun _ => iter_inr ?_⟩
      simp only [ref32_Make_l2, ix_nat l k hk']
      rw [show decide ((k : Int) < (l.length : Int)) = true by simp; omega, cond_true, req_pos ⟨by omega, fun _ => by omega⟩, show ((decide (l[k] < (0 : Int))) || (decide (most < l[k]))) = true by simp; omega, cond_true]
theorem gMake (l : List Int) (most : Int) (hl : l.length ≤ 60) : ∃ r, distribution_Make l most = some r ∧ ref32_Make l most = some r ∧ r.1.Counts.length ≤ 201 := by
  unfold distribution_Make ref32_Make
  by_cases hm : 0 ≤ most ∧ most ≤ 200
  · rw [show ((decide (most < (0 : Int))) || (decide ((200 : Int) < most))) = false by simp; omega, cond_false, cond_false, wrap64 (n := most + 1) (by omega) (by omega), req_pos (by omega)]
    have sc := iter_scan l (distribution_Make_l4 l most) (fun c => (decide (c < (0 : Int))) || (decide (most < c))) (fun _ => (.inr (⟨[]⟩, 2) : Unit ⊕ (api_Distribution × Int))) (.inl ()) (fun k hk => by
      simp only [distribution_Make_l4, ix_nat l k hk]
      rw [show decide ((k : Int) < (l.length : Int)) = true by simp; omega, cond_true, req_pos (by omega), i64_add1 k (by omega)]
      rcases bcases ((decide (l[k] < (0 : Int))) || (decide (most < l[k]))) with h | h <;> rw [h] <;> rfl) (by simp [distribution_Make_l4])
    rw [find_any] at sc
    rw [sc, gsb]
    obtain ⟨i1, i2⟩ := gmake_loop l most hm.1 hm.2 hl _ 0 (rep (most + 1) (0 : Int)) rfl (by omega) (by simp [rep]; omega)
    rw [List.drop_zero] at i1 i2
    by_cases ha : ∀ c ∈ l, 0 ≤ c ∧ c ≤ most
    · obtain ⟨W, j1, j2, j3⟩ := i1 ha
      have j1' : iter (distribution_Make_l2 l) ((0 : Int), (rep (most + 1) (0 : Int))) = some W := j1
      have j2' : iter (ref32_Make_l2 l most) ((0 : Int), (rep (most + 1) (0 : Int))) = some (.inl W) := j2
      rw [if_neg (by
        intro h
        obtain ⟨c, hc, hp⟩ := List.any_eq_true.1 h
        have := ha c hc
        simp at hp; omega), j2', gsb]
      show ∃ r, distribution_Make_j3 l most = some r ∧ ref32_Make_j1 l W = some r ∧ _
      unfold distribution_Make_j3 ref32_Make_j1
      rw [show decide ((1048576 : Int) < (l.length : Int)) = false by simp; omega, cond_false, cond_false, wrap64 (n := most + 1) (by omega) (by omega), req_pos (by omega), j1', gsb]
      exact ⟨(⟨W⟩, 0), rfl, rfl, by show W.length ≤ 201; omega⟩
    · have ha' : ∃ c ∈ l, ¬ (0 ≤ c ∧ c ≤ most) := Classical.byContradiction fun h => ha fun c h1 => Classical.byContradiction fun h2 => h ⟨c, h1, h2⟩
      have j2 := i2 ha'
      have j2' : iter (ref32_Make_l2 l most) ((0 : Int), (rep (most + 1) (0 : Int))) = some (.inr (⟨[]⟩, 2)) := j2
      rw [if_pos (by
        obtain ⟨c, hc, hp⟩ := ha'
        refine List.any_eq_true.2 ⟨c, hc, ?_⟩
        simp; omega), j2', gsb]
      exact ⟨(⟨[]⟩, 2), rfl, rfl, by simp⟩
  · rw [show ((decide (most < (0 : Int))) || (decide ((200 : Int) < most))) = true by simp; omega, cond_true, cond_true]
    exact ⟨(⟨[]⟩, 2), rfl, rfl, by simp⟩
theorem gSame (a : api_Distribution) (ha : a.Counts.length ≤ 1000) : ref32_Same a a = some true := by
  unfold ref32_Same
  rw [show ((a.Counts.length : Int) != (a.Counts.length : Int)) = false by simp, cond_false]
  have sc := iter_scan a.Counts (ref32_Same_l2 a a) (fun _ => false) (fun _ => (.inr false : Unit ⊕ Bool)) (.inl ()) (fun k hk => by
    simp only [ref32_Same_l2]
    rw [show decide ((k : Int) < (a.Counts.length : Int)) = true by simp; omega, cond_true, req_pos (by omega), show ((ix a.Counts (k : Int)) != (ix a.Counts (k : Int))) = false by simp, cond_false, i64_add1 k (by omega)]
    rfl) (by simp [ref32_Same_l2])
  rw [sc, gsb]
  have : a.Counts.find? (fun _ => false) = none := by simp
  rw [this]
  rfl
theorem godd (t : mark_Dice) (x : api_Distribution) (h : DOK t) (h1 : 1 ≤ x.Counts.length) (h2 : x.Counts.length ≤ 20) : ∃ y t', law32_odd t x = some (y, t') ∧ DOK t' ∧ y.Counts.length ≤ 202 := by
  unfold law32_odd law32_odd_j1
  rw [req_pos (by omega)]
  obtain ⟨a, t1, e1, k1, a0, a1⟩ := dNext t 4 h (by omega)
  rw [e1, gsb]
  try dsimp only
  rcases bcases (a == (0 : Int)) with c | c <;> rw [c]
  · rw [cond_true]
    obtain ⟨b, t2, e2, k2, b0, b1⟩ := dNext t1 x.Counts.length k1 (by omega)
    obtain ⟨p, t3, e3, k3, p1⟩ := dPick t2 [(-1 : Int), (1048576 : Int), (1048577 : Int)] k2 (by decide) (by decide)
    have b1 := b1 (by omega)
    rw [e2, gsb]
    try dsimp only
    rw [e3, gsb]
    try dsimp only
    rw [req_pos (by omega)]
    exact ⟨_, t3, rfl, k3, by simp [setI]; omega⟩
  · rw [cond_false]
    rcases bcases (a == (1 : Int)) with c | c <;> rw [c]
    · exact ⟨_, t1, rfl, k1, by simp⟩
    · rw [cond_false]
      rcases bcases (a == (2 : Int)) with c | c <;> rw [c]
      · rw [cond_true]
        have key : ∀ (n k : Nat) (w : List Int), x.Counts.length - k = n → k ≤ x.Counts.length → w.length = x.Counts.length → ∃ w', iter (law32_odd_l2 x) ((k : Int), w) = some w' ∧ w'.length = x.Counts.length := by
          intro n
          induction n with
          | zero =>
            intro k w hn hk hw
            refine ⟨w, iter_inr ?_, hw⟩
            simp only [law32_odd_l2]
            rw [show decide ((k : Int) < (x.Counts.length : Int)) = false by simp; omega, cond_false]
          | succ n ih =>
            intro k w hn hk hw
            obtain ⟨w', i1, i2⟩ := ih (k + 1) (setI w (k : Int) 0) (by omega) (by omega) (by simp [setI, hw])
            refine ⟨w', ?_, i2⟩
            rw [← i1]
            refine iter_inl ?_
            simp only [law32_odd_l2]
            rw [show decide ((k : Int) < (x.Counts.length : Int)) = true by simp; omega, cond_true, req_pos (by omega), i64_add1 k (by omega)]
        obtain ⟨w', i1, i2⟩ := key _ 0 x.Counts rfl (by omega) rfl
        have i1' : iter (law32_odd_l2 x) ((0 : Int), x.Counts) = some w' := i1
        rw [i1', gsb]
        exact ⟨_, t1, rfl, k1, by show w'.length ≤ 202; omega⟩
      · rw [cond_false]
        obtain ⟨p, t3, e3, k3, p1⟩ := dPick t1 [(200 : Int), (201 : Int), (202 : Int)] k1 (by decide) (by decide)
        have pb : 200 ≤ p ∧ p ≤ 202 := by simp at p1; omega
        rw [e3, gsb]
        try dsimp only
        rw [req_pos (by omega), req_pos (by simp [rep]; omega)]
        exact ⟨_, t3, rfl, k3, by simp [setI, rep]; omega⟩
theorem ix4 {α : Type} [Inhabited α] (P : α → Prop) (a b c d : α) (ha : P a) (hb : P b) (hc : P c) (hd : P d) (v : Nat) (h : v < 4) : P (ix [a, b, c, d] (v : Int)) := by
  match v, h with
  | 0, _ => exact ha
  | 1, _ => exact hb
  | 2, _ => exact hc
  | 3, _ => exact hd
theorem req_same (x : api_Ratio) : (!((x.Num == x.Num) && (x.Den == x.Den))) = false := by simp
theorem nself (n : Int) : (n != n) = false := by simp
theorem pure_DistributionExact (t : List Int) (raw : api_Distribution) (scores : List Int) (score most : Int) (share : api_Ratio) : law32_DistributionExact t raw scores score most share = some true := by
  unfold law32_DistributionExact
  rw [light_eq, gsb]
  rcases bcases (((!(decide ((t.length : Int) ≤ 600))) || (decide ((60 : Int) < (scores.length : Int)))) || (decide ((210 : Int) < (raw.Counts.length : Int)))) with h | h <;> rw [h]
  · rw [cond_true, sane_eq]; rfl
  · simp only [Bool.or_eq_false_iff, Bool.not_eq_false', decide_eq_true_eq, decide_eq_false_iff_not] at h
    obtain ⟨⟨ht, hs⟩, hr⟩ := h
    rw [cond_false]
    obtain ⟨d0, r0, k0⟩ := dRoll t (by omega)
    rw [r0, gsb]
    obtain ⟨a, d1, r1, k1, sa, la, _⟩ := dDist d0 8 false k0 (by omega) (by omega)
    rw [r1, gsb]
    try dsimp only
    obtain ⟨⟨y, e⟩, m1, m2, m3⟩ := gMake scores most (by omega)
    simp only at m3
    rw [m1, m2, gsb, gsb]
    try dsimp only
    rw [gSame y (by omega), gsb, nself]
    rw [show ((!true) || false) = false by decide, cond_false]
    obtain ⟨n5, d2, r2, k2, _, _⟩ := dNext d1 5 k1 (by omega)
    rw [r2, gsb]
    try dsimp only
    obtain ⟨o, d3, r3, k3, lo⟩ := godd d2 a k2 sa.lo sa.hi
    rw [r3, gsb]
    try dsimp only
    have hz : ∀ v : Nat, v < 4 → (ix [a, o, raw, y] (v : Int)).Counts.length ≤ 1000 := fun v hv => ix4 (fun z : api_Distribution => z.Counts.length ≤ 1000) a o raw y (by have := sa.hi; omega) (by omega) (by omega) (by omega) v hv
    -- the inner loops
    have l4 : ∀ (v : Nat), v < 4 → ∀ (m j : Nat), 4 - j = m → j ≤ 4 → iter (law32_DistributionExact_l4 raw share a y n5 o (v : Int)) (j : Int) = some (.inl ()) := by
      intro v hv m
      induction m with
      | zero =>
        intro j hm hj
        have : j = 4 := by omega
        subst this
        exact iter_inr (by simp [law32_DistributionExact_l4])
      | succ m ih =>
        intro j hm hj
        rw [← ih (j + 1) (by omega) (by omega)]
        refine iter_inl ?_
        simp only [law32_DistributionExact_l4, bindV]
        rw [show decide ((j : Int) < (4 : Int)) = true by simp; omega, cond_true, req_pos (by omega)]
        obtain ⟨⟨q, qe⟩, q1, q2⟩ := gQuantile (ix [a, o, raw, y] (v : Int)) (api_Ratio.mk (ix [share, (api_Ratio.mk n5 (4 : Int)), (api_Ratio.mk (1 : Int) (3 : Int)), (api_Ratio.mk (-1 : Int) (2 : Int))] (j : Int)).Num (ix [share, (api_Ratio.mk n5 (4 : Int)), (api_Ratio.mk (1 : Int) (3 : Int)), (api_Ratio.mk (-1 : Int) (2 : Int))] (j : Int)).Den)
        rw [q1, q2, gsb, gsb]
        try dsimp only
        rw [nself, nself, Bool.or_self, cond_false, i64_add1 j (by omega)]
    have l6 : ∀ (v : Nat), v < 4 → ∀ (n12 : Int) (m j : Nat), 4 - j = m → j ≤ 4 → iter (law32_DistributionExact_l6 raw score a y o (v : Int) n12) (j : Int) = some (.inl ()) := by
      intro v hv n12 m
      induction m with
      | zero =>
        intro j hm hj
        have : j = 4 := by omega
        subst this
        exact iter_inr (by simp [law32_DistributionExact_l6])
      | succ m ih =>
        intro j hm hj
        rw [← ih (j + 1) (by omega) (by omega)]
        refine iter_inl ?_
        simp only [law32_DistributionExact_l6, bindV]
        rw [show decide ((j : Int) < (4 : Int)) = true by simp; omega, cond_true, req_pos (by omega)]
        generalize (ix [score, (IntKind.i64.wrap (n12 - (1 : Int))), (0 : Int), (200 : Int)] (j : Int)) = s
        obtain ⟨⟨q, qe⟩, q1, q2⟩ := gRank (ix [a, o, raw, y] (v : Int)) s
        rw [q1, q2, gsb, gsb]
        try dsimp only
        rw [gBelow, gBelowR, gsb, gsb, nself, nself, req_same, Bool.or_self, Bool.or_self, cond_false, i64_add1 j (by omega)]
    have l7 : ∀ (m v : Nat) (d : mark_Dice), DOK d → 4 - v = m → v ≤ 4 → iter (law32_DistributionExact_l7 raw score share a y n5 o) ((v : Int), d.L, d.At) = some (.inl ()) := by
      intro m
      induction m with
      | zero =>
        intro v d hd hm hv
        have : v = 4 := by omega
        subst this
        exact iter_inr (by simp [law32_DistributionExact_l7])
      | succ m ih =>
        intro v d hd hm hv
        have hv4 : v < 4 := by omega
        obtain ⟨n12, d', r', k', _, _⟩ := dNext d 12 hd (by omega)
        rw [← ih (v + 1) d' k' (by omega) (by omega)]
        refine iter_inl ?_
        simp only [law32_DistributionExact_l7]
        rw [show decide ((v : Int) < (4 : Int)) = true by simp; omega, cond_true, req_pos (by omega), gValid, gValidR, gsb, gsb, gCount, gCountR]
        simp only [Option.isSome_some, implies_true, and_self, req_true, Option.getD_some]
        rw [nself, show (!(vD (ix [a, o, raw, y] (v : Int)) == vD (ix [a, o, raw, y] (v : Int)))) = false by simp, Bool.or_self, cond_false, show mark_Dice.mk d.L d.At = d from rfl, r', gsb]
        try dsimp only
        have i6 : iter (law32_DistributionExact_l6 raw score a y o (v : Int) n12) (0 : Int) = some (.inl ()) := l6 v hv4 n12 _ 0 rfl (by omega)
        have i4 : iter (law32_DistributionExact_l4 raw share a y n5 o (v : Int)) (0 : Int) = some (.inl ()) := l4 v hv4 _ 0 rfl (by omega)
        rw [i6, gsb]
        show law32_DistributionExact_j5 raw share a y n5 o (v : Int) d'.L d'.At = _
        unfold law32_DistributionExact_j5
        obtain ⟨⟨q, qe⟩, q1, q2⟩ := gMean (ix [a, o, raw, y] (v : Int))
        rw [q1, gsb]
        try dsimp only
        rw [q2, gsb]
        try dsimp only
        obtain ⟨⟨p, pe⟩, p1, p2⟩ := gDeviation (ix [a, o, raw, y] (v : Int))
        rw [p1, gsb]
        try dsimp only
        rw [p2, gsb]
        try dsimp only
        rw [nself, nself, req_same, req_same]
        simp only [Bool.or_self, cond_false]
        rw [i4, gsb]
        show law32_DistributionExact_j3 raw a y o (v : Int) d'.L d'.At = _
        unfold law32_DistributionExact_j3
        obtain ⟨⟨u, ue⟩, u1, u2, lu⟩ := gAdd (ix [a, o, raw, y] (v : Int)) a
        obtain ⟨⟨s, se⟩, s1, s2, ls⟩ := gSmooth (ix [a, o, raw, y] (v : Int))
        obtain ⟨x1, f1, f2⟩ := gDominates (ix [a, o, raw, y] (v : Int)) a
        obtain ⟨x2, f3, f4⟩ := gDominates a (ix [a, o, raw, y] (v : Int))
        rw [u1, gsb]
        try dsimp only
        rw [u2, gsb]
        try dsimp only
        rw [s1, gsb]
        try dsimp only
        rw [s2, gsb]
        try dsimp only
        rw [gSame u lu, gSame s ls, gsb, f1, f2, f3, f4]
        simp only [Option.isSome_some, implies_true, and_self, req_true, Option.getD_some]
        rw [nself, nself, show (!(x1 == x1)) = false by simp, show (!(x2 == x2)) = false by simp, show (!true) = false from rfl]
        simp only [Bool.or_self, cond_false]
        unfold law32_DistributionExact_j2
        rw [i64_add1 v (by omega)]
    have i7 : iter (law32_DistributionExact_l7 raw score share a y n5 o) ((0 : Int), d3.L, d3.At) = some (.inl ()) := l7 _ 0 d3 k3 rfl (by omega)
    rw [i7, gsb]
    show law32_DistributionExact_j1 = _
    unfold law32_DistributionExact_j1
    rw [sane_eq]; rfl
end Go.LS
