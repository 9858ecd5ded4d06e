/-
  Distributions of any counts: Valid, Below and Count of the program and of the reference in closed form.
  No condition: lemmas.
-/
import Derived.Test.YtdfbbiahpcelmaaPW
namespace Go.LS
set_option linter.all false
set_option linter.unusedSimpArgs false
set_option linter.unusedVariables false
set_option maxRecDepth 20000

theorem gsb {α β : Type} (x : α) (f : α → Option β) : (some x).bind f = f x := rfl
theorem greq {α : Type} (A B : Prop) (x : Option α) : req A (req B x) = req (B ∧ A) x := by
  by_cases a : A <;> by_cases b : B <;> simp [req, a, b]
theorem g_nn : ∀ (l : List Int), (∀ c ∈ l, 0 ≤ c) → 0 ≤ sumI l
  | [], _ => by simp [sumI]
  | a :: l, h => by
    have h0 := h a (by simp)
    have h1 := g_nn l (fun c hc => h c (List.mem_cons_of_mem _ hc))
    simp only [sumI]; omega
theorem g_le : ∀ (l : List Int), (∀ c ∈ l, 0 ≤ c) → ∀ x ∈ l, x ≤ sumI l
  | [], _, x, hx => by cases hx
  | a :: l, h, x, hx => by
    have h0 := h a (by simp)
    have h1 := g_nn l (fun c hc => h c (List.mem_cons_of_mem _ hc))
    simp only [sumI]
    rcases List.mem_cons.1 hx with rfl | hx
    · omega
    · have := g_le l (fun c hc => h c (List.mem_cons_of_mem _ hc)) x hx; omega
/-- a valid distribution -/
structure Gd (d : api_Distribution) : Prop where
  lo : 1 ≤ d.Counts.length
  hi : d.Counts.length ≤ 201
  c : ∀ c ∈ d.Counts, 0 ≤ c
  s : sumI d.Counts ≤ 1048576
theorem Gd.take {d : api_Distribution} (h : Gd d) (k : Nat) : 0 ≤ sumI (d.Counts.take k) ∧ sumI (d.Counts.take k) ≤ 1048576 := by
  refine ⟨g_nn _ fun c hc => h.c c (List.mem_of_mem_take hc), ?_⟩
  have h1 := h.s
  have h2 := g_nn (d.Counts.drop k) fun c hc => h.c c (List.mem_of_mem_drop hc)
  have h3 := sumI_append (d.Counts.take k) (d.Counts.drop k)
  rw [List.take_append_drop] at h3
  omega
theorem Gd.cb {d : api_Distribution} (h : Gd d) (c : Int) (hc : c ∈ d.Counts) : 0 ≤ c ∧ c ≤ 1048576 := by
  have h1 := h.s
  have h2 := g_le _ h.c c hc
  exact ⟨h.c c hc, by omega⟩
open Classical in
noncomputable def vD (d : api_Distribution) : Bool := decide (Gd d)
theorem vD_t {d : api_Distribution} (h : Gd d) : vD d = true := by unfold vD; simp [h]
theorem vD_f {d : api_Distribution} (h : ¬ Gd d) : vD d = false := by unfold vD; simp [h]
theorem vD_iff (d : api_Distribution) : vD d = true ↔ Gd d := by unfold vD; simp
theorem val1 (d : api_Distribution) (hl : d.Counts.length ≤ 201) : ∀ (n k : Nat), d.Counts.length - k = n → k ≤ d.Counts.length → (0 ≤ sumI (d.Counts.take k) ∧ sumI (d.Counts.take k) ≤ 1048576 * k) →
    ((∀ c ∈ d.Counts.drop k, 0 ≤ c ∧ c ≤ 1048576) → iter (distribution_Valid_l2 d) (sumI (d.Counts.take k), (k : Int)) = some (.inl (sumI d.Counts))) ∧
    ((∃ c ∈ d.Counts.drop k, ¬ (0 ≤ c ∧ c ≤ 1048576)) → iter (distribution_Valid_l2 d) (sumI (d.Counts.take k), (k : Int)) = some (.inr false)) := by
  intro n
  induction n with
  | zero =>
    intro k hn hk hb
    have : k = d.Counts.length := by omega
    subst this
    refine ⟨fun _ => ?_, fun ⟨c, hc, _⟩ => by rw [List.drop_length] at hc; cases hc⟩
    refine iter_inr ?_
    simp only [distribution_Valid_l2]
    rw [show decide ((d.Counts.length : Int) < (d.Counts.length : Int)) = false by simp, cond_false, List.take_length]
  | succ n ih =>
    intro k hn hk hb
    have hk' : k < d.Counts.length := by omega
    rw [List.drop_eq_getElem_cons hk']
    by_cases hc : 0 ≤ d.Counts[k] ∧ d.Counts[k] ≤ 1048576
    · have e : distribution_Valid_l2 d (sumI (d.Counts.take k), (k : Int)) = some (.inl (sumI (d.Counts.take (k + 1)), ((k + 1 : Nat) : Int))) := by
        simp only [distribution_Valid_l2, ix_nat d.Counts k hk']
        rw [show decide ((k : Int) < (d.Counts.length : Int)) = true by simp; omega, cond_true, req_pos (by omega), show ((decide (d.Counts[k] < (0 : Int))) || (decide ((1048576 : Int) < d.Counts[k]))) = false by simp; omega, cond_false, i64_add1 k (by omega), wrap64 (by omega) (by omega), sumI_take_succ _ _ hk']
      rw [iter_inl e]
      obtain ⟨i1, i2⟩ := ih (k + 1) (by omega) (by omega) (by rw [sumI_take_succ _ _ hk']; omega)
      refine ⟨fun h => i1 fun c hc => h c (List.mem_cons_of_mem _ hc), fun ⟨c, h1, h2⟩ => i2 ⟨c, ?_, h2⟩⟩
      rcases List.mem_cons.1 h1 with rfl | h1
      · exact absurd hc h2
      · exact h1
    · have e : distribution_Valid_l2 d (sumI (d.Counts.take k), (k : Int)) = some (.inr (.inr false)) := by
        simp only [distribution_Valid_l2, ix_nat d.Counts k hk']
        rw [show decide ((k : Int) < (d.Counts.length : Int)) = true by simp; omega, cond_true, req_pos (by omega), show ((decide (d.Counts[k] < (0 : Int))) || (decide ((1048576 : Int) < d.Counts[k]))) = true by simp; omega, cond_true]
      exact ⟨fun h => absurd (h d.Counts[k] List.mem_cons_self) hc, fun _ => iter_inr e⟩
theorem val2 (d : api_Distribution) (hl : d.Counts.length ≤ 201) : ∀ (n k : Nat), d.Counts.length - k = n → k ≤ d.Counts.length → (0 ≤ sumI (d.Counts.take k) ∧ sumI (d.Counts.take k) ≤ 1048576) →
    (((∀ c ∈ d.Counts.drop k, 0 ≤ c) ∧ sumI d.Counts ≤ 1048576) → iter (ref32_Valid_l2 d) (sumI (d.Counts.take k), (k : Int)) = some (.inl ())) ∧
    (¬ ((∀ c ∈ d.Counts.drop k, 0 ≤ c) ∧ sumI d.Counts ≤ 1048576) → iter (ref32_Valid_l2 d) (sumI (d.Counts.take k), (k : Int)) = some (.inr false)) := by
  intro n
  induction n with
  | zero =>
    intro k hn hk hb
    have : k = d.Counts.length := by omega
    subst this
    rw [List.take_length] at hb ⊢
    refine ⟨fun _ => ?_, fun h => absurd ⟨fun c hc => (by rw [List.drop_length] at hc; cases hc), hb.2⟩ h⟩
    refine iter_inr ?_
    simp only [ref32_Valid_l2]
    rw [show decide ((d.Counts.length : Int) < (d.Counts.length : Int)) = false by simp, cond_false]
  | succ n ih =>
    intro k hn hk hb
    have hk' : k < d.Counts.length := by omega
    have hsum : sumI d.Counts = sumI (d.Counts.take k) + (d.Counts[k] + sumI (d.Counts.drop (k + 1))) := by
      have := sumI_append (d.Counts.take k) (d.Counts.drop k)
      rw [List.take_append_drop, List.drop_eq_getElem_cons hk'] at this
      exact this
    rw [List.drop_eq_getElem_cons hk']
    by_cases hc : 0 ≤ d.Counts[k] ∧ sumI (d.Counts.take k) + d.Counts[k] ≤ 1048576
    · have e : ref32_Valid_l2 d (sumI (d.Counts.take k), (k : Int)) = some (.inl (sumI (d.Counts.take (k + 1)), ((k + 1 : Nat) : Int))) := by
        simp only [ref32_Valid_l2, ix_nat d.Counts k hk']
        rw [show decide ((k : Int) < (d.Counts.length : Int)) = true by simp; omega, cond_true, req_pos ⟨by omega, fun _ => by omega⟩, wrap64 (n := 1048576 - sumI (d.Counts.take k)) (by omega) (by omega), show ((decide (d.Counts[k] < (0 : Int))) || (decide (1048576 - sumI (d.Counts.take k) < d.Counts[k]))) = false by simp; omega, cond_false, req_pos (by omega), i64_add1 k (by omega), wrap64 (by omega) (by omega), sumI_take_succ _ _ hk']
      rw [iter_inl e]
      obtain ⟨i1, i2⟩ := ih (k + 1) (by omega) (by omega) (by rw [sumI_take_succ _ _ hk']; omega)
      refine ⟨fun h => i1 ⟨fun c hc => h.1 c (List.mem_cons_of_mem _ hc), h.2⟩, fun h => i2 fun h' => h ⟨fun c h1 => ?_, h'.2⟩⟩
      rcases List.mem_cons.1 h1 with rfl | h1
      · exact hc.1
      · exact h'.1 c h1
    · have e : ref32_Valid_l2 d (sumI (d.Counts.take k), (k : Int)) = some (.inr (.inr false)) := by
        simp only [ref32_Valid_l2, ix_nat d.Counts k hk']
        rw [show decide ((k : Int) < (d.Counts.length : Int)) = true by simp; omega, cond_true, req_pos ⟨by omega, fun _ => by omega⟩, wrap64 (n := 1048576 - sumI (d.Counts.take k)) (by omega) (by omega), show ((decide (d.Counts[k] < (0 : Int))) || (decide (1048576 - sumI (d.Counts.take k) < d.Counts[k]))) = true by simp; omega, cond_true]
      refine ⟨fun h => ?_, fun _ => iter_inr e⟩
      exfalso
      apply hc
      have h1 := h.1 d.Counts[k] List.mem_cons_self
      have h2 := g_nn (d.Counts.drop (k + 1)) fun c hc => h.1 c (List.mem_cons_of_mem _ hc)
      have h3 := h.2
      exact ⟨h1, by omega⟩
theorem gValid (d : api_Distribution) : distribution_Valid d = some (vD d) := by
  unfold distribution_Valid
  by_cases hl : 1 ≤ d.Counts.length ∧ d.Counts.length ≤ 201
  · rw [show ((decide ((d.Counts.length : Int) < (1 : Int))) || (decide ((201 : Int) < (d.Counts.length : Int)))) = false by simp; omega, cond_false]
    obtain ⟨i1, i2⟩ := val1 d hl.2 _ 0 rfl (by omega) (by simp [sumI])
    have z : ((0 : Int), (0 : Int)) = (sumI (d.Counts.take 0), ((0 : Nat) : Int)) := by simp [sumI]
    rw [z]
    by_cases hc : ∀ c ∈ d.Counts.drop 0, 0 ≤ c ∧ c ≤ 1048576
    · rw [i1 hc, gsb]
      show distribution_Valid_j1 _ = _
      unfold distribution_Valid_j1
      rw [List.drop_zero] at hc
      by_cases hs : sumI d.Counts ≤ 1048576
      · rw [vD_t ⟨hl.1, hl.2, fun c h => (hc c h).1, hs⟩, show decide (sumI d.Counts ≤ (1048576 : Int)) = true by simpa using hs]
      · rw [vD_f fun h => hs h.s, show decide (sumI d.Counts ≤ (1048576 : Int)) = false by simpa using hs]
    · have hc' : ∃ c ∈ d.Counts.drop 0, ¬ (0 ≤ c ∧ c ≤ 1048576) := by
        refine Classical.byContradiction fun h => hc fun c h1 => Classical.byContradiction fun h2 => h ⟨c, h1, h2⟩
      rw [i2 hc', gsb]
      show some false = _
      rw [vD_f fun h => hc fun c h1 => h.cb c (by simpa using h1)]
  · rw [show ((decide ((d.Counts.length : Int) < (1 : Int))) || (decide ((201 : Int) < (d.Counts.length : Int)))) = true by simp; omega, cond_true, vD_f fun h => hl ⟨h.lo, h.hi⟩]
theorem gValidR (d : api_Distribution) : ref32_Valid d = some (vD d) := by
  unfold ref32_Valid
  by_cases hl : 1 ≤ d.Counts.length ∧ d.Counts.length ≤ 201
  · rw [show ((decide ((d.Counts.length : Int) < (1 : Int))) || (decide ((201 : Int) < (d.Counts.length : Int)))) = false by simp; omega, cond_false]
    obtain ⟨i1, i2⟩ := val2 d hl.2 _ 0 rfl (by omega) (by simp [sumI])
    have z : ((0 : Int), (0 : Int)) = (sumI (d.Counts.take 0), ((0 : Nat) : Int)) := by simp [sumI]
    rw [z]
    by_cases hc : (∀ c ∈ d.Counts.drop 0, 0 ≤ c) ∧ sumI d.Counts ≤ 1048576
    · rw [i1 hc, gsb]
      show some true = _
      rw [List.drop_zero] at hc
      rw [vD_t ⟨hl.1, hl.2, hc.1, hc.2⟩]
    · rw [i2 hc, gsb]
      show some false = _
      rw [vD_f fun h => hc ⟨fun c h1 => h.c c (by simpa using h1), h.s⟩]
  · rw [show ((decide ((d.Counts.length : Int) < (1 : Int))) || (decide ((201 : Int) < (d.Counts.length : Int)))) = true by simp; omega, cond_true, vD_f fun h => hl ⟨h.lo, h.hi⟩]
/-- the candidates below a score; none where the distribution is not valid -/
noncomputable def bl (d : api_Distribution) (s : Int) : Int := if vD d = true then sumI (d.Counts.take s.toNat) else 0
noncomputable def cn (d : api_Distribution) : Int := if vD d = true then sumI d.Counts else 0
theorem bl_b (d : api_Distribution) (s : Int) : 0 ≤ bl d s ∧ bl d s ≤ 1048576 := by
  unfold bl
  split
  · rename_i h; exact ((vD_iff d).1 h).take _
  · omega
theorem bl_len (d : api_Distribution) (s : Int) (h : (d.Counts.length : Int) ≤ s) : bl d s = cn d := by
  unfold bl cn
  rw [List.take_of_length_le (by omega)]
theorem cn_b (d : api_Distribution) : 0 ≤ cn d ∧ cn d ≤ 1048576 := by rw [← bl_len d _ (Int.le_refl _)]; exact bl_b d _
theorem bl_succ (d : api_Distribution) (h : Gd d) (k : Nat) (hk : k < d.Counts.length) : bl d ((k + 1 : Nat) : Int) = bl d (k : Int) + d.Counts[k] := by
  unfold bl
  rw [vD_t h, if_pos rfl, if_pos rfl, Int.toNat_natCast, Int.toNat_natCast, sumI_take_succ _ _ hk]
theorem gBelow (d : api_Distribution) (s : Int) : distribution_Below d s = some (bl d s) := by
  unfold distribution_Below
  rw [gValid, gsb]
  by_cases hv : vD d = true
  · have h := (vD_iff d).1 hv
    have hi := h.hi
    rw [hv, Bool.not_true, cond_false]
    unfold bl
    rw [if_pos hv]
    have key : ∀ (n k : Nat), d.Counts.length - k = n → k ≤ d.Counts.length → k ≤ s.toNat → iter (distribution_Below_l2 d s) (sumI (d.Counts.take k), (k : Int)) = some (sumI (d.Counts.take s.toNat)) := by
      intro n
      induction n with
      | zero =>
        intro k hn hk hs
        have : k = d.Counts.length := by omega
        subst this
        refine iter_inr ?_
        simp only [distribution_Below_l2]
        rw [show decide ((d.Counts.length : Int) < (d.Counts.length : Int)) = false by simp, Bool.false_and, cond_false, List.take_of_length_le (Nat.le_refl _), List.take_of_length_le hs]
      | succ n ih =>
        intro k hn hk hs
        have hk' : k < d.Counts.length := by omega
        by_cases hc : k < s.toNat
        · have t1 := h.take (k + 1)
          have t0 := h.take k
          have e : distribution_Below_l2 d s (sumI (d.Counts.take k), (k : Int)) = some (.inl (sumI (d.Counts.take (k + 1)), ((k + 1 : Nat) : Int))) := by
            have ts := sumI_take_succ _ _ hk'
            simp only [distribution_Below_l2, ix_nat d.Counts k hk']
            rw [show (decide ((k : Int) < (d.Counts.length : Int)) && decide ((k : Int) < s)) = true by simp; omega, cond_true, req_pos (by omega), i64_add1 k (by omega), ← ts, wrap64 (by omega) (by omega)]
          rw [iter_inl e]
          exact ih (k + 1) (by omega) (by omega) (by omega)
        · have : k = s.toNat := by omega
          refine iter_inr ?_
          simp only [distribution_Below_l2]
          rw [show decide ((k : Int) < s) = false by simp; omega, Bool.and_false, cond_false, this]
    have := key _ 0 rfl (by omega) (by omega)
    rw [List.take_zero] at this
    rw [show ((0 : Int), (0 : Int)) = (sumI [], ((0 : Nat) : Int)) from rfl, this, gsb]
    rfl
  · have hv : vD d = false := by simpa using hv
    rw [hv, Bool.not_false, cond_true]
    unfold bl
    rw [hv, if_neg (by decide)]
theorem gBelowR (d : api_Distribution) (s : Int) : ref32_Below d s = some (bl d s) := by
  unfold ref32_Below
  by_cases hv : vD d = true
  · have h := (vD_iff d).1 hv
    have hi := h.hi
    unfold bl
    rw [if_pos hv]
    have key : ∀ (n k : Nat), d.Counts.length - k = n → k ≤ d.Counts.length → k ≤ s.toNat → iter (ref32_Below_l2 d s) (sumI (d.Counts.take k), (k : Int)) = some (sumI (d.Counts.take s.toNat)) := by
      intro n
      induction n with
      | zero =>
        intro k hn hk hs
        have : k = d.Counts.length := by omega
        subst this
        refine iter_inr ?_
        simp only [ref32_Below_l2]
        rw [gValidR, show decide ((d.Counts.length : Int) < (d.Counts.length : Int)) = false by simp, Bool.false_and, Bool.false_and, cond_false, req_pos (fun h => by cases h), List.take_of_length_le (Nat.le_refl _), List.take_of_length_le hs]
      | succ n ih =>
        intro k hn hk hs
        have hk' : k < d.Counts.length := by omega
        by_cases hc : k < s.toNat
        · have t1 := h.take (k + 1)
          have t0 := h.take k
          have e : ref32_Below_l2 d s (sumI (d.Counts.take k), (k : Int)) = some (.inl (sumI (d.Counts.take (k + 1)), ((k + 1 : Nat) : Int))) := by
            have ts := sumI_take_succ _ _ hk'
            simp only [ref32_Below_l2, ix_nat d.Counts k hk']
            rw [gValidR, hv, Option.getD_some, Bool.and_true, Option.isSome_some]
            simp only [implies_true, req_true]
            rw [show (decide ((k : Int) < (d.Counts.length : Int)) && decide ((k : Int) < s)) = true by simp; omega, cond_true, req_pos (by omega), i64_add1 k (by omega), ← ts, wrap64 (by omega) (by omega)]
          rw [iter_inl e]
          exact ih (k + 1) (by omega) (by omega) (by omega)
        · have : k = s.toNat := by omega
          refine iter_inr ?_
          simp only [ref32_Below_l2]
          rw [show decide ((k : Int) < s) = false by simp; omega, Bool.and_false, Bool.false_and, cond_false, req_pos (fun h => by cases h), this]
    have := key _ 0 rfl (by omega) (by omega)
    rw [List.take_zero] at this
    rw [show ((0 : Int), (0 : Int)) = (sumI [], ((0 : Nat) : Int)) from rfl, this, gsb]
    rfl
  · have hv : vD d = false := by simpa using hv
    unfold bl
    rw [hv, if_neg (by decide), iter_inr (r := (0 : Int)), gsb]
    · rfl
    · simp only [ref32_Below_l2]
      rw [gValidR, hv, Option.getD_some, Bool.and_false, cond_false, Option.isSome_some]
      simp only [implies_true, req_true]
theorem gCount (d : api_Distribution) : distribution_Count d = some (cn d) := by
  unfold distribution_Count
  rw [gBelow, bl_len d _ (Int.le_refl _)]; rfl
theorem gCountR (d : api_Distribution) : ref32_Count d = some (cn d) := by
  unfold ref32_Count
  rw [gBelowR, bl_len d _ (Int.le_refl _)]; rfl
theorem cn_pos {d : api_Distribution} (h : Gd d) : cn d = sumI d.Counts := by unfold cn; rw [vD_t h, if_pos rfl]
theorem gOutside (x : api_Ratio) : ref32_Outside x = some ((decide (x.Num < (0 : Int))) || (decide (x.Den < x.Num))) := rfl
end Go.LS
