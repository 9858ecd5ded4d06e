/-
  Distributions that are valid: the closed forms of the functions, without other bounds.
  Conditions: VD (what Valid asks).
-/
import Derived.Test.YtdfbbiahpcelmaaPV
namespace Go.LS
set_option linter.all false
set_option linter.unusedSimpArgs false
set_option linter.unusedVariables false
set_option maxRecDepth 20000

structure VD (d : api_Distribution) : Prop where
  lo : 1 ≤ d.Counts.length
  hi : d.Counts.length ≤ 201
  n : ∀ c ∈ d.Counts, 0 ≤ c
  s : sumI d.Counts ≤ 1048576
theorem VD.take {d : api_Distribution} (h : VD d) (k : Nat) : 0 ≤ sumI (d.Counts.take k) ∧ sumI (d.Counts.take k) ≤ 1048576 := by
  have h1 := sumI_mono d.Counts h.n 0 k (by omega)
  have h2 : sumI (d.Counts.take k) ≤ sumI d.Counts := by
    rcases Nat.lt_or_ge k d.Counts.length with g | g
    · have := sumI_mono d.Counts h.n k d.Counts.length (by omega)
      rwa [List.take_length] at this
    · rw [List.take_of_length_le g]; exact Int.le_refl _
  have h3 := h.s
  simp only [List.take_zero, sumI] at h1
  omega
theorem VD.all {d : api_Distribution} (h : VD d) : 0 ≤ sumI d.Counts ∧ sumI d.Counts ≤ 1048576 := by
  have := h.take d.Counts.length
  rwa [List.take_length] at this
theorem VD.c {d : api_Distribution} (h : VD d) : ∀ c ∈ d.Counts, 0 ≤ c ∧ c ≤ 1048576 := by
  intro c hc
  obtain ⟨k, hk, rfl⟩ := List.getElem_of_mem hc
  have h1 := sumI_take_succ d.Counts k hk
  have h2 := h.take k
  have h3 := h.take (k + 1)
  have h4 := h.n _ (List.getElem_mem hk)
  omega
theorem ss_le (l : List Int) : ∀ (k B : Nat), k + l.length ≤ B → (∀ c ∈ l, 0 ≤ c) → 0 ≤ ss k l ∧ ss k l ≤ B * sumI l := by
  induction l with
  | nil => intro k B _ _; simp [ss, sumI]
  | cons a l ih =>
    intro k B hk h
    have h1 := h a (by simp)
    simp only [List.length_cons] at hk
    have h2 := ih (k + 1) B (by omega) fun c hc => h c (by simp [hc])
    simp only [ss, sumI]
    have h3 : 0 ≤ (k : Int) * a := Int.mul_nonneg (by omega) h1
    have h4 : (k : Int) * a ≤ (B : Int) * a := Int.mul_le_mul_of_nonneg_right (by omega) h1
    rw [Int.mul_add]
    omega
theorem VD.ss {d : api_Distribution} (h : VD d) (k : Nat) : 0 ≤ ss 0 (d.Counts.take k) ∧ ss 0 (d.Counts.take k) ≤ 210763776 := by
  have h1 := ss_le (d.Counts.take k) 0 201 (by have := h.hi; simp; omega) (fun c hc => h.n c (List.mem_of_mem_take hc))
  have h2 := h.take k
  omega
theorem vValid (d : api_Distribution) (h : VD d) : distribution_Valid d = some true := by
  unfold distribution_Valid
  have h1 := h.lo
  have h2 := h.hi
  rw [show ((decide ((d.Counts.length : Int) < (1 : Int))) || (decide ((201 : Int) < (d.Counts.length : Int)))) = false by simp; omega, cond_false]
  rw [iter_foldR d.Counts (distribution_Valid_l2 d) (fun b c => b + c) (fun b => .inl b) (fun k b => b = sumI (d.Counts.take k)) (fun k b hk hb => by
    have hc := h.c d.Counts[k] (List.getElem_mem hk)
    have ht := h.take k
    refine ⟨?_, by rw [sumI_take_succ _ _ hk, hb]⟩
    simp only [distribution_Valid_l2, ix_nat d.Counts k hk]
    rw [show decide ((k : Int) < (d.Counts.length : Int)) = true by simp; omega, cond_true, req_pos (by omega), show ((decide (d.Counts[k] < (0 : Int))) || (decide ((1048576 : Int) < d.Counts[k]))) = false by simp; omega, cond_false, i64_add1 k (by omega), wrap64 (by omega) (by omega)]) (fun b _ => by simp [distribution_Valid_l2]) 0 (by simp [sumI])]
  simp only [Option.bind, distribution_Valid_j1, foldl_sum]
  have := h.all
  rw [show decide (0 + sumI d.Counts ≤ (1048576 : Int)) = true by simp; omega]
theorem vBelow (d : api_Distribution) (s : Int) (h : VD d) : distribution_Below d s = some (below d s) := by
  unfold distribution_Below below
  rw [vValid d h]
  simp only [Option.bind, Bool.not_true, cond_false]
  have h2 := h.hi
  have := iter_val (f := distribution_Below_l2 d s) (fun x => 0 ≤ x.2 ∧ x.2 ≤ d.Counts.length ∧ x.2.toNat ≤ s.toNat ∧ x.1 = sumI (d.Counts.take x.2.toNat)) (fun x => (d.Counts.length - x.2).toNat) (fun _ => sumI (d.Counts.take s.toNat)) (by
    rintro ⟨b, i⟩ ⟨k1, k2, k3, k4⟩
    simp only at k1 k2 k3 k4
    obtain ⟨k, rfl⟩ : ∃ k : Nat, i = k := ⟨i.toNat, by omega⟩
    simp only [Int.toNat_natCast] at k3 k4
    simp only [distribution_Below_l2]
    rcases bcases ((decide ((k : Int) < (d.Counts.length : Int))) && (decide ((k : Int) < s))) with hc | hc <;> rw [hc]
    · left
      simp only [Bool.and_eq_true, decide_eq_true_eq] at hc
      have hk : k < d.Counts.length := by omega
      have hcc := h.c d.Counts[k] (List.getElem_mem hk)
      have ht := h.take k
      rw [cond_true, req_pos (by omega), ix_nat d.Counts k hk, i64_add1 k (by omega), wrap64 (by omega) (by omega)]
      refine ⟨_, rfl, ⟨by omega, by simp; omega, by simp; omega, ?_⟩, ?_, by first | rfl | trivial⟩
      · show b + d.Counts[k] = sumI (d.Counts.take ((k + 1 : Nat) : Int).toNat)
        rw [Int.toNat_natCast, sumI_take_succ _ _ hk, k4]
      · show ((d.Counts.length : Int) - ((k + 1 : Nat) : Int)).toNat < ((d.Counts.length : Int) - (k : Int)).toNat
        omega
    · right
      simp only [Bool.and_eq_false_iff, decide_eq_false_iff_not] at hc
      rw [cond_false, k4]
      congr 3
      by_cases hl : k = d.Counts.length
      · rw [hl, List.take_length, List.take_of_length_le (by omega)]
      · have : k = s.toNat := by omega
        rw [this]) (0, 0) ⟨by simp, by simp, by simp, by simp [sumI]⟩
  rw [this]
  rfl
theorem vCount (d : api_Distribution) (h : VD d) : distribution_Count d = some (count d) := by
  unfold distribution_Count
  rw [vBelow d _ h, below_len]; rfl
theorem vcheck (d : api_Distribution) (h : VD d) : distribution_check d = some (if count d = 0 then (0, 10) else (count d, 0)) := by
  unfold distribution_check
  rw [vValid d h]
  simp only [Option.bind, Bool.not_true, cond_false]
  rw [vCount d h]
  simp only []
  by_cases hc : count d = 0
  · rw [if_pos hc, hc]; rfl
  · rw [if_neg hc, show (count d == 0) = false by simpa using hc, cond_false]
theorem vsum (d : api_Distribution) (h : VD d) : distribution_sumOfScores d = some (scores d) := by
  unfold distribution_sumOfScores scores
  have h2 := h.hi
  have := iter_val (f := distribution_sumOfScores_l2 d) (fun x => 0 ≤ x.2 ∧ x.2 ≤ d.Counts.length ∧ x.1 = ss 0 (d.Counts.take x.2.toNat)) (fun x => (d.Counts.length - x.2).toNat) (fun _ => ss 0 d.Counts) (by
    rintro ⟨b, i⟩ ⟨k1, k2, k4⟩
    simp only at k1 k2 k4
    obtain ⟨k, rfl⟩ : ∃ k : Nat, i = k := ⟨i.toNat, by omega⟩
    simp only [Int.toNat_natCast] at k4
    simp only [distribution_sumOfScores_l2]
    rcases bcases (decide ((k : Int) < (d.Counts.length : Int))) with hc | hc <;> rw [hc]
    · left
      simp only [decide_eq_true_eq] at hc
      have hk : k < d.Counts.length := by omega
      have hcc := h.c d.Counts[k] (List.getElem_mem hk)
      have ht := h.ss k
      have p1 : 0 ≤ (k : Int) * d.Counts[k] := Int.mul_nonneg (by omega) hcc.1
      have p2 : (k : Int) * d.Counts[k] ≤ 201 * 1048576 := Int.mul_le_mul (by omega) hcc.2 hcc.1 (by omega)
      rw [cond_true, req_pos (by omega), ix_nat d.Counts k hk, i64_add1 k (by omega), wrap64 (n := (k : Int) * d.Counts[k]) (by omega) (by omega), wrap64 (by omega) (by omega)]
      refine ⟨_, rfl, ⟨by omega, by simp; omega, ?_⟩, ?_, by first | rfl | trivial⟩
      · show b + (k : Int) * d.Counts[k] = ss 0 (d.Counts.take ((k + 1 : Nat) : Int).toNat)
        rw [Int.toNat_natCast, ss_take_succ _ _ hk, k4]
      · show ((d.Counts.length : Int) - ((k + 1 : Nat) : Int)).toNat < ((d.Counts.length : Int) - (k : Int)).toNat
        omega
    · right
      simp only [decide_eq_false_iff_not] at hc
      have : k = d.Counts.length := by omega
      rw [cond_false, k4, this, List.take_length]) (0, 0) ⟨by simp, by simp, by simp [ss]⟩
  rw [this]
  rfl
theorem vscores_bound (d : api_Distribution) (h : VD d) : 0 ≤ scores d ∧ scores d ≤ 210763776 := by
  have := h.ss d.Counts.length
  rwa [List.take_length] at this
theorem vMean (d : api_Distribution) (h : VD d) : distribution_Mean d = some (meanOf d) := by
  unfold distribution_Mean meanOf
  rw [vcheck d h]
  simp only [Option.bind]
  by_cases hc : count d = 0
  · simp only [hc, if_true]; rfl
  · simp only [hc, if_false]
    rw [show ((0 : Int) != 0) = false by simp, cond_false, vsum d h]
    simp only []
    have h1 := vscores_bound d h
    have h2 := h.all
    rw [New_eq _ _ ⟨by omega, by omega⟩ ⟨by unfold count; omega, by unfold count; omega⟩]
end Go.LS
