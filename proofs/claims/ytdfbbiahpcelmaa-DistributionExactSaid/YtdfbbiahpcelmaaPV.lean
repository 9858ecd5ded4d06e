/-
  Distributions: quantiles, the sanity check, the law of quantiles.
  Conditions: none but those of the statements.
-/
import Derived.Test.YtdfbbiahpcelmaaPU
namespace Go.LS
set_option linter.all false
set_option linter.unusedSimpArgs false
set_option linter.unusedVariables false
set_option maxRecDepth 20000

theorem cmpI_mul (x y c : Int) (h : 0 < c) : cmpI (x * c) (y * c) = cmpI x y := by
  unfold cmpI
  have e1 : x * c < y * c ↔ x < y := ⟨fun hh => Int.lt_of_mul_lt_mul_right hh (by omega), fun hh => Int.mul_lt_mul_of_pos_right hh h⟩
  have e2 : y * c < x * c ↔ y < x := ⟨fun hh => Int.lt_of_mul_lt_mul_right hh (by omega), fun hh => Int.mul_lt_mul_of_pos_right hh h⟩
  simp only [e1, e2]
theorem newOf_ok (a N : Int) (h1 : -1152921504606846976 ≤ a) (h2 : a ≤ 1152921504606846976) (h3 : 0 < N) (h4 : N ≤ 1152921504606846976) : ∃ r, newOf a N = (r, 0) ∧ vR r = true ∧ r.Num * N = a * r.Den ∧ 0 < r.Den := by
  unfold newOf
  rw [if_neg (by omega)]
  have e : ∃ r, redOf (!(decide (a < 0) == decide (N < 0))) a.natAbs N.natAbs = (r, 0) := by
    unfold redOf fitOf
    have k1 := Nat.div_le_self a.natAbs (Nat.gcd a.natAbs N.natAbs)
    have k2 := Nat.div_le_self N.natAbs (Nat.gcd a.natAbs N.natAbs)
    rw [if_pos ⟨by omega, by omega⟩]
    exact ⟨_, rfl⟩
  obtain ⟨r, hr⟩ := e
  obtain ⟨g1, g2, g3⟩ := redOf_val _ _ _ (by omega) r hr
  refine ⟨r, hr, g1, ?_, g3⟩
  rw [show ((N.natAbs : Nat) : Int) = N by omega] at g2
  rw [g2]
  congr 1
  unfold sv
  rw [show decide (N < 0) = false by simp; omega]
  by_cases h : a < 0
  · simp [h]; omega
  · simp [h]; omega
theorem cmpR_new (r1 r2 : api_Ratio) (a N b M : Int) (v1 : vR r1 = true) (v2 : vR r2 = true) (e1 : r1.Num * N = a * r1.Den) (e2 : r2.Num * M = b * r2.Den) (d1 : 0 < r1.Den) (d2 : 0 < r2.Den) (hN : 0 < N) (hM : 0 < M) : cmpR r1 r2 = cmpI (a * M) (b * N) := by
  unfold cmpR
  rw [if_pos ⟨v1, v2⟩, ← cmpI_mul _ _ (N * M) (Int.mul_pos hN hM), ← cmpI_mul (a * M) (b * N) (r1.Den * r2.Den) (Int.mul_pos d1 d2)]
  congr 1
  · have : r1.Num * r2.Den * (N * M) = (r1.Num * N) * (r2.Den * M) := by grind
    rw [this, e1]; grind
  · have : r2.Num * r1.Den * (N * M) = (r2.Num * M) * (r1.Den * N) := by grind
    rw [this, e2]; grind
theorem vR_self (r : api_Ratio) : r.Num * r.Den = r.Num * r.Den := rfl
theorem cmpI_ge (x y : Int) : (0 ≤ cmpI x y) ↔ y ≤ x := by
  unfold cmpI; split <;> (try split) <;> omega
theorem dQuant (d : api_Distribution) (share : api_Ratio) (h : Sm d) (hv : vR share = true) (hc : 0 < count d) (h0 : 0 ≤ share.Num) (h1 : share.Num ≤ share.Den) :
    ∃ v : Nat, v < d.Counts.length ∧ distribution_Quantile d share = some ((v : Int), 0) ∧ share.Num * count d ≤ sumI (d.Counts.take (v + 1)) * share.Den ∧ ∀ j, j < v → sumI (d.Counts.take (j + 1)) * share.Den < share.Num * count d := by
  have hN : count d ≤ 2000 := h.all.2
  have hden : 0 < share.Den := by have := (vR_iff share).1 hv; omega
  have hlen := h.hi
  have hlo := h.lo
  unfold distribution_Quantile
  simp only [dValid d h, Valid_eq, hv, dcheck d h, Option.bind, Option.isSome_some, Option.getD_some, implies_true, req_true, Bool.not_true, Bool.or_self, cond_false]
  rw [if_neg (by omega)]
  simp only []
  rw [show ((0 : Int) != 0) = false by simp, cond_false, show ((decide (share.Num < (0 : Int))) || (decide (share.Den < share.Num))) = false by simp; omega, cond_false]
  obtain ⟨r, e, v, p1, p2, p3, p4⟩ := iter_inv (f := distribution_Quantile_l2 d share (count d)) (fun x => 0 ≤ x.2 ∧ x.2 < d.Counts.length ∧ x.1 = sumI (d.Counts.take x.2.toNat) ∧ ∀ j, j < x.2.toNat → sumI (d.Counts.take (j + 1)) * share.Den < share.Num * count d) (fun x => (d.Counts.length - x.2).toNat)
    (fun r => ∃ v : Nat, r = .inr ((v : Int), 0) ∧ v < d.Counts.length ∧ share.Num * count d ≤ sumI (d.Counts.take (v + 1)) * share.Den ∧ ∀ j, j < v → sumI (d.Counts.take (j + 1)) * share.Den < share.Num * count d) (by
      rintro ⟨b, i⟩ ⟨k1, k2, k3, k4⟩
      simp only at k1 k2 k3 k4
      obtain ⟨k, rfl⟩ : ∃ k : Nat, i = k := ⟨i.toNat, by omega⟩
      simp only [Int.toNat_natCast] at k3 k4
      have hk : k < d.Counts.length := by omega
      have hcc := h.c d.Counts[k] (List.getElem_mem hk)
      have ht := h.take k
      have ht1 := h.take (k + 1)
      have hsum : b + d.Counts[k] = sumI (d.Counts.take (k + 1)) := by rw [sumI_take_succ _ _ hk, k3]
      simp only [distribution_Quantile_l2]
      rw [show decide ((k : Int) < (d.Counts.length : Int)) = true by simp; omega, cond_true, req_pos (by omega), ix_nat d.Counts k hk, wrap64 (n := b + d.Counts[k]) (by omega) (by omega), hsum]
      obtain ⟨q, hq, q1, q2, q3⟩ := newOf_ok (sumI (d.Counts.take (k + 1))) (count d) (by omega) (by omega) hc (by omega)
      rw [New_eq _ _ ⟨by omega, by omega⟩ ⟨by omega, by omega⟩, hq]
      simp only [Option.bind]
      rw [show ((0 : Int) != 0) = false by simp, cond_false, Compare_eq]
      simp only []
      have hcmp := cmpR_new q share _ _ share.Num share.Den q1 hv q2 rfl q3 hden hc hden
      rw [hcmp]
      by_cases hge : share.Num * count d ≤ sumI (d.Counts.take (k + 1)) * share.Den
      · right
        rw [show decide ((0 : Int) ≤ cmpI (sumI (d.Counts.take (k + 1)) * share.Den) (share.Num * count d)) = true by rw [decide_eq_true_eq, cmpI_ge]; exact hge, cond_true]
        exact ⟨_, rfl, k, rfl, hk, hge, k4⟩
      · left
        have hlt : k + 1 < d.Counts.length := by
          rcases Nat.lt_or_ge (k + 1) d.Counts.length with h' | h'
          · exact h'
          · exfalso
            apply hge
            have : d.Counts.take (k + 1) = d.Counts := List.take_of_length_le h'
            rw [this]
            show share.Num * count d ≤ count d * share.Den
            rw [Int.mul_comm (count d)]
            exact Int.mul_le_mul_of_nonneg_right h1 (by omega)
        rw [show decide ((0 : Int) ≤ cmpI (sumI (d.Counts.take (k + 1)) * share.Den) (share.Num * count d)) = false by rw [decide_eq_false_iff_not, cmpI_ge]; exact hge, cond_false, i64_add1 k (by omega)]
        refine ⟨_, rfl, ⟨by simp; omega, by simp; omega, by simp, ?_⟩, by simp; omega⟩
        intro j hj
        simp at hj
        by_cases hjk : j < k
        · exact k4 j hjk
        · have : j = k := by omega
          subst this
          omega) (0, 0) ⟨by simp, by simp; omega, by simp [sumI], by simp⟩
  refine ⟨v, p2, ?_, p3, p4⟩
  rw [e, p1]
theorem sane_eq : law32_sane = some true := by
  unfold law32_sane
  have s := sm121
  have c4 : count ⟨[1, 2, 1]⟩ = 4 := by decide
  rw [dMean _ s]
  have m1 : meanOf ⟨[1, 2, 1]⟩ = (⟨1, 1⟩, 0) := by decide
  have dv : distribution_Deviation ⟨[1, 2, 1]⟩ = some (⟨1, 2⟩, 0) := by
    unfold distribution_Deviation distribution_Deviation_j1
    rw [dcheck _ s, c4, dsum _ s, show scores ⟨[1, 2, 1]⟩ = 4 by decide]
    simp only [Option.bind]
    have it : iter (distribution_Deviation_l2 ⟨[1, 2, 1]⟩ 4 4) ((0 : Int), (0 : Int)) = some 8 := iter_of_N 4 (by simp [iterN, distribution_Deviation_l2, bindV, req, ix, imax, IntKind.wrap, IntKind.bits, IntKind.signed])
    rw [if_neg (by decide)]
    simp only []
    rw [show ((0 : Int) != 0) = false by simp, cond_false, it]
    simp only []
    rw [show IntKind.i64.wrap ((4 : Int) * 4) = 16 by decide, New_eq _ _ ⟨by decide, by decide⟩ ⟨by decide, by decide⟩, show newOf 8 16 = (⟨1, 2⟩, 0) by decide]
  have rk : distribution_Rank ⟨[1, 2, 1]⟩ 1 = some (⟨1, 2⟩, 0) := by
    rw [dRank _ 1 s, c4, if_neg (by decide)]
    congr 1
  obtain ⟨v, v1, v2, v3, v4⟩ := dQuant ⟨[1, 2, 1]⟩ ⟨1, 4⟩ s (by decide) (by decide) (by decide) (by decide)
  obtain ⟨u, u1, u2, u3, u4⟩ := dQuant ⟨[1, 2, 1]⟩ ⟨1, 2⟩ s (by decide) (by decide) (by decide) (by decide)
  have hv : v = 0 := by
    rcases Nat.eq_zero_or_pos v with h | h
    · exact h
    · exact absurd (v4 0 h) (by decide)
  have hu : u = 1 := by
    simp at u1
    rcases Nat.lt_trichotomy u 1 with h | h | h
    · have : u = 0 := by omega
      subst this
      revert u3; decide
    · exact h
    · exact absurd (u4 1 h) (by decide)
  rw [v2, u2, dv, rk, hv, hu]
  simp only [Option.bind, m1]
  decide
theorem light_eq (t : List Int) : mark_Light t = some (decide ((t.length : Int) ≤ 600)) := rfl
end Go.LS
