/-
  Law 01: Apportion is fair.
  No condition.
-/
import Derived.Test.YtncjhljkjgejlaaPJ
namespace Go.LS
set_option linter.all false
set_option linter.unusedSimpArgs false
set_option linter.unusedVariables false
set_option maxRecDepth 20000

theorem ints_ok (t : make_Tape) (most low high : Int) (h : TOK t) (h0 : 0 ≤ most) (h1 : most ≤ 1000) (h2 : -1000000 ≤ low) (h3 : high ≤ 1000000) (h4 : low ≤ high) : ∃ l t', make_Tape_Ints t most low high = some (l, t') ∧ TOK t' ∧ (l.length : Int) ≤ most ∧ ∀ x ∈ l, low ≤ x ∧ x ≤ high := by
  unfold make_Tape_Ints
  obtain ⟨y, t1, e1, ht1, y0, y1⟩ := range_ok t 0 most h (by decide) (by omega) h0
  rw [e1, some_bind]
  dsimp only
  obtain ⟨⟨L, A, out⟩, e2, g1, g2, g3⟩ := iter_inv (f := make_Tape_Ints_l2 low high) (fun s => 0 ≤ s.1 ∧ s.1 + s.2.2.2.length = y ∧ TOK ⟨s.2.1, s.2.2.1⟩ ∧ ∀ x ∈ s.2.2.2, low ≤ x ∧ x ≤ high) (fun s => s.1.toNat)
    (fun r => TOK ⟨r.1, r.2.1⟩ ∧ (r.2.2.length : Int) ≤ most ∧ ∀ x ∈ r.2.2, low ≤ x ∧ x ≤ high) (by
      rintro ⟨i, L, A, out⟩ ⟨k1, k2, k3, k4⟩
      dsimp only at k1 k2 k3 k4
      simp only [make_Tape_Ints_l2]
      rcases bcases (decide ((0 : Int) < i)) with hc | hc <;> rw [hc]
      · left
        have hi : 0 < i := by simpa using hc
        obtain ⟨z, t2, e2, ht2, z0, z1⟩ := range_ok ⟨L, A⟩ low high k3 (by omega) (by omega) h4
        rw [cond_true, e2, some_bind]
        dsimp only
        rw [req_pos (by simp; omega), wrap64 (by omega) (by omega)]
        refine ⟨_, rfl, ⟨by show 0 ≤ i - 1; omega, ?_, ht2, fun x hx => ?_⟩, by show (i - 1).toNat < i.toNat; omega⟩
        · show i - 1 + ((out ++ [z]).length : Int) = y
          simp; omega
        · have hx' : x ∈ out ++ [z] := hx
          rcases List.mem_append.1 hx' with hx1 | hx1
          · exact k4 x hx1
          · have : x = z := by simpa using hx1
            rw [this]; exact ⟨z0, z1⟩
      · right
        have hi : ¬ 0 < i := by simpa using hc
        exact ⟨_, rfl, k3, by show (out.length : Int) ≤ most; omega, k4⟩) (y, t1.L, t1.At, []) ⟨y0, by simp, ht1, by simp⟩
  rw [e2]
  exact ⟨_, _, rfl, g1, g2, g3⟩
theorem fsum_loop (w : List Int) (hw : ∀ x ∈ w, 0 ≤ x ∧ x ≤ 60) (hl : w.length ≤ 100) : ∀ (m k : Nat), w.length - k = m → k ≤ w.length → iter (law01_RatioFair_l6 w) (sumZ (w.take k), (k : Int)) = some (sumZ w) := by
  intro m
  induction m with
  | zero =>
    intro k hm hk
    have : k = w.length := by omega
    subst this
    rw [List.take_length]
    refine iter_inr ?_
    simp [law01_RatioFair_l6]
  | succ m ih =>
    intro k hm hk
    have hk' : k < w.length := by omega
    obtain ⟨h1, h2⟩ := hw w[k] (List.getElem_mem hk')
    obtain ⟨h3, h4⟩ := sumZ_le (w.take k) 60 fun x hx => hw x (List.mem_of_mem_take hx)
    have h5 : (w.take k).length ≤ 100 := by simp; omega
    have hf : law01_RatioFair_l6 w (sumZ (w.take k), (k : Int)) = some (.inl (sumZ (w.take (k + 1)), ((k + 1 : Nat) : Int))) := by
      simp only [law01_RatioFair_l6]
      rw [show decide ((k : Int) < (w.length : Int)) = true by simp; exact hk', cond_true, req_pos (by omega), ix_nat w k hk', i64_add1 k (by omega), sumZ_take w k hk', wrap64 (by omega) (by omega)]
    rw [iter_inl hf]
    exact ih (k + 1) (by omega) (by omega)
theorem fair_inner (w a : List Int) (i : Nat) (hi : i < w.length) (ha : a.length = w.length) (hl : w.length ≤ 100) (hm : ∀ k (hk : k < w.length), w[k] < w[i] → ix a (k : Int) ≤ ix a (i : Int)) : ∀ (m k : Nat), w.length - k = m → k ≤ w.length → iter (law01_RatioFair_l3 w a (i : Int)) (k : Int) = some (.inl ()) := by
  intro m
  induction m with
  | zero =>
    intro k hm' hk
    have : k = w.length := by omega
    subst this
    refine iter_inr ?_
    simp [law01_RatioFair_l3]
  | succ m ih =>
    intro k hm' hk
    have hk' : k < w.length := by omega
    have hf : law01_RatioFair_l3 w a (i : Int) (k : Int) = some (.inl ((k + 1 : Nat) : Int)) := by
      simp only [law01_RatioFair_l3]
      rw [show decide ((k : Int) < (w.length : Int)) = true by simp; exact hk', cond_true, req_pos ⟨by omega, by omega, fun _ => by omega, fun _ => by omega⟩, ix_nat w k hk', ix_nat w i hi, i64_add1 k (by omega)]
      have : (decide (w[k] < w[i]) && decide (ix a (i : Int) < ix a (k : Int))) = false := by
        by_cases hw : w[k] < w[i]
        · have := hm k hk' hw
          rw [show decide (ix a (i : Int) < ix a (k : Int)) = false by simp only [decide_eq_false_iff_not]; omega, Bool.and_false]
        · rw [show decide (w[k] < w[i]) = false by simpa using hw, Bool.false_and]
      rw [this, cond_false]
    rw [iter_inl hf]
    exact ih (k + 1) (by omega) (by omega)
theorem fair_outer (total s : Int) (w a : List Int) (h : Wt total w s) (ht : total < 500) (hw : ∀ x ∈ w, 0 ≤ x ∧ x ≤ 60) (hs : s ≤ 1000) (ha : a.length = w.length) (hab : ∀ x ∈ a, -1000000 ≤ x ∧ x ≤ 1000000)
    (h1 : ∀ i (hi : i < w.length), total * w[i] - s < ix a (i : Int) * s ∧ ix a (i : Int) * s < total * w[i] + s)
    (h2 : ∀ i k (hi : i < w.length) (hk : k < w.length), w[k] < w[i] → ix a (k : Int) ≤ ix a (i : Int)) : ∀ (m k : Nat), w.length - k = m → k ≤ w.length → iter (law01_RatioFair_l4 w total s a) (total - sumZ (a.take k), (k : Int)) = some (.inl (total - sumZ a)) := by
  have hlen := h.len; have ht0 := h.t0; have hpos := h.pos
  intro m
  induction m with
  | zero =>
    intro k hm hk
    have : k = w.length := by omega
    subst this
    rw [← ha, List.take_length]
    refine iter_inr ?_
    simp [law01_RatioFair_l4, ha]
  | succ m ih =>
    intro k hm hk
    have hk' : k < w.length := by omega
    obtain ⟨b1, b2⟩ := h1 k hk'
    obtain ⟨w0, w1⟩ := hw w[k] (List.getElem_mem hk')
    obtain ⟨a1, a2, a3, a4⟩ := h.at k hk'
    have hp1 : total * w[k] ≤ 500 * 60 := Int.mul_le_mul (by omega) w1 w0 (by decide)
    have hal : k < a.length := by omega
    obtain ⟨q1, q2⟩ := hab a[k] (List.getElem_mem hal)
    have hsum : -1000000 * (k : Int) ≤ sumZ (a.take k) ∧ sumZ (a.take k) ≤ 1000000 * (k : Int) := by
      clear ih hm hk hk' b1 b2 w0 w1 a1 a2 a3 a4 hp1 q1 q2
      induction k with
      | zero => simp [sumZ]
      | succ k ihk =>
        obtain ⟨i1, i2⟩ := ihk (by omega)
        have := hab a[k] (List.getElem_mem (by omega))
        rw [sumZ_take a k (by omega)]
        omega
    have hf : law01_RatioFair_l4 w total s a (total - sumZ (a.take k), (k : Int)) = some (.inl (total - sumZ (a.take (k + 1)), ((k + 1 : Nat) : Int))) := by
      simp only [law01_RatioFair_l4]
      rw [show decide ((k : Int) < (w.length : Int)) = true by simp; exact hk', cond_true, req_pos (by omega), req_pos ⟨by omega, by omega, fun _ => by omega, fun _ => by omega⟩, ix_nat w k hk']
      rw [wrap64 (n := ix a (k : Int) * s) (by omega) (by omega), wrap64 (n := total * w[k]) (by omega) (by omega), wrap64 (n := total * w[k] - s) (by omega) (by omega), wrap64 (n := total * w[k] + s) (by omega) (by omega)]
      rw [show (decide (ix a (k : Int) * s ≤ total * w[k] - s) || decide (total * w[k] + s ≤ ix a (k : Int) * s)) = false by simp only [Bool.or_eq_false_iff, decide_eq_false_iff_not]; omega, cond_false]
      have hin : iter (law01_RatioFair_l3 w a (k : Int)) (0 : Int) = some (.inl ()) := fair_inner w a k hk' ha (by omega) (fun j hj hw => h2 k j hk' hj hw) w.length 0 (by omega) (by omega)
      rw [hin, some_bind]
      dsimp only
      unfold law01_RatioFair_j2
      rw [ix_nat a k hal, i64_add1 k (by omega), wrap64 (by omega) (by omega), sumZ_take a k hal]
      congr 3
      omega
    rw [iter_inl hf]
    exact ih (k + 1) (by omega) (by omega)
theorem apportion_none (total : Int) (w : List Int) (ht : 0 ≤ total ∧ total ≤ 1073741824) (hw : ∀ x ∈ w, 0 ≤ x ∧ x ≤ 1073741824) (hl : w.length ≤ 100) (hs : sumZ w = 0) : ratio_Apportion total w = some ([], 10) := by
  unfold ratio_Apportion
  rw [show decide ((100 : Int) < (w.length : Int)) = false by simp; omega, cond_false, show (decide (total < 0) || decide ((1073741824 : Int) < total)) = false by simp only [Bool.or_eq_false_iff, decide_eq_false_iff_not]; omega, cond_false]
  have hsum' : iter (ratio_Apportion_l6 w) ((0 : Int), (0 : Int)) = some (.inl (sumZ w)) := sum_loop w hw hl w.length 0 (by omega) (by omega)
  rw [hsum', some_bind, hs]
  rfl
theorem pure_RatioFair (t : List Int) (total : Int) : law01_RatioFair t total = some true := by
  unfold law01_RatioFair
  obtain ⟨t1, e1, h1⟩ := new_ok t
  rw [e1, some_bind]
  obtain ⟨w, t2, e2, h2, hl, hw⟩ := ints_ok t1 8 0 60 h1 (by decide) (by decide) (by decide) (by decide) (by decide)
  rw [e2, some_bind]
  dsimp only
  obtain ⟨y, e3, y0, y1, _⟩ := cut_ok total 500 (by decide)
  have y2 := y1 (by decide)
  rw [e3, some_bind]
  have hfs : iter (law01_RatioFair_l6 w) ((0 : Int), (0 : Int)) = some (sumZ w) := fsum_loop w hw (by omega) w.length 0 (by omega) (by omega)
  rw [hfs, some_bind]
  unfold law01_RatioFair_j5
  have hw' : ∀ x ∈ w, 0 ≤ x ∧ x ≤ 1073741824 := fun x hx => by have := hw x hx; omega
  obtain ⟨s0, s1⟩ := sumZ_le w 60 hw
  by_cases hz : sumZ w = 0
  · rw [apportion_none y w (by omega) hw' (by omega) hz, some_bind, hz]
    simp [awake_eq, req_pos]
  · have hwt : Wt y w (sumZ w) := ⟨y0, by omega, hw', by omega, rfl, by omega⟩
    obtain ⟨a, e4, ha, hsa, hb1, hb2⟩ := apportion_ok y w (sumZ w) hwt
    rw [e4, some_bind]
    dsimp only
    rw [show (sumZ w == 0) = false by simpa using hz, cond_false, show (((0 : Int) != 0) || ((a.length : Int) != (w.length : Int))) = false by simp [ha], cond_false]
    have hab : ∀ x ∈ a, -1000000 ≤ x ∧ x ≤ 1000000 := by
      intro x hx
      obtain ⟨k, hk, rfl⟩ := List.getElem_of_mem hx
      obtain ⟨c1, c2⟩ := hb1 k (by omega)
      rw [ix_nat a k hk] at c1 c2
      obtain ⟨w0, w1⟩ := hw w[k] (List.getElem_mem (by omega))
      have hp0 : 0 ≤ y * w[k] := Int.mul_nonneg y0 w0
      have hp1 : y * w[k] ≤ 500 * 60 := Int.mul_le_mul (by omega) w1 w0 (by decide)
      have hpos := hwt.pos
      constructor
      · rcases Int.lt_or_le a[k] (-1000000) with hn | hn
        · exfalso
          have : a[k] * sumZ w ≤ -1000000 * sumZ w := Int.mul_le_mul_of_nonneg_right (by omega) (by omega)
          omega
        · exact hn
      · rcases Int.lt_or_le 1000000 a[k] with hn | hn
        · exfalso
          have : 1000000 * sumZ w ≤ a[k] * sumZ w := Int.mul_le_mul_of_nonneg_right (by omega) (by omega)
          omega
        · exact hn
    have ho : iter (law01_RatioFair_l4 w y (sumZ w) a) (y, (0 : Int)) = some (.inl (y - sumZ a)) := by
      have := fair_outer y (sumZ w) w a hwt y2 hw (by omega) ha hab hb1 hb2 w.length 0 (by omega) (by omega)
      rw [List.take_zero, sumZ, Int.sub_zero] at this
      exact this
    rw [ho, some_bind, hsa]
    dsimp only
    unfold law01_RatioFair_j1
    simp [awake_eq, req_pos]
end Go.LS
