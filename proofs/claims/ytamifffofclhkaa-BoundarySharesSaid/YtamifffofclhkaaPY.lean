/-
  Boundaries: what the functions compute, in closed form, and the law of the interpolated boundaries.
  Conditions: Sm (few scores, small counts).
-/
import Derived.Test.YtamifffofclhkaaPT
namespace Go.LS
set_option linter.all false
set_option linter.unusedSimpArgs false
set_option linter.unusedVariables false
set_option maxRecDepth 20000

theorem setI_len {α : Type} (l : List α) (n : Int) (x : α) : (setI l n x).length = l.length := by simp [setI]
theorem setI_get {α : Type} (l : List α) (k : Nat) (x : α) (j : Nat) (h : j < (setI l (k : Int) x).length) : (setI l (k : Int) x)[j] = if k = j then x else l[j]'(by simpa [setI] using h) := by
  simp [setI, List.getElem_set]
/-- a loop that fills an array -/
theorem iter_fill {ρ : Type} (N : Nat) (f : Int × List Int → Option ((Int × List Int) ⊕ ρ)) (g : Nat → Int) (fin : List Int → ρ)
    (hstep : ∀ (k : Nat) (w : List Int), k < N → w.length = N → (∀ j (hj : j < w.length), j < k → w[j] = g j) → f ((k : Int), w) = some (.inl (((k + 1 : Nat) : Int), setI w k (g k))))
    (hend : ∀ w : List Int, w.length = N → f ((N : Int), w) = some (.inr (fin w))) : iter f ((0 : Int), rep (N : Int) (0 : Int)) = some (fin ((List.range N).map g)) := by
  have key : ∀ (n k : Nat) (w : List Int), N - k = n → k ≤ N → w.length = N → (∀ j (hj : j < w.length), j < k → w[j] = g j) → iter f ((k : Int), w) = some (fin ((List.range N).map g)) := by
    intro n
    induction n with
    | zero =>
      intro k w hn hk hl hw
      have : k = N := by omega
      subst this
      rw [iter_inr (hend w hl)]
      congr 2
      apply List.ext_getElem (by simp [hl])
      intro j h1 h2
      simp only [List.getElem_map, List.getElem_range]
      exact hw j h1 (by omega)
    | succ n ih =>
      intro k w hn hk hl hw
      rw [iter_inl (hstep k w (by omega) hl hw)]
      apply ih (k + 1) _ (by omega) (by omega) (by rw [setI_len]; exact hl)
      intro j hj hjk
      rw [setI_get]
      by_cases e : k = j
      · rw [if_pos e, e]
      · rw [if_neg e]; exact hw j _ (by omega)
  exact key _ 0 (rep (N : Int) 0) rfl (by omega) (by simp [rep]) (by omega)

def interp (high low : Int) (n : Nat) : List Int := (List.range (n + 1)).map (fun (v : Nat) => high - ((v : Int) * (high - low) + n - 1) / n)
theorem Interp_eq (high low : Int) (n : Nat) (h0 : 0 ≤ low) (h1 : low ≤ high) (h2 : high ≤ 200) (h3 : 1 ≤ n) (h4 : n ≤ 8) : boundary_Interpolate high low n = some (interp high low n, 0) := by
  unfold boundary_Interpolate boundary_Interpolate_j1
  rw [show (((((decide (low < (0 : Int))) || (decide (high < low))) || (decide ((200 : Int) < high))) || (decide ((n : Int) < (1 : Int)))) || (decide ((8 : Int) < n))) = false by
    simp; omega, cond_false]
  rw [wrap64 (n := (n : Int) + 1) (by omega) (by omega), req_pos (by omega)]
  have e : ((n : Int) + 1) = ((n + 1 : Nat) : Int) := by omega
  rw [e, iter_fill (n + 1) (boundary_Interpolate_l2 high low n) (fun (v : Nat) => high - ((v : Int) * (high - low) + n - 1) / n) (fun w => w) ?_ ?_]
  · rfl
  · intro k w hk hl hw
    have hm : (k : Int) * (high - low) ≤ 8 * 200 := Int.mul_le_mul (by omega) (by omega) (by omega) (by omega)
    have hm0 : 0 ≤ (k : Int) * (high - low) := Int.mul_nonneg (by omega) (by omega)
    simp only [boundary_Interpolate_l2, bindV]
    rw [wrap64 (n := (n : Int) + 1) (by omega) (by omega)]
    rw [show (decide ((k : Int) < ((rep ((n : Int) + 1) (0 : Int)).length : Int))) = true by simp [rep]; omega, cond_true, req_pos (by omega)]
    have hq := Int.ediv_le_self (b := (n : Int)) (a := (k : Int) * (high - low) + n - 1) (by omega)
    have hq0 : 0 ≤ ((k : Int) * (high - low) + n - 1) / (n : Int) := Int.ediv_nonneg (by omega) (by omega)
    rw [wrap64 (n := high - low) (by omega) (by omega), wrap64 (n := (k : Int) * (high - low)) (by omega) (by omega), wrap64 (n := (k : Int) * (high - low) + n) (by omega) (by omega), wrap64 (n := (k : Int) * (high - low) + n - 1) (by omega) (by omega), Int.tdiv_eq_ediv_of_nonneg (by omega), wrap64 (n := ((k : Int) * (high - low) + n - 1) / n) (by omega) (by omega), wrap64 (n := high - _) (by omega) (by omega), i64_add1 k (by omega)]
  · intro w hl
    simp only [boundary_Interpolate_l2, bindV]
    rw [wrap64 (n := (n : Int) + 1) (by omega) (by omega)]
    rw [show (decide (((n + 1 : Nat) : Int) < ((rep ((n : Int) + 1) (0 : Int)).length : Int))) = false by simp [rep] <;> omega, cond_false]

/-! ### the sums from the top -/
def rc (d : api_Distribution) (j : Nat) : Int := sumI (d.Counts.drop j)
def RC (d : api_Distribution) : List Int := (List.range (d.Counts.length + 1)).map (rc d)
theorem rc_succ (d : api_Distribution) (k : Nat) (h : k < d.Counts.length) : rc d k = d.Counts[k] + rc d (k + 1) := by
  unfold rc
  rw [List.drop_eq_getElem_cons h]; rfl
theorem rc_len (d : api_Distribution) : rc d d.Counts.length = 0 := by simp [rc, sumI]
theorem Sm.rc {d : api_Distribution} (h : Sm d) (k : Nat) : 0 ≤ rc d k ∧ rc d k ≤ 2000 := by
  have := sumI_bound (d.Counts.drop k) 100 (fun c hc => h.c c (List.mem_of_mem_drop hc))
  have h2 := h.hi
  have h3 : (d.Counts.drop k).length ≤ 20 := by simp; omega
  unfold LS.rc
  omega
theorem RC_len (d : api_Distribution) : (RC d).length = d.Counts.length + 1 := by simp [RC]
theorem RC_ix (d : api_Distribution) (k : Nat) (h : k ≤ d.Counts.length) : ix (RC d) (k : Int) = rc d k := by
  rw [ix_nat _ k (by rw [RC_len]; omega)]; simp [RC]
theorem greatest_eq (d : api_Distribution) (h : Sm d) : boundary_greatest d = some ((d.Counts.length : Int) - 1) := by
  have := h.lo; have := h.hi
  unfold boundary_greatest; rw [wrap64 (by omega) (by omega)]
theorem reach_eq (d : api_Distribution) (h : Sm d) : boundary_reaching d = some (RC d) := by
  have h1 := h.lo; have h2 := h.hi
  unfold boundary_reaching boundary_reaching_j1
  rw [wrap64 (n := (d.Counts.length : Int) + 1) (by omega) (by omega), req_pos (by omega), greatest_eq d h]
  simp only [Option.bind]
  have key : ∀ (k : Nat) (w : List Int), k ≤ d.Counts.length → w.length = d.Counts.length + 1 → (∀ j (hj : j < w.length), k ≤ j → w[j] = rc d j) → iter (boundary_reaching_l2 d) ((k : Int) - 1, w) = some (RC d) := by
    intro k
    induction k with
    | zero =>
      intro w hk hl hw
      have : boundary_reaching_l2 d (((0 : Nat) : Int) - 1, w) = some (.inr w) := by simp [boundary_reaching_l2]
      rw [iter_inr this]
      congr 1
      apply List.ext_getElem (by simp [hl, RC])
      intro j h1 h2
      rw [hw j h1 (by omega)]
      simp [RC]
    | succ k ih =>
      intro w hk hl hw
      have hr := h.rc k
      have e1 : ix w ((k + 1 : Nat) : Int) = rc d (k + 1) := by rw [ix_nat _ _ (by omega)]; exact hw _ _ (by omega)
      have e2 : ix d.Counts (k : Int) = d.Counts[k] := ix_nat _ _ (by omega)
      have e3 := rc_succ d k (by omega)
      have : boundary_reaching_l2 d (((k + 1 : Nat) : Int) - 1, w) = some (.inl ((k : Int) - 1, setI w k (rc d k))) := by
        simp only [boundary_reaching_l2, bindV]
        rw [show ((k + 1 : Nat) : Int) - 1 = (k : Int) by omega]
        rw [show decide ((0 : Int) ≤ (k : Int)) = true by simp, cond_true, i64_add1 k (by omega), req_pos (by omega), e1, e2, wrap64 (n := (k : Int) - 1) (by omega) (by omega), wrap64 (n := rc d (k + 1) + d.Counts[k]) (by omega) (by omega)]
        rw [show rc d (k + 1) + d.Counts[k] = rc d k by omega]
      rw [iter_inl this]
      apply ih _ (by omega) (by rw [setI_len]; exact hl)
      intro j hj hjk
      rw [setI_get]
      by_cases e : k = j
      · rw [if_pos e, e]
      · rw [if_neg e]; exact hw j _ (by omega)
  rw [key d.Counts.length _ (by omega) (by simp [rep] <;> omega) (by
    intro j hj hk
    simp [rep] at hj
    have : j = d.Counts.length := by omega
    subst this
    simp [rep, rc_len])]
end Go.LS
