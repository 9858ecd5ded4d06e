/-
  Law 01: Apportion for fewer than 20 weights, and the law that it is fair.
  Conditions: weights and total in the function's own ranges.
-/
import Derived.Test.YtncjhljkjgejlaaPQ3
namespace Go.LS
set_option linter.all false
set_option linter.unusedSimpArgs false
set_option linter.unusedVariables false
set_option maxRecDepth 20000

theorem ix_setI (l : List Int) (j k : Nat) (x : Int) (hj : j < l.length) : ix (setI l (j : Int) x) (k : Int) = if k = j then x else ix l (k : Int) := by
  unfold ix setI
  simp only [Int.toNat_natCast, List.getD_eq_getElem?_getD]
  by_cases h : k = j
  · subst h; rw [if_pos rfl]; simp [List.getElem?_set_self hj]
  · rw [if_neg h, List.getElem?_set_ne (fun e => h e.symm)]
theorem cmpInt_eq (x y : Int) : cmp_Compare_int x y = some (cmpI x y) := by
  unfold cmp_Compare_int cmp_isNaN_int cmpI
  have h1 : (x != x) = false := by simp
  have h2 : (y != y) = false := by simp
  rw [h1, h2]
  simp only [Option.bind, cond_false]
  by_cases h : x < y
  · simp [h]
  · by_cases h' : y < x
    · simp [h, h']
    · simp [h, h']
def rem (c : Int) (w : List Int) (s : Int) (x : Int) : Int := Int.tmod (IntKind.i64.wrap (c * ix w x)) s
theorem cmp_eq (i j c : Int) (w : List Int) (s : Int) (hs : s ≠ 0) (hi : 0 ≤ i ∧ i < w.length) (hj : 0 ≤ j ∧ j < w.length) : ratio_Apportion_f1 i j c w s = some (cmpI (rem c w s j) (rem c w s i), c, w, s) := by
  unfold ratio_Apportion_f1
  rw [req_pos ⟨hj, hs, hi⟩, cmpInt_eq]
  rfl
theorem cmpI_neg1 (x y : Int) : decide (cmpI x y < 0) = decide (x < y) := by
  unfold cmpI
  rw [Bool.eq_iff_iff]
  simp only [decide_eq_true_eq]
  (repeat' split) <;> omega
/-- one element moves to its place -/
theorem ins_inner (c : Int) (w : List Int) (s : Int) (hs : s ≠ 0) (d0 : List Int) (hb : ∀ x ∈ d0, 0 ≤ x ∧ x < w.length) (i : Nat) (hi : i < d0.length) (hlen : d0.length ≤ 1000)
    (hsrt : ∀ p q : Nat, p < q → q < i → rem c w s (ix d0 q) ≤ rem c w s (ix d0 p)) :
    ∃ d, iter (slices_insertionSortCmpFunc_int_ratio_Apportion_f1_l2 0) ((i : Int), d0, c, w, s) = some (d, c, w, s) ∧ d.Perm d0 ∧ ∀ p q : Nat, p < q → q < i + 1 → rem c w s (ix d q) ≤ rem c w s (ix d p) := by
  obtain ⟨⟨d, c', w', s'⟩, e, g1, g2, g3, g4, g5⟩ := iter_inv (f := slices_insertionSortCmpFunc_int_ratio_Apportion_f1_l2 0)
    (fun x => ∃ j : Nat, x.1 = (j : Int) ∧ j ≤ i ∧ x.2.1.Perm d0 ∧ x.2.2.1 = c ∧ x.2.2.2.1 = w ∧ x.2.2.2.2 = s ∧ ∀ p q : Nat, p < q → q ≤ i → q ≠ j → rem c w s (ix x.2.1 q) ≤ rem c w s (ix x.2.1 p)) (fun x => x.1.toNat)
    (fun r => r.1.Perm d0 ∧ r.2.1 = c ∧ r.2.2.1 = w ∧ r.2.2.2 = s ∧ ∀ p q : Nat, p < q → q < i + 1 → rem c w s (ix r.1 q) ≤ rem c w s (ix r.1 p)) (by
      rintro ⟨x1, d, c', w', s'⟩ ⟨j, h1, h2, h3, h4, h5, h6, h7⟩
      dsimp only at h1 h2 h3 h4 h5 h6 h7
      subst h1 h4 h5 h6
      have hdl : d.length = d0.length := h3.length_eq
      simp only [slices_insertionSortCmpFunc_int_ratio_Apportion_f1_l2]
      by_cases hj0 : j = 0
      · subst hj0
        right
        refine ⟨_, rfl, h3, rfl, rfl, rfl, fun p q hpq hq => ?_⟩
        exact h7 p q hpq (by omega) (by omega)
      · rw [show decide ((0 : Int) < (j : Int)) = true by simp; omega, cond_true, wrap64 (n := (j : Int) - 1) (by omega) (by omega), show (j : Int) - 1 = ((j - 1 : Nat) : Int) by omega, req_pos (by omega)]
        have hm1 := hb _ (h3.mem_iff.1 (ix_mem d (j : Int) (by omega) (by omega)))
        have hm2 := hb _ (h3.mem_iff.1 (ix_mem d ((j - 1 : Nat) : Int) (by omega) (by omega)))
        rw [cmp_eq _ _ _ _ _ hs hm1 hm2, some_bind]
        dsimp only
        rw [cmpI_neg1]
        by_cases hc : rem c' w' s' (ix d ((j - 1 : Nat) : Int)) < rem c' w' s' (ix d (j : Int))
        · left
          rw [show decide (rem c' w' s' (ix d ((j - 1 : Nat) : Int)) < rem c' w' s' (ix d (j : Int))) = true by simpa using hc, cond_true, req_pos (by omega)]
          unfold bindV
          have hperm : (setI (setI d (j : Int) (ix d ((j - 1 : Nat) : Int))) ((j - 1 : Nat) : Int) (ix d (j : Int))).Perm d := by
            have := List.set_set_perm (as := d) (i := j) (j := j - 1) (by omega) (by omega)
            unfold setI
            rw [Int.toNat_natCast, Int.toNat_natCast, ix_nat d j (by omega), ix_nat d (j - 1) (by omega)]
            exact this
          have hacc : ∀ k : Nat, ix (setI (setI d (j : Int) (ix d ((j - 1 : Nat) : Int))) ((j - 1 : Nat) : Int) (ix d (j : Int))) (k : Int) = if k = j - 1 then ix d (j : Int) else if k = j then ix d ((j - 1 : Nat) : Int) else ix d (k : Int) := by
            intro k
            rw [ix_setI _ _ _ _ (by rw [len_setI]; omega), ix_setI _ _ _ _ (by omega)]
          refine ⟨_, rfl, ⟨j - 1, rfl, by omega, hperm.trans h3, rfl, rfl, rfl, fun p q hpq hq hqj => ?_⟩, by show (((j - 1 : Nat) : Int)).toNat < ((j : Nat) : Int).toNat; omega⟩
          show rem c' w' s' (ix (setI (setI d (j : Int) (ix d ((j - 1 : Nat) : Int))) ((j - 1 : Nat) : Int) (ix d (j : Int))) (q : Int)) ≤ rem c' w' s' (ix (setI (setI d (j : Int) (ix d ((j - 1 : Nat) : Int))) ((j - 1 : Nat) : Int) (ix d (j : Int))) (p : Int))
          rw [hacc, hacc, if_neg hqj]
          by_cases hq2 : q = j
          · rw [if_pos hq2]
            by_cases hp1 : p = j - 1
            · rw [if_pos hp1]; omega
            · rw [if_neg hp1, if_neg (by omega)]
              exact h7 p (j - 1) (by omega) (by omega) (by omega)
          · rw [if_neg hq2]
            by_cases hp1 : p = j - 1
            · rw [if_pos hp1]; exact h7 j q (by omega) hq hq2
            · rw [if_neg hp1]
              by_cases hp2 : p = j
              · rw [if_pos hp2]; exact h7 (j - 1) q (by omega) hq hq2
              · rw [if_neg hp2]; exact h7 p q hpq hq hq2
        · right
          rw [show decide (rem c' w' s' (ix d ((j - 1 : Nat) : Int)) < rem c' w' s' (ix d (j : Int))) = false by simpa using hc, cond_false]
          refine ⟨_, rfl, h3, rfl, rfl, rfl, fun p q hpq hq => ?_⟩
          by_cases hqj : q = j
          · show rem c' w' s' (ix d (q : Int)) ≤ rem c' w' s' (ix d (p : Int))
            rw [hqj]
            by_cases hp1 : p = j - 1
            · rw [hp1]; omega
            · have := h7 p (j - 1) (by omega) (by omega) (by omega)
              omega
          · exact h7 p q hpq (by omega) hqj) ((i : Int), d0, c, w, s) ⟨i, rfl, Nat.le_refl i, List.Perm.refl _, rfl, rfl, rfl, fun p q hpq hq hqi => hsrt p q hpq (by omega)⟩
  dsimp only at g1 g2 g3 g4 g5
  subst g2 g3 g4
  exact ⟨d, e, g1, g5⟩
theorem ins_sort (c : Int) (w : List Int) (s : Int) (hs : s ≠ 0) (d0 : List Int) (hb : ∀ x ∈ d0, 0 ≤ x ∧ x < w.length) (hlen : d0.length ≤ 1000) :
    ∃ d, slices_insertionSortCmpFunc_int_ratio_Apportion_f1 d0 0 (d0.length : Int) c w s = some (d, c, w, s) ∧ d.Perm d0 ∧ ∀ p q : Nat, p < q → q < d0.length → rem c w s (ix d q) ≤ rem c w s (ix d p) := by
  unfold slices_insertionSortCmpFunc_int_ratio_Apportion_f1
  obtain ⟨⟨d, c', w', s'⟩, e, g1, g2, g3, g4, g5⟩ := iter_inv (f := slices_insertionSortCmpFunc_int_ratio_Apportion_f1_l3 0 (d0.length : Int))
    (fun x => ∃ i : Nat, x.1 = (i : Int) ∧ 1 ≤ i ∧ i ≤ d0.length + 1 ∧ x.2.1.Perm d0 ∧ x.2.2.1 = c ∧ x.2.2.2.1 = w ∧ x.2.2.2.2 = s ∧ ∀ p q : Nat, p < q → q < i → q < d0.length → rem c w s (ix x.2.1 q) ≤ rem c w s (ix x.2.1 p)) (fun x => ((d0.length : Int) + 1 - x.1).toNat)
    (fun r => r.1.Perm d0 ∧ r.2.1 = c ∧ r.2.2.1 = w ∧ r.2.2.2 = s ∧ ∀ p q : Nat, p < q → q < d0.length → rem c w s (ix r.1 q) ≤ rem c w s (ix r.1 p)) (by
      rintro ⟨x1, d, c', w', s'⟩ ⟨i, h1, h1', h2, h3, h4, h5, h6, h7⟩
      dsimp only at h1 h1' h2 h3 h4 h5 h6 h7
      subst h1 h4 h5 h6
      have hdl : d.length = d0.length := h3.length_eq
      simp only [slices_insertionSortCmpFunc_int_ratio_Apportion_f1_l3]
      by_cases hi : i < d0.length
      · left
        rw [show decide ((i : Int) < (d0.length : Int)) = true by simp; exact hi, cond_true]
        obtain ⟨d2, e2, p2, s2⟩ := ins_inner c' w' s' hs d (fun x hx => hb x (h3.mem_iff.1 hx)) i (by omega) (by omega) (fun p q hpq hq => h7 p q hpq hq (by omega))
        rw [e2, some_bind]
        dsimp only
        unfold slices_insertionSortCmpFunc_int_ratio_Apportion_f1_j1
        rw [i64_add1 i (by omega)]
        exact ⟨_, rfl, ⟨i + 1, rfl, by omega, by omega, p2.trans h3, rfl, rfl, rfl, fun p q hpq hq _ => s2 p q hpq hq⟩, by show ((d0.length : Int) + 1 - ((i + 1 : Nat) : Int)).toNat < ((d0.length : Int) + 1 - (i : Int)).toNat; omega⟩
      · right
        rw [show decide ((i : Int) < (d0.length : Int)) = false by simp; omega, cond_false]
        exact ⟨_, rfl, h3, rfl, rfl, rfl, fun p q hpq hq => h7 p q hpq (by omega) hq⟩) ((1 : Int), d0, c, w, s) ⟨1, rfl, by omega, by omega, List.Perm.refl _, rfl, rfl, rfl, fun p q hpq hq => by omega⟩
  dsimp only at g1 g2 g3 g4 g5
  subst g2 g3 g4
  rw [show IntKind.i64.wrap ((0 : Int) + 1) = 1 by decide, e]
  exact ⟨d, rfl, g1, g5⟩
theorem sort_eq (c : Int) (w : List Int) (s : Int) (hs : s ≠ 0) (d0 : List Int) (hb : ∀ x ∈ d0, 0 ≤ x ∧ x < w.length) (hlen : d0.length < 20) :
    ∃ d, slices_SortStableFunc_intint_ratio_Apportion_f1 d0 c w s = some (d, c, w, s) ∧ d.Perm d0 ∧ ∀ p q : Nat, p < q → q < d0.length → rem c w s (ix d q) ≤ rem c w s (ix d p) := by
  obtain ⟨d, e, hp, hsrt⟩ := ins_sort c w s hs d0 hb (by omega)
  unfold slices_SortStableFunc_intint_ratio_Apportion_f1 slices_stableCmpFunc_int_ratio_Apportion_f1
  have h1 : iter (slices_stableCmpFunc_int_ratio_Apportion_f1_l6 (d0.length : Int)) ((0 : Int), (20 : Int), d0, c, w, s) = some ((0 : Int), d0, c, w, s) := by
    refine iter_inr ?_
    simp only [slices_stableCmpFunc_int_ratio_Apportion_f1_l6]
    rw [show decide ((20 : Int) ≤ (d0.length : Int)) = false by simp; omega, cond_false]
  rw [h1, some_bind]
  dsimp only
  unfold slices_stableCmpFunc_int_ratio_Apportion_f1_j5
  rw [e, some_bind]
  dsimp only
  have h2 : iter (slices_stableCmpFunc_int_ratio_Apportion_f1_l4 (d0.length : Int)) ((20 : Int), d, c, w, s) = some (d, c, w, s) := by
    refine iter_inr ?_
    simp only [slices_stableCmpFunc_int_ratio_Apportion_f1_l4]
    rw [show decide ((20 : Int) < (d0.length : Int)) = false by simp; omega, cond_false]
  rw [req_pos hp.length_eq, h2, some_bind, some_bind]
  dsimp only
  rw [req_pos hp.length_eq]
  exact ⟨d, rfl, hp, hsrt⟩
/-! ### sums -/
def sumZ : List Int → Int
  | [] => 0
  | a :: l => a + sumZ l
theorem sumZ_append : ∀ (l m : List Int), sumZ (l ++ m) = sumZ l + sumZ m
  | [], m => by simp [sumZ]
  | a :: l, m => by simp only [List.cons_append, sumZ, sumZ_append l m]; omega
theorem sumZ_take (l : List Int) (k : Nat) (h : k < l.length) : sumZ (l.take (k + 1)) = sumZ (l.take k) + l[k] := by
  rw [List.take_succ_eq_append_getElem h, sumZ_append]; simp [sumZ]
theorem sumZ_perm {l m : List Int} (h : l.Perm m) : sumZ l = sumZ m := by
  induction h with
  | nil => rfl
  | cons x _ ih => simp only [sumZ, ih]
  | swap x y l => simp only [sumZ]; omega
  | trans _ _ ih1 ih2 => exact ih1.trans ih2
theorem sumZ_le (l : List Int) (B : Int) (h : ∀ x ∈ l, 0 ≤ x ∧ x ≤ B) : 0 ≤ sumZ l ∧ sumZ l ≤ B * l.length := by
  induction l with
  | nil => simp [sumZ]
  | cons a l ih =>
    obtain ⟨h1, h2⟩ := h a (by simp)
    obtain ⟨h3, h4⟩ := ih fun x hx => h x (by simp [hx])
    simp only [sumZ, List.length_cons]
    have e : B * ((l.length + 1 : Nat) : Int) = B * (l.length : Int) + B := by
      rw [show ((l.length + 1 : Nat) : Int) = (l.length : Int) + 1 by omega, Int.mul_add, Int.mul_one]
    constructor <;> omega
theorem sumZ_set (l : List Int) (k : Nat) (x : Int) (h : k < l.length) : sumZ (l.set k x) = sumZ l - l[k] + x := by
  induction l generalizing k with
  | nil => simp at h
  | cons a l ih =>
    cases k with
    | zero => simp only [List.set_cons_zero, sumZ, List.getElem_cons_zero]; omega
    | succ k => simp only [List.set_cons_succ, sumZ, List.getElem_cons_succ, ih k (by simpa using h)]; omega
theorem elem_le_sum : ∀ (l : List Int), (∀ x ∈ l, 0 ≤ x) → ∀ x ∈ l, x ≤ sumZ l
  | [], _, x, hx => by cases hx
  | a :: l, h, x, hx => by
    have h0 := h a (by simp)
    have hs : 0 ≤ sumZ l := by
      clear hx x
      have h' : ∀ x ∈ l, 0 ≤ x := fun x hx => h x (by simp [hx])
      clear h h0
      induction l with
      | nil => simp [sumZ]
      | cons b l ih =>
        have := h' b (by simp)
        have := ih fun x hx => h' x (by simp [hx])
        simp only [sumZ]; omega
    simp only [sumZ]
    rcases List.mem_cons.1 hx with rfl | hx
    · omega
    · have := elem_le_sum l (fun y hy => h y (by simp [hy])) x hx
      omega
theorem sumZ_zero : ∀ (l : List Int), (∀ x ∈ l, x = 0) → sumZ l = 0
  | [], _ => rfl
  | a :: l, h => by
    simp only [sumZ]
    rw [h a (by simp), sumZ_zero l fun x hx => h x (by simp [hx])]; rfl
theorem tdiv_pos (a b : Int) (ha : 0 ≤ a) : Int.tdiv a b = a / b := by
  rw [Int.tdiv_eq_ediv_of_nonneg ha]
theorem tmod_pos (a b : Int) (ha : 0 ≤ a) : Int.tmod a b = a % b := by
  rw [Int.tmod_eq_emod_of_nonneg ha]
/-! ### the shares -/
structure Wt (total : Int) (w : List Int) (s : Int) : Prop where
  t0 : 0 ≤ total
  t1 : total ≤ 1073741824
  ww : ∀ x ∈ w, 0 ≤ x ∧ x ≤ 1073741824
  len : w.length < 20
  sum : sumZ w = s
  pos : 0 < s
theorem Wt.at {total s : Int} {w : List Int} (h : Wt total w s) (k : Nat) (hk : k < w.length) : 0 ≤ w[k] ∧ w[k] ≤ 1073741824 ∧ 0 ≤ total * w[k] ∧ total * w[k] ≤ 1152921504606846976 := by
  obtain ⟨h1, h2⟩ := h.ww w[k] (List.getElem_mem hk)
  refine ⟨h1, h2, Int.mul_nonneg h.t0 h1, ?_⟩
  have := Int.mul_le_mul h.t1 h2 h1 (by decide)
  omega
def shares (total : Int) (w : List Int) (s : Int) : List Int := w.map fun x => total * x / s
theorem sum_loop (w : List Int) (hw : ∀ x ∈ w, 0 ≤ x ∧ x ≤ 1073741824) (hl : w.length ≤ 100) : ∀ (m k : Nat), w.length - k = m → k ≤ w.length → iter (ratio_Apportion_l6 w) ((k : Int), sumZ (w.take k)) = some (.inl (sumZ w)) := by
  intro m
  induction m with
  | zero =>
    intro k hm hk
    have : k = w.length := by omega
    subst this
    rw [List.take_length]
    refine iter_inr ?_
    simp [ratio_Apportion_l6]
  | succ m ih =>
    intro k hm hk
    have hk' : k < w.length := by omega
    obtain ⟨h1, h2⟩ := hw w[k] (List.getElem_mem hk')
    obtain ⟨h3, h4⟩ := sumZ_le (w.take k) 1073741824 fun x hx => hw x (List.mem_of_mem_take hx)
    have h5 : (w.take k).length ≤ 100 := by simp; omega
    have hf : ratio_Apportion_l6 w ((k : Int), sumZ (w.take k)) = some (.inl (((k + 1 : Nat) : Int), sumZ (w.take (k + 1)))) := by
      simp only [ratio_Apportion_l6]
      rw [show decide ((k : Int) < (w.length : Int)) = true by simp; exact hk', cond_true, req_pos (by omega), ix_nat w k hk', show (decide (w[k] < 0) || decide ((1073741824 : Int) < w[k])) = false by simp only [Bool.or_eq_false_iff, decide_eq_false_iff_not]; omega, cond_false, i64_add1 k (by omega), sumZ_take w k hk', wrap64 (by omega) (by omega)]
    rw [iter_inl hf]
    exact ih (k + 1) (by omega) (by omega)
theorem share_loop (total : Int) (w : List Int) (s : Int) (h : Wt total w s) : ∃ left ps, iter (ratio_Apportion_l4 total w s) (total, (0 : Int), (rep (w.length : Int) (0 : Int)), (rep (w.length : Int) (0 : Int))) = some (left, ps, rg w.length) ∧ ps = shares total w s ∧ left = total - sumZ ps := by
  obtain ⟨⟨left, ps, os⟩, e, g1, g2, g3⟩ := iter_inv (f := ratio_Apportion_l4 total w s)
    (fun x => ∃ k : Nat, x.2.1 = (k : Int) ∧ k ≤ w.length ∧ x.2.2.1 = (shares total w s).take k ++ List.replicate (w.length - k) 0 ∧ x.2.2.2 = rg k ++ List.replicate (w.length - k) 0 ∧ x.1 = total - sumZ ((shares total w s).take k) ∧ -1073741824 * (k : Int) ≤ x.1 ∧ x.1 ≤ 1073741824) (fun x => ((w.length : Int) - x.2.1).toNat)
    (fun r => r.2.1 = shares total w s ∧ r.2.2 = rg w.length ∧ r.1 = total - sumZ (shares total w s)) (by
      rintro ⟨left, x2, ps, os⟩ ⟨k, h1, h2, h3, h4, h5, h6, h7⟩
      dsimp only at h1 h2 h3 h4 h5 h6 h7
      subst h1
      have hsl : (shares total w s).length = w.length := by simp [shares]
      have hlen := h.len
      simp only [ratio_Apportion_l4]
      by_cases hk : k < w.length
      · left
        obtain ⟨a1, a2, a3, a4⟩ := h.at k hk
        have hpos := h.pos
        have hd := div_between (total * w[k]) s 1152921504606846976 h.pos (by omega) (by omega) (by decide)
        have hd0 : 0 ≤ total * w[k] / s := Int.ediv_nonneg a3 (by omega)
        have hd1 : total * w[k] / s ≤ total := by
          refine Int.ediv_le_of_le_mul hpos ?_
          refine Int.mul_le_mul_of_nonneg_left ?_ h.t0
          rw [← h.sum]
          exact elem_le_sum w (fun x hx => (h.ww x hx).1) w[k] (List.getElem_mem hk)
        have ht1 := h.t1
        have hpl : ps.length = w.length := by rw [h3]; simp [hsl]; omega
        have hol : os.length = w.length := by rw [h4]; simp [rg]; omega
        rw [show decide ((k : Int) < (w.length : Int)) = true by simp; exact hk, cond_true, req_pos (by omega), req_pos ⟨by omega, by omega⟩, ix_nat w k hk, wrap64 (n := total * w[k]) (by omega) (by omega), tdiv_pos _ _ a3, wrap64 (n := total * w[k] / s) (by omega) (by omega)]
        unfold bindV
        dsimp only
        rw [req_pos (by omega), req_pos (by rw [len_setI]; omega)]
        have hix : ix (setI ps (k : Int) (total * w[k] / s)) (k : Int) = total * w[k] / s := by rw [ix_setI _ _ _ _ (by omega), if_pos rfl]
        rw [hix, i64_add1 k (by omega), wrap64 (by omega) (by omega)]
        have hshk : (shares total w s)[k]'(by omega) = total * w[k] / s := by simp [shares]
        have e1 : setI ps (k : Int) (total * w[k] / s) = (shares total w s).take (k + 1) ++ List.replicate (w.length - (k + 1)) 0 := by
          unfold setI
          rw [Int.toNat_natCast, h3, List.set_append_right _ _ (by simp; omega)]
          have : k - ((shares total w s).take k).length = 0 := by simp; omega
          rw [this, show w.length - k = (w.length - (k + 1)) + 1 by omega, List.replicate_succ, List.set_cons_zero, List.take_succ_eq_append_getElem (by omega), hshk]
          simp
        have e2 : setI os (k : Int) (k : Int) = rg (k + 1) ++ List.replicate (w.length - (k + 1)) 0 := by
          unfold setI
          rw [Int.toNat_natCast, h4, List.set_append_right _ _ (by simp [rg])]
          have : k - (rg k).length = 0 := by simp [rg]
          rw [this, show w.length - k = (w.length - (k + 1)) + 1 by omega, List.replicate_succ, List.set_cons_zero, rg_succ]
          simp
        refine ⟨_, rfl, ⟨k + 1, rfl, by omega, e1, e2, ?_, ?_, ?_⟩, by show ((w.length : Int) - ((k + 1 : Nat) : Int)).toNat < ((w.length : Int) - (k : Int)).toNat; omega⟩
        · show left - total * w[k] / s = total - sumZ ((shares total w s).take (k + 1))
          rw [sumZ_take _ _ (by omega), hshk]; omega
        · show -1073741824 * ((k + 1 : Nat) : Int) ≤ left - total * w[k] / s
          omega
        · show left - total * w[k] / s ≤ 1073741824
          omega
      · right
        have : k = w.length := by omega
        subst this
        rw [show decide ((w.length : Int) < (w.length : Int)) = false by simp, cond_false]
        refine ⟨_, rfl, ?_, ?_, ?_⟩
        · show ps = _
          rw [h3, Nat.sub_self, ← hsl, List.take_length]; simp
        · show os = _
          rw [h4, Nat.sub_self]; simp
        · show left = _
          rw [h5, ← hsl, List.take_length]) (total, 0, rep (w.length : Int) 0, rep (w.length : Int) 0) ⟨0, rfl, by omega, by simp [rep], by simp [rep, rg], by simp [sumZ], by have := h.t0; simp; omega, h.t1⟩
  dsimp only at g1 g2 g3
  subst g2
  exact ⟨left, ps, e, g1, by rw [g3, g1]⟩
theorem rem_eq {total s : Int} {w : List Int} (h : Wt total w s) (k : Nat) (hk : k < w.length) : rem total w s (k : Int) = total * w[k] % s := by
  obtain ⟨a1, a2, a3, a4⟩ := h.at k hk
  unfold rem
  rw [ix_nat w k hk, wrap64 (by omega) (by omega), tmod_pos _ _ a3]
theorem sum_rem (total s : Int) : ∀ (w : List Int), s * sumZ (w.map fun x => total * x / s) + sumZ (w.map fun x => total * x % s) = total * sumZ w
  | [] => by simp [sumZ]
  | a :: w => by
    have := sum_rem total s w
    have h2 := Int.mul_ediv_add_emod (total * a) s
    simp only [List.map_cons, sumZ]
    rw [Int.mul_add, Int.mul_add]
    omega
theorem map_rg_get (w : List Int) (f : Int → Int) : (rg w.length).map (fun x => f (ix w x)) = w.map f := by
  rw [← map_rg w]
  simp only [List.map_map]
  have : (rg ((rg w.length).map (ix w)).length) = rg w.length := by simp [rg]
  rw [map_rg w]
  congr 1
theorem mem_take_idx {l : List Int} {m : Nat} {x : Int} (h : x ∈ l.take m) : ∃ p, ∃ hp : p < l.length, p < m ∧ l[p] = x := by
  obtain ⟨p, hp, rfl⟩ := List.getElem_of_mem h
  simp at hp
  exact ⟨p, by omega, by omega, by simp⟩
theorem add_loop (y : List Int) (ps : List Int) (hy : y.Nodup) (hb : ∀ x ∈ y, 0 ≤ x ∧ x < ps.length) (left : Nat) (hleft : left ≤ y.length) (hyl : y.length ≤ 1000) (hps : ∀ x ∈ ps, -1152921504606846976 ≤ x ∧ x ≤ 1152921504606846976) :
    ∃ a, iter (ratio_Apportion_l2 (left : Int) y) ((0 : Int), ps) = some a ∧ a.length = ps.length ∧ sumZ a = sumZ ps + left ∧ ∀ x : Nat, x < ps.length → ix a (x : Int) = ix ps (x : Int) + (if (x : Int) ∈ y.take left then 1 else 0) := by
  obtain ⟨a, e, g1, g2, g3⟩ := iter_inv (f := ratio_Apportion_l2 (left : Int) y)
    (fun s => ∃ k : Nat, s.1 = (k : Int) ∧ k ≤ left ∧ s.2.length = ps.length ∧ sumZ s.2 = sumZ ps + k ∧ ∀ x : Nat, x < ps.length → ix s.2 (x : Int) = ix ps (x : Int) + (if (x : Int) ∈ y.take k then 1 else 0)) (fun s => ((left : Int) - s.1).toNat)
    (fun a => a.length = ps.length ∧ sumZ a = sumZ ps + left ∧ ∀ x : Nat, x < ps.length → ix a (x : Int) = ix ps (x : Int) + (if (x : Int) ∈ y.take left then 1 else 0)) (by
      rintro ⟨x1, d⟩ ⟨k, h1, h2, h3, h4, h5⟩
      dsimp only at h1 h2 h3 h4 h5
      subst h1
      simp only [ratio_Apportion_l2]
      by_cases hk : k < left
      · left
        have hky : k < y.length := by omega
        obtain ⟨b1, b2⟩ := hb y[k] (List.getElem_mem hky)
        obtain ⟨n, hn⟩ : ∃ n : Nat, y[k] = (n : Int) := ⟨y[k].toNat, by omega⟩
        rw [show (decide ((k : Int) < (left : Int)) && decide ((k : Int) < (y.length : Int))) = true by simp; omega, cond_true, ix_nat y k hky, req_pos (by omega)]
        have hnot : ¬ (n : Int) ∈ y.take k := fun hm => by
          obtain ⟨p, hp, hpk, he⟩ := mem_take_idx hm
          rw [← hn] at he
          have := (List.getElem_inj hy).1 he
          omega
        have hdn := h5 n (by omega)
        rw [if_neg hnot] at hdn
        have hpn := hps (ix ps (n : Int)) (ix_mem ps (n : Int) (by omega) (by omega))
        rw [hn, i64_add1 k (by omega), wrap64 (n := ix d (n : Int) + 1) (by omega) (by omega)]
        refine ⟨_, rfl, ⟨k + 1, rfl, by omega, by rw [len_setI]; exact h3, ?_, fun x hx => ?_⟩, by show ((left : Int) - ((k + 1 : Nat) : Int)).toNat < ((left : Int) - (k : Int)).toNat; omega⟩
        · show sumZ (setI d (n : Int) (ix d (n : Int) + 1)) = _
          unfold setI
          rw [Int.toNat_natCast, sumZ_set _ _ _ (by omega), ix_nat d n (by omega), h4]; omega
        · show ix (setI d (n : Int) (ix d (n : Int) + 1)) (x : Int) = _
          rw [ix_setI _ _ _ _ (by omega)]
          have htk : y.take (k + 1) = y.take k ++ [(n : Int)] := by rw [List.take_succ_eq_append_getElem hky, hn]
          rw [htk]
          by_cases hxn : x = n
          · subst hxn
            rw [if_pos rfl, hdn, if_pos (by simp)]; omega
          · rw [if_neg hxn, h5 x hx]
            have : ((x : Int) ∈ y.take k ++ [(n : Int)]) ↔ (x : Int) ∈ y.take k := by
              simp only [List.mem_append, List.mem_singleton]
              constructor
              · rintro (h | h)
                · exact h
                · omega
              · exact .inl
            by_cases hm : (x : Int) ∈ y.take k
            · rw [if_pos hm, if_pos (this.2 hm)]
            · rw [if_neg hm, if_neg (fun h => hm (this.1 h))]
      · right
        have : k = left := by omega
        subst this
        rw [show (decide ((k : Int) < (k : Int)) && decide ((k : Int) < (y.length : Int))) = false by simp, cond_false]
        exact ⟨_, rfl, h3, h4, h5⟩) ((0 : Int), ps) ⟨0, rfl, by omega, rfl, by simp, fun x hx => by simp⟩
  exact ⟨a, e, g1, g2, g3⟩
/-- what Apportion gives -/
theorem apportion_ok (total : Int) (w : List Int) (s : Int) (h : Wt total w s) : ∃ a : List Int, ratio_Apportion total w = some (a, 0) ∧ a.length = w.length ∧ sumZ a = total ∧
    (∀ i (hi : i < w.length), total * w[i] - s < ix a (i : Int) * s ∧ ix a (i : Int) * s < total * w[i] + s) ∧
    (∀ i k (hi : i < w.length) (hk : k < w.length), w[k] < w[i] → ix a (k : Int) ≤ ix a (i : Int)) := by
  have hpos := h.pos; have hlen := h.len; have ht0 := h.t0; have ht1 := h.t1
  unfold ratio_Apportion
  rw [show decide ((100 : Int) < (w.length : Int)) = false by simp; omega, cond_false, show (decide (total < 0) || decide ((1073741824 : Int) < total)) = false by simp only [Bool.or_eq_false_iff, decide_eq_false_iff_not]; omega, cond_false]
  have hsum := sum_loop w h.ww (by omega) w.length 0 (by omega) (by omega)
  have hsum' : iter (ratio_Apportion_l6 w) ((0 : Int), (0 : Int)) = some (.inl (sumZ w)) := hsum
  rw [hsum', some_bind, h.sum]
  dsimp only
  unfold ratio_Apportion_j5
  rw [show (s == 0) = false by simp; omega, cond_false, req_pos (by omega), req_pos (by omega)]
  obtain ⟨left, ps, e1, hps, hleft⟩ := share_loop total w s h
  rw [e1, some_bind]
  dsimp only
  unfold ratio_Apportion_j3
  have hpl : ps.length = w.length := by rw [hps]; simp [shares]
  have hrgl : (rg w.length).length = w.length := by simp [rg]
  obtain ⟨y, e2, hp, hsrt⟩ := sort_eq total w s (by omega) (rg w.length) (fun x hx => mem_rg.1 hx) (by omega)
  rw [e2, some_bind]
  dsimp only
  have hyl : y.length = w.length := by rw [hp.length_eq, hrgl]
  rw [req_pos hp.length_eq]
  -- how much is left
  have hrem : ∀ x ∈ w, 0 ≤ total * x % s ∧ total * x % s < s := fun x hx => ⟨Int.emod_nonneg _ (by omega), Int.emod_lt_of_pos _ hpos⟩
  have hsr := sum_rem total s w
  rw [h.sum] at hsr
  have hR : sumZ (w.map fun x => total * x % s) = left * s := by
    have e : sumZ ps = sumZ (w.map fun x => total * x / s) := by rw [hps]; rfl
    rw [hleft, e, Int.sub_mul, Int.mul_comm (sumZ _) s]; omega
  obtain ⟨r0, r1⟩ := sumZ_le (w.map fun x => total * x % s) (s - 1) (fun x hx => by
    obtain ⟨z, hz, rfl⟩ := List.mem_map.1 hx
    have := hrem z hz; omega)
  rw [List.length_map] at r1
  have hl0 : 0 ≤ left := by
    rcases Int.lt_or_le left 0 with hn | hn
    · exfalso
      have := Int.mul_neg_of_neg_of_pos hn hpos
      omega
    · exact hn
  have hln : left ≤ w.length := by
    have h3 : left * s ≤ (w.length : Int) * s := by
      have : (s - 1) * (w.length : Int) ≤ (w.length : Int) * s := by rw [Int.sub_mul, Int.mul_comm s]; omega
      omega
    exact Int.le_of_mul_le_mul_right h3 hpos
  obtain ⟨L, hL⟩ : ∃ L : Nat, left = (L : Int) := ⟨left.toNat, by omega⟩
  have hnd : y.Nodup := by
    rw [hp.nodup_iff]
    unfold rg
    exact List.Pairwise.map _ (fun a b hab e => hab (by omega)) List.nodup_range
  have hyb : ∀ x ∈ y, 0 ≤ x ∧ x < w.length := fun x hx => mem_rg.1 (hp.mem_iff.1 hx)
  have hpsb : ∀ x ∈ ps, -1152921504606846976 ≤ x ∧ x ≤ 1152921504606846976 := by
    rw [hps]
    intro x hx
    obtain ⟨z, hz, rfl⟩ := List.mem_map.1 hx
    obtain ⟨k, hk, rfl⟩ := List.getElem_of_mem hz
    obtain ⟨a1, a2, a3, a4⟩ := h.at k hk
    exact div_between _ _ _ hpos (by omega) (by omega) (by decide)
  obtain ⟨a, e3, ha, hsa, hax⟩ := add_loop y ps hnd (fun x hx => by rw [hpl]; exact hyb x hx) L (by omega) (by omega) hpsb
  rw [hL, e3, some_bind]
  refine ⟨a, rfl, by omega, by rw [hsa]; omega, ?_, ?_⟩
  -- places
  all_goals
    have hq : ∀ i (hi : i < w.length), ix ps (i : Int) = total * w[i] / s := fun i hi => by
      rw [ix_nat ps i (by omega)]
      simp [hps, shares]
    have hfind : ∀ i : Nat, i < w.length → ∃ p, ∃ hp : p < y.length, y[p] = (i : Int) := fun i hi => by
      have : (i : Int) ∈ y := hp.mem_iff.2 (mem_rg.2 ⟨by omega, by omega⟩)
      obtain ⟨p, hp1, hp2⟩ := List.getElem_of_mem this
      exact ⟨p, hp1, hp2⟩
    have hsorted : ∀ p q (hpq : p < q) (hq' : q < y.length), rem total w s y[q] ≤ rem total w s y[p] := fun p q hpq hq' => by
      have := hsrt p q hpq (by omega)
      rw [ix_nat y q hq', ix_nat y p (by omega)] at this
      exact this
  · intro i hi
    have hdm := Int.mul_ediv_add_emod (total * w[i]) s
    obtain ⟨m0, m1⟩ := hrem w[i] (List.getElem_mem hi)
    have hai := hax i (by omega)
    rw [hq i hi] at hai
    rw [hai]
    by_cases hm : (i : Int) ∈ y.take L
    · rw [if_pos hm, Int.add_mul, Int.mul_comm (total * w[i] / s) s, Int.one_mul]
      refine ⟨by omega, ?_⟩
      -- its remainder is not 0
      have : 0 < total * w[i] % s := by
        rcases Int.lt_or_le 0 (total * w[i] % s) with h0 | h0
        · exact h0
        · exfalso
          obtain ⟨p, hp1, hp2, hp3⟩ := mem_take_idx hm
          have hz : ∀ q (hq' : q < y.length), p ≤ q → rem total w s y[q] ≤ 0 := fun q hq' hpq => by
            have e0 : rem total w s y[p] = total * w[i] % s := by rw [hp3, rem_eq h i hi]
            rcases Nat.lt_or_ge p q with h1 | h1
            · have := hsorted p q h1 hq'; omega
            · have : q = p := by omega
              subst this; omega
          -- the sum of the remainders is too small
          have hsumy : sumZ (y.map (rem total w s)) = left * s := by
            rw [← hR, ← map_rg_get w (fun x => total * x % s)]
            rw [sumZ_perm (hp.map (rem total w s))]
            congr 1
            apply List.map_congr_left
            intro x hx
            obtain ⟨x0, x1⟩ := mem_rg.1 hx
            obtain ⟨n, rfl⟩ : ∃ n : Nat, x = (n : Int) := ⟨x.toNat, by omega⟩
            rw [rem_eq h n (by omega), ix_nat w n (by omega)]
          have hsplit : sumZ (y.map (rem total w s)) = sumZ ((y.take p).map (rem total w s)) + sumZ ((y.drop p).map (rem total w s)) := by
            rw [← sumZ_append, ← List.map_append, List.take_append_drop]
          have hle1 : sumZ ((y.take p).map (rem total w s)) ≤ s * (p : Int) := by
            have := (sumZ_le ((y.take p).map (rem total w s)) s (fun x hx => by
              obtain ⟨z, hz1, rfl⟩ := List.mem_map.1 hx
              obtain ⟨z0, z1⟩ := hyb z (List.mem_of_mem_take hz1)
              obtain ⟨n, rfl⟩ : ∃ n : Nat, z = (n : Int) := ⟨z.toNat, by omega⟩
              rw [rem_eq h n (by omega)]
              have := hrem w[n] (List.getElem_mem (by omega)); omega)).2
            rw [List.length_map, List.length_take, Nat.min_eq_left (by omega)] at this
            exact this
          have hle2 : sumZ ((y.drop p).map (rem total w s)) ≤ 0 := by
            have := (sumZ_le ((y.drop p).map (rem total w s)) 0 (fun x hx => by
              obtain ⟨z, hz1, rfl⟩ := List.mem_map.1 hx
              have hz1' := List.mem_of_mem_drop hz1
              obtain ⟨z0, z1⟩ := hyb z hz1'
              obtain ⟨n, hn⟩ : ∃ n : Nat, z = (n : Int) := ⟨z.toNat, by omega⟩
              obtain ⟨q, hq1, hq2⟩ := List.getElem_of_mem hz1
              simp only [List.getElem_drop] at hq2
              have hq3 := hz (p + q) (by simp at hq1; omega) (by omega)
              rw [hq2] at hq3
              refine ⟨?_, hq3⟩
              rw [hn, rem_eq h n (by omega)]
              exact (hrem w[n] (List.getElem_mem (by omega))).1)).2
            simpa using this
          have hpl2 : (p : Int) + 1 ≤ left := by omega
          have h9 : s * ((p : Int) + 1) ≤ s * left := Int.mul_le_mul_of_nonneg_left hpl2 (by omega)
          rw [Int.mul_add, Int.mul_one] at h9
          rw [Int.mul_comm s left] at h9
          omega
      omega
    · rw [if_neg hm, Int.add_zero, Int.mul_comm (total * w[i] / s) s]
      omega
  · intro i k hi hk hwk
    have hai := hax i (by omega)
    have hak := hax k (by omega)
    rw [hq i hi] at hai
    rw [hq k hk] at hak
    obtain ⟨i1, i2, i3, i4⟩ := h.at i hi
    obtain ⟨k1, k2, k3, k4⟩ := h.at k hk
    have hle : total * w[k] ≤ total * w[i] := Int.mul_le_mul_of_nonneg_left (by omega) ht0
    have hqle : total * w[k] / s ≤ total * w[i] / s := Int.ediv_le_ediv hpos hle
    rw [hai, hak]
    by_cases hmi : (i : Int) ∈ y.take L
    · rw [if_pos hmi]; split <;> omega
    · rw [if_neg hmi]
      by_cases hmk : (k : Int) ∈ y.take L
      · rw [if_pos hmk]
        rcases Int.lt_or_le (total * w[k] / s) (total * w[i] / s) with hlt | hge
        · omega
        · exfalso
          have heq : total * w[k] / s = total * w[i] / s := by omega
          obtain ⟨p, hp1, hp2, hp3⟩ := mem_take_idx hmk
          obtain ⟨q, hq1, hq2⟩ := hfind i hi
          have hqL : L ≤ q := by
            rcases Nat.lt_or_ge q L with hx | hx
            · exact absurd (by rw [← hq2]; exact List.mem_take_iff_getElem.2 ⟨q, by omega, rfl⟩) hmi
            · exact hx
          have hs1 := hsorted p q (by omega) hq1
          rw [hq2, hp3, rem_eq h i hi, rem_eq h k hk] at hs1
          have d1 := Int.mul_ediv_add_emod (total * w[i]) s
          have d2 := Int.mul_ediv_add_emod (total * w[k]) s
          rw [heq] at d2
          -- total is positive, as something is left
          have htp : 0 < total := by
            rcases Int.lt_or_le 0 total with hx | hx
            · exact hx
            · exfalso
              have : total = 0 := by omega
              have hl2 : left * s = 0 := by
                rw [← hR, this]
                have : sumZ (w.map fun x => (0 : Int) * x % s) = 0 := sumZ_zero _ fun x hx => by
                  obtain ⟨z, _, rfl⟩ := List.mem_map.1 hx
                  simp
                exact this
              have : left = 0 := by
                rcases Int.mul_eq_zero.1 hl2 with hz | hz
                · exact hz
                · omega
              omega
          have hlt := Int.mul_lt_mul_of_pos_left hwk htp
          omega
      · rw [if_neg hmk]; omega
end Go.LS
