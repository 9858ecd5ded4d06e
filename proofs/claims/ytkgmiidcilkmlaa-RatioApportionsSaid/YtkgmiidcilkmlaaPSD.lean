/-
  slices.SortStableFunc over the indices 0, 1, .. : the indices in the order of their remainders.
  Conditions: at most 100 of them.
-/
import Derived.Test.YtkgmiidcilkmlaaPSC
namespace Go.LS
set_option linter.all false
set_option linter.unusedSimpArgs false
set_option linter.unusedVariables false
set_option maxRecDepth 20000

def rg (k : Nat) : List Int := (List.range k).map fun (j : Nat) => (j : Int)
theorem rg_succ (k : Nat) : rg (k + 1) = rg k ++ [(k : Int)] := by simp [rg, List.range_succ]
theorem mem_rg {k : Nat} {x : Int} : x ∈ rg k ↔ 0 ≤ x ∧ x < k := by
  simp only [rg, List.mem_map, List.mem_range]
  constructor
  · rintro ⟨a, h, rfl⟩; omega
  · rintro ⟨h1, h2⟩; exact ⟨x.toNat, by omega, by omega⟩
theorem rg_len (k : Nat) : (rg k).length = k := by simp [rg]
def sg (a b : Nat) : List Int := (rg b).drop a
theorem sg_get (a b i : Nat) (h : i < (sg a b).length) : (sg a b)[i] = ((a + i : Nat) : Int) := by
  simp [sg, rg]
theorem sg_len (a b : Nat) : (sg a b).length = b - a := by simp [sg, rg]
theorem mem_sg {a b : Nat} {x : Int} : x ∈ sg a b ↔ (a : Int) ≤ x ∧ x < b := by
  constructor
  · intro h
    obtain ⟨i, hi, rfl⟩ := List.getElem_of_mem h
    rw [sg_get]
    rw [sg_len] at hi
    omega
  · rintro ⟨h1, h2⟩
    have : (sg a b)[x.toNat - a]'(by rw [sg_len]; omega) = x := by rw [sg_get]; omega
    rw [← this]; exact List.getElem_mem _
theorem sg_inc (a b : Nat) : (sg a b).Pairwise (· < ·) := by
  rw [List.pairwise_iff_getElem]
  intro i j hi hj hij
  rw [sg_get, sg_get]; omega
theorem sg_split (a m b : Nat) (h1 : a ≤ m) (h2 : m ≤ b) : sg a b = sg a m ++ sg m b := by
  apply List.ext_getElem
  · simp [sg_len]; omega
  · intro i hi hj
    rw [sg_get]
    by_cases h : i < (sg a m).length
    · rw [List.getElem_append_left h, sg_get]
    · rw [List.getElem_append_right (by omega), sg_get, sg_len]
      rw [sg_len] at h; omega
theorem sg_nil (a b : Nat) (h : b ≤ a) : sg a b = [] := List.eq_nil_of_length_eq_zero (by rw [sg_len]; omega)
theorem sg_zero (b : Nat) : sg 0 b = rg b := rfl
/-- from a on: sorted blocks of B -/
inductive Bks (K : Int → Int) (N B : Nat) : Nat → List Int → Prop
  | done {a : Nat} (h : N ≤ a) : Bks K N B a []
  | step {a : Nat} {S d : List Int} (h : a < N) (hp : S.Perm (sg a (min (a + B) N))) (hs : Srt K S) (hd : Bks K N B (a + B) d) : Bks K N B a (S ++ d)
section
variable (c : Int) (w : List Int) (s : Int)
theorem blocks20 (hs : s ≠ 0) (hw : w.length ≤ 100) : ∀ (m a : Nat) (X : List Int), w.length - a ≤ m → X.length = a → a ≤ w.length →
    ∃ (a' : Nat) (D : List Int), iter (slices_stableCmpFunc_int_ratio_Apportion_f1_l6 (w.length : Int) c w s) ((a : Int), ((a + 20 : Nat) : Int), X ++ sg a w.length) = some ((a' : Int), X ++ D ++ sg a' w.length) ∧ w.length < a' + 20 ∧ a' ≤ w.length ∧ a ≤ a' ∧ D.length = a' - a ∧
      ∀ E, Bks (keyP c w s) w.length 20 a' E → Bks (keyP c w s) w.length 20 a (D ++ E) := by
  intro m
  induction m using Nat.strongRecOn with
  | ind m ih =>
    intro a X h1 h2 h3
    by_cases h : a + 20 ≤ w.length
    · obtain ⟨S, k1, k2, k3⟩ := ins_sort2 c w s hs X (sg a (a + 20)) (sg (a + 20) w.length) (fun y hy => by have := mem_sg.1 hy; omega) (sg_inc _ _) (by rw [sg_len]; omega)
      have hSl : S.length = 20 := by rw [k2.length_eq, sg_len]; omega
      obtain ⟨a', D, g1, g2, g3, g4, g5, g6⟩ := ih (w.length - (a + 20)) (by omega) (a + 20) (X ++ S) (Nat.le_refl _) (by rw [List.length_append]; omega) h
      refine ⟨a', S ++ D, ?_, g2, g3, by omega, by rw [List.length_append]; omega, fun E hE => ?_⟩
      · rw [show X ++ (S ++ D) ++ sg a' w.length = X ++ S ++ D ++ sg a' w.length by simp, ← g1]
        refine iter_inl ?_
        simp only [slices_stableCmpFunc_int_ratio_Apportion_f1_l6]
        rw [sg_len, show (X.length + (a + 20 - a) : Nat) = a + 20 by omega, h2] at k1
        rw [show decide (((a + 20 : Nat) : Int) ≤ (w.length : Int)) = true by rw [decide_eq_true_eq]; omega, cond_true, sg_split a (a + 20) w.length (by omega) h, ← List.append_assoc, k1, sbind, req_pos (by simp only [List.length_append, hSl, sg_len]; omega), wrap64 (by omega) (by omega)]
        rfl
      · rw [List.append_assoc]
        exact .step (by omega) (by rw [Nat.min_eq_left h]; exact k2) k3 (g6 E hE)
    · refine ⟨a, [], iter_inr ?_, by omega, h3, Nat.le_refl _, by simp, fun E hE => hE⟩
      simp only [slices_stableCmpFunc_int_ratio_Apportion_f1_l6]
      rw [show decide (((a + 20 : Nat) : Int) ≤ (w.length : Int)) = false by rw [decide_eq_false_iff_not]; omega, cond_false]
      simp
theorem merge_call (hs : s ≠ 0) (X S1 S2 Y : List Int) (a m b : Nat) (ha : X.length = a) (h1 : a < m) (h2 : m < b) (hb : b ≤ w.length) (hw : w.length ≤ 100) (p1 : S1.Perm (sg a m)) (p2 : S2.Perm (sg m b)) (q1 : Srt (keyP c w s) S1) (q2 : Srt (keyP c w s) S2) :
    ∃ S, slices_symMergeCmpFunc_int_ratio_Apportion_f1 1000 (X ++ S1 ++ S2 ++ Y) (a : Int) (m : Int) (b : Int) c w s = some (X ++ S ++ Y) ∧ S.Perm (sg a b) ∧ Srt (keyP c w s) S := by
  have l1 : S1.length = m - a := by rw [p1.length_eq, sg_len]
  have l2 : S2.length = b - m := by rw [p2.length_eq, sg_len]
  obtain ⟨S, k1, k2, k3⟩ := merge_ok c w s hs 1000 X S1 S2 Y (by omega) (by omega) (by omega) (fun y hy => by
    rcases List.mem_append.1 hy with hy | hy
    · have := mem_sg.1 (p1.mem_iff.1 hy); omega
    · have := mem_sg.1 (p2.mem_iff.1 hy); omega) q1 q2 (fun x hx y hy _ => by
      have := mem_sg.1 (p1.mem_iff.1 hx)
      have := mem_sg.1 (p2.mem_iff.1 hy)
      omega) (by omega)
  rw [show (X.length + S1.length + S2.length : Nat) = b by omega, show (X.length + S1.length : Nat) = m by omega, ha] at k1
  refine ⟨S, k1, ?_, k3⟩
  rw [sg_split a m b (by omega) (by omega)]
  exact k2.trans (p1.append p2)
theorem pass (hs : s ≠ 0) (hw : w.length ≤ 100) (B : Nat) (hB : 1 ≤ B) (hB2 : B ≤ 1000) : ∀ (m a : Nat) (X D : List Int), w.length - a ≤ m → X.length = a → a ≤ w.length → Bks (keyP c w s) w.length B a D →
    ∃ (a' : Nat) (D1 D2 : List Int), iter (slices_stableCmpFunc_int_ratio_Apportion_f1_l3 (w.length : Int) c w s (B : Int)) ((a : Int), ((a + 2 * B : Nat) : Int), X ++ D) = some ((a' : Int), X ++ D1 ++ D2) ∧ w.length < a' + 2 * B ∧ a' ≤ w.length ∧ a ≤ a' ∧ D1.length = a' - a ∧ Bks (keyP c w s) w.length B a' D2 ∧
      ∀ E, Bks (keyP c w s) w.length (2 * B) a' E → Bks (keyP c w s) w.length (2 * B) a (D1 ++ E) := by
  intro m
  induction m using Nat.strongRecOn with
  | ind m ih =>
    intro a X D h1 h2 h3 h4
    by_cases h : a + 2 * B ≤ w.length
    · cases h4 with
      | done hd => omega
      | @step _ S1 d1 b1 p1 q1 hd1 =>
        rw [Nat.min_eq_left (by omega)] at p1
        cases hd1 with
        | done hd => omega
        | @step _ S2 d2 b2 p2 q2 hd2 =>
          rw [Nat.min_eq_left (by omega)] at p2
          rw [show a + B + B = a + 2 * B by omega] at p2 hd2
          obtain ⟨S, k1, k2, k3⟩ := merge_call c w s hs X S1 S2 d2 a (a + B) (a + 2 * B) h2 (by omega) (by omega) h hw p1 p2 q1 q2
          have hSl : S.length = 2 * B := by rw [k2.length_eq, sg_len]; omega
          have l1 : S1.length = B := by rw [p1.length_eq, sg_len]; omega
          have l2 : S2.length = B := by rw [p2.length_eq, sg_len]; omega
          obtain ⟨a', D1, D2, g1, g2, g3, g4, g5, g6, g7⟩ := ih (w.length - (a + 2 * B)) (by omega) (a + 2 * B) (X ++ S) d2 (Nat.le_refl _) (by rw [List.length_append]; omega) h hd2
          refine ⟨a', S ++ D1, D2, ?_, g2, g3, by omega, by rw [List.length_append]; omega, g6, fun E hE => ?_⟩
          · rw [show X ++ (S ++ D1) ++ D2 = X ++ S ++ D1 ++ D2 by simp, ← g1]
            refine iter_inl ?_
            simp only [slices_stableCmpFunc_int_ratio_Apportion_f1_l3]
            rw [show decide (((a + 2 * B : Nat) : Int) ≤ (w.length : Int)) = true by rw [decide_eq_true_eq]; omega, cond_true, show IntKind.i64.wrap ((a : Int) + (B : Int)) = ((a + B : Nat) : Int) by rw [wrap64 (by omega) (by omega)]; omega, show X ++ (S1 ++ (S2 ++ d2)) = X ++ S1 ++ S2 ++ d2 by simp, k1, sbind, req_pos (by simp only [List.length_append, hSl, l1, l2]; omega),
              show IntKind.i64.wrap ((2 : Int) * (B : Int)) = ((2 * B : Nat) : Int) by rw [wrap64 (by omega) (by omega)]; omega, show IntKind.i64.wrap (((a + 2 * B : Nat) : Int) + ((2 * B : Nat) : Int)) = ((a + 2 * B + 2 * B : Nat) : Int) by rw [wrap64 (by omega) (by omega)]; omega]
          · rw [List.append_assoc]
            exact .step (by omega) (by rw [Nat.min_eq_left h]; exact k2) k3 (g7 E hE)
    · refine ⟨a, [], D, iter_inr ?_, by omega, h3, Nat.le_refl _, by simp, h4, fun E hE => hE⟩
      simp only [slices_stableCmpFunc_int_ratio_Apportion_f1_l3]
      rw [show decide (((a + 2 * B : Nat) : Int) ≤ (w.length : Int)) = false by rw [decide_eq_false_iff_not]; omega, cond_false]
      simp
theorem bks_len {K : Int → Int} {N B : Nat} (hB : 1 ≤ B) {a : Nat} {d : List Int} (h : Bks K N B a d) : d.length = N - a := by
  induction h with
  | done h => simp; omega
  | step h hp hs hd ih => rw [List.length_append, hp.length_eq, sg_len, ih]; omega
theorem round_ok (hs : s ≠ 0) (hw : w.length ≤ 100) (B : Nat) (hB : 1 ≤ B) (hB2 : B ≤ 1000) (hBN : B < w.length) (d : List Int) (hd : Bks (keyP c w s) w.length B 0 d) :
    ∃ d', slices_stableCmpFunc_int_ratio_Apportion_f1_l4 (w.length : Int) c w s ((B : Int), d) = some (.inl (((2 * B : Nat) : Int), d')) ∧ Bks (keyP c w s) w.length (2 * B) 0 d' := by
  obtain ⟨a, D1, D2, g1, g2, g3, g4, g5, g6, g7⟩ := pass c w s hs hw B hB hB2 w.length 0 [] d (by omega) rfl (by omega) hd
  rw [show ([] ++ d : List Int) = d from rfl, Nat.zero_add] at g1
  rw [show ([] ++ D1 ++ D2 : List Int) = D1 ++ D2 from rfl] at g1
  simp only [slices_stableCmpFunc_int_ratio_Apportion_f1_l4]
  rw [show decide ((B : Int) < (w.length : Int)) = true by rw [decide_eq_true_eq]; omega, cond_true, show IntKind.i64.wrap ((2 : Int) * (B : Int)) = ((2 * B : Nat) : Int) by rw [wrap64 (by omega) (by omega)]; omega]
  rw [show ((0 : Int), ((2 * B : Nat) : Int), d) = (((0 : Nat) : Int), ((2 * B : Nat) : Int), d) from rfl, g1, sbind]
  dsimp only
  unfold slices_stableCmpFunc_int_ratio_Apportion_f1_j2 slices_stableCmpFunc_int_ratio_Apportion_f1_j1
  have hw2 : IntKind.i64.wrap ((B : Int) * 2) = ((2 * B : Nat) : Int) := by rw [wrap64 (by omega) (by omega)]; omega
  have hab : IntKind.i64.wrap ((a : Int) + (B : Int)) = ((a + B : Nat) : Int) := by rw [wrap64 (by omega) (by omega)]; omega
  rw [hw2, hab]
  have hlD := bks_len hB g6
  by_cases h : a + B < w.length
  · cases g6 with
    | done hd => omega
    | @step _ S1 d1 b1 p1 q1 hd1 =>
      rw [Nat.min_eq_left (by omega)] at p1
      cases hd1 with
      | done hd => omega
      | @step _ S2 d2 b2 p2 q2 hd2 =>
        rw [Nat.min_eq_right (by omega)] at p2
        cases hd2 with
        | step hx => omega
        | done hx =>
          obtain ⟨S, k1, k2, k3⟩ := merge_call c w s hs D1 S1 S2 [] a (a + B) w.length (by omega) (by omega) h (Nat.le_refl _) hw p1 p2 q1 q2
          refine ⟨D1 ++ S, ?_, g7 S ?_⟩
          · rw [show decide (((a + B : Nat) : Int) < (w.length : Int)) = true by rw [decide_eq_true_eq]; omega, cond_true, show D1 ++ (S1 ++ (S2 ++ [])) = D1 ++ S1 ++ S2 ++ [] by simp, k1, sbind, req_pos (by
              have e1 := p1.length_eq
              have e2 := p2.length_eq
              have e3 := k2.length_eq
              rw [sg_len] at e1 e2 e3
              simp only [List.length_append, List.length_nil]; omega)]
            simp
          · have : Bks (keyP c w s) w.length (2 * B) a (S ++ []) := .step (by omega) (by rw [Nat.min_eq_right (by omega)]; exact k2) k3 (.done (by omega))
            simpa using this
  · refine ⟨D1 ++ D2, ?_, g7 D2 ?_⟩
    · rw [show decide (((a + B : Nat) : Int) < (w.length : Int)) = false by rw [decide_eq_false_iff_not]; omega, cond_false]
    · cases g6 with
      | done hd => exact .done hd
      | @step _ S1 d1 b1 p1 q1 hd1 =>
        rw [Nat.min_eq_right (by omega)] at p1
        cases hd1 with
        | step hx => omega
        | done hx => exact .step b1 (by rw [Nat.min_eq_right (by omega)]; exact p1) q1 (.done (by omega))
theorem rounds_ok (hs : s ≠ 0) (hw : w.length ≤ 100) : ∀ (m B : Nat) (d : List Int), w.length - B ≤ m → 1 ≤ B → B ≤ 200 → Bks (keyP c w s) w.length B 0 d →
    ∃ d', iter (slices_stableCmpFunc_int_ratio_Apportion_f1_l4 (w.length : Int) c w s) ((B : Int), d) = some d' ∧ d'.Perm (rg w.length) ∧ Srt (keyP c w s) d' := by
  intro m
  induction m using Nat.strongRecOn with
  | ind m ih =>
    intro B d h1 h2 h3 h4
    by_cases h : B < w.length
    · obtain ⟨d', e, hb⟩ := round_ok c w s hs hw B h2 (by omega) h d h4
      obtain ⟨d2, k1, k2, k3⟩ := ih (w.length - 2 * B) (by omega) (2 * B) d' (Nat.le_refl _) (by omega) (by omega) hb
      exact ⟨d2, by rw [iter_inl e]; exact k1, k2, k3⟩
    · refine ⟨d, iter_inr ?_, ?_, ?_⟩
      · simp only [slices_stableCmpFunc_int_ratio_Apportion_f1_l4]
        rw [show decide ((B : Int) < (w.length : Int)) = false by rw [decide_eq_false_iff_not]; omega, cond_false]
      · cases h4 with
        | done hx =>
          have : w.length = 0 := by omega
          rw [this]; exact List.Perm.refl _
        | @step _ S1 d1 b1 p1 q1 hd1 =>
          cases hd1 with
          | step hx => omega
          | done hx =>
            rw [Nat.min_eq_right (by omega), sg_zero] at p1
            simpa using p1
      · cases h4 with
        | done hx => exact List.Pairwise.nil
        | @step _ S1 d1 b1 p1 q1 hd1 =>
          cases hd1 with
          | step hx => omega
          | done hx => simpa using q1
theorem sort_ok (hs : s ≠ 0) (hw : w.length ≤ 100) : ∃ y, slices_SortStableFunc_intint_ratio_Apportion_f1 (rg w.length) c w s = some y ∧ y.Perm (rg w.length) ∧ Srt (keyP c w s) y := by
  unfold slices_SortStableFunc_intint_ratio_Apportion_f1 slices_stableCmpFunc_int_ratio_Apportion_f1
  obtain ⟨a, D, g1, g2, g3, g4, g5, g6⟩ := blocks20 c w s hs hw w.length 0 [] (by omega) rfl (by omega)
  rw [rg_len]
  have g1' : iter (slices_stableCmpFunc_int_ratio_Apportion_f1_l6 (w.length : Int) c w s) ((0 : Int), (20 : Int), rg w.length) = some ((a : Int), D ++ sg a w.length) := g1
  rw [g1', sbind]
  dsimp only
  unfold slices_stableCmpFunc_int_ratio_Apportion_f1_j5
  obtain ⟨E, k1, k2, k3⟩ := ins_sort2 c w s hs D (sg a w.length) [] (fun y hy => by have := mem_sg.1 hy; omega) (sg_inc _ _) (by rw [sg_len]; omega)
  rw [sg_len, show (D.length + (w.length - a) : Nat) = w.length by omega, show D.length = a by omega, List.append_nil, List.append_nil] at k1
  have hE : Bks (keyP c w s) w.length 20 a E := by
    by_cases h : a < w.length
    · have : Bks (keyP c w s) w.length 20 a (E ++ []) := .step h (by rw [Nat.min_eq_right (by omega)]; exact k2) k3 (.done (by omega))
      simpa using this
    · have : E = [] := by
        have := k2.length_eq
        rw [sg_len] at this
        exact List.eq_nil_of_length_eq_zero (by omega)
      rw [this]; exact .done (by omega)
  obtain ⟨y, m1, m2, m3⟩ := rounds_ok c w s hs hw _ 20 (D ++ E) (Nat.le_refl _) (by omega) (by omega) (g6 E hE)
  rw [k1, sbind, req_pos (by have := k2.length_eq; simp only [List.length_append]; omega), show ((20 : Int), D ++ E) = (((20 : Nat) : Int), D ++ E) from rfl, m1, sbind, sbind, req_pos (by rw [m2.length_eq, rg_len])]
  exact ⟨y, rfl, m2, m3⟩
end
end Go.LS
