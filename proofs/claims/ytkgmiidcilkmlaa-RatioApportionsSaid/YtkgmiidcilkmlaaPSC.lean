/-
  slices.symMergeCmpFunc, whole.
  Conditions: the indices lie within the weights; at most 1000 of them.
-/
import Derived.Test.YtkgmiidcilkmlaaPSB
namespace Go.LS
set_option linter.all false
set_option linter.unusedSimpArgs false
set_option linter.unusedVariables false
set_option maxRecDepth 20000

section
variable (c : Int) (w : List Int) (s : Int)
/-- what the recursion does for shorter segments -/
def RecOK (rec_ : (List Int) → Int → Int → Int → Int → (List Int) → Int → Option (List Int)) (N : Nat) : Prop :=
  ∀ (X L R Y : List Int), 1 ≤ L.length → 1 ≤ R.length → L.length + R.length < N → (∀ y ∈ L ++ R, 0 ≤ y ∧ y < (w.length : Int)) → Srt (keyP c w s) L → Srt (keyP c w s) R → Crs (keyP c w s) L R → X.length + L.length + R.length ≤ 1000 →
    ∃ S, rec_ (X ++ L ++ R ++ Y) (X.length : Int) ((X.length + L.length : Nat) : Int) ((X.length + L.length + R.length : Nat) : Int) c w s = some (X ++ S ++ Y) ∧ S.Perm (L ++ R) ∧ Srt (keyP c w s) S
theorem merge_tail (rec_ : (List Int) → Int → Int → Int → Int → (List Int) → Int → Option (List Int)) (X L1 L2 R1 R2 Y : List Int) (N : Nat) (hN : L1.length + L2.length + R1.length + R2.length = N) (hrec : RecOK c w s rec_ N)
    (hb : ∀ y ∈ (L1 ++ L2) ++ (R1 ++ R2), 0 ≤ y ∧ y < (w.length : Int)) (hL : Srt (keyP c w s) (L1 ++ L2)) (hR : Srt (keyP c w s) (R1 ++ R2)) (hcr : Crs (keyP c w s) (L1 ++ L2) (R1 ++ R2)) (hlen : X.length + N ≤ 1000)
    (hx1 : ∀ x ∈ L1, ∀ y ∈ R2, RR (keyP c w s) x y) (hx2 : ∀ y ∈ R1, ∀ x ∈ L2, RR (keyP c w s) y x) (h1 : 1 ≤ L1.length + L2.length) (h2 : 1 ≤ R1.length + R2.length) (hmid : X.length + L1.length + R1.length = (X.length + (X.length + N)) / 2) :
    ∃ S, slices_symMergeCmpFunc_int_ratio_Apportion_f1_j3 (X ++ (L1 ++ L2) ++ (R1 ++ R2) ++ Y) (X.length : Int) ((X.length + (L1.length + L2.length) : Nat) : Int) ((X.length + N : Nat) : Int) c w s rec_ ((X.length + L1.length + R1.length : Nat) : Int) ((X.length + L1.length : Nat) : Int) = some (X ++ S ++ Y) ∧ S.Perm ((L1 ++ L2) ++ (R1 ++ R2)) ∧ Srt (keyP c w s) S := by
  obtain ⟨l1, l2, l3⟩ := List.pairwise_append.1 hL
  obtain ⟨r1, r2, r3⟩ := List.pairwise_append.1 hR
  have hend : IntKind.i64.wrap (IntKind.i64.wrap (((X.length + L1.length + R1.length : Nat) : Int) + ((X.length + (L1.length + L2.length) : Nat) : Int)) - ((X.length + L1.length : Nat) : Int)) = ((X.length + (L1.length + L2.length) + R1.length : Nat) : Int) := by
    rw [wrap64 (n := ((X.length + L1.length + R1.length : Nat) : Int) + ((X.length + (L1.length + L2.length) : Nat) : Int)) (by omega) (by omega), wrap64 (by omega) (by omega)]; omega
  have hend2 : ((X.length + (L1.length + L2.length) + R1.length : Nat) : Int) = ((X.length + L1.length + R1.length + L2.length : Nat) : Int) := by omega
  -- the rotation
  have hj3 : slices_symMergeCmpFunc_int_ratio_Apportion_f1_j3 (X ++ (L1 ++ L2) ++ (R1 ++ R2) ++ Y) (X.length : Int) ((X.length + (L1.length + L2.length) : Nat) : Int) ((X.length + N : Nat) : Int) c w s rec_ ((X.length + L1.length + R1.length : Nat) : Int) ((X.length + L1.length : Nat) : Int) =
      slices_symMergeCmpFunc_int_ratio_Apportion_f1_j2 (X.length : Int) ((X.length + (L1.length + L2.length) : Nat) : Int) ((X.length + N : Nat) : Int) c w s rec_ ((X.length + L1.length + R1.length : Nat) : Int) ((X.length + L1.length : Nat) : Int) (X ++ L1 ++ R1 ++ L2 ++ R2 ++ Y) := by
    unfold slices_symMergeCmpFunc_int_ratio_Apportion_f1_j3
    rw [hend]
    by_cases hne : 1 ≤ L2.length ∧ 1 ≤ R1.length
    · have hro := rotate_eq c w s (X ++ L1) L2 R1 (R2 ++ Y) hne.1 hne.2 (by rw [List.length_append]; omega)
      rw [List.length_append] at hro
      rw [show (decide (((X.length + L1.length : Nat) : Int) < ((X.length + (L1.length + L2.length) : Nat) : Int)) && decide (((X.length + (L1.length + L2.length) : Nat) : Int) < ((X.length + (L1.length + L2.length) + R1.length : Nat) : Int))) = true by
        rw [Bool.and_eq_true, decide_eq_true_eq, decide_eq_true_eq]; omega, cond_true]
      rw [show X ++ (L1 ++ L2) ++ (R1 ++ R2) ++ Y = X ++ L1 ++ L2 ++ R1 ++ (R2 ++ Y) by simp]
      rw [show (X.length + (L1.length + L2.length) : Nat) = X.length + L1.length + L2.length by omega, hro, sbind, req_pos (by simp; omega)]
      rw [show X ++ L1 ++ R1 ++ L2 ++ (R2 ++ Y) = X ++ L1 ++ R1 ++ L2 ++ R2 ++ Y by simp]
    · rw [show (decide (((X.length + L1.length : Nat) : Int) < ((X.length + (L1.length + L2.length) : Nat) : Int)) && decide (((X.length + (L1.length + L2.length) : Nat) : Int) < ((X.length + (L1.length + L2.length) + R1.length : Nat) : Int))) = false by
        rw [Bool.and_eq_false_iff, decide_eq_false_iff_not, decide_eq_false_iff_not]; omega, cond_false]
      congr 1
      rcases Nat.eq_zero_or_pos L2.length with h | h
      · have : L2 = [] := List.eq_nil_of_length_eq_zero h
        subst this; simp
      · have : R1 = [] := List.eq_nil_of_length_eq_zero (by omega)
        subst this; simp
  rw [hj3]
  -- the first half
  have hj2 : ∃ S1, slices_symMergeCmpFunc_int_ratio_Apportion_f1_j2 (X.length : Int) ((X.length + (L1.length + L2.length) : Nat) : Int) ((X.length + N : Nat) : Int) c w s rec_ ((X.length + L1.length + R1.length : Nat) : Int) ((X.length + L1.length : Nat) : Int) (X ++ L1 ++ R1 ++ L2 ++ R2 ++ Y) =
      slices_symMergeCmpFunc_int_ratio_Apportion_f1_j1 ((X.length + (L1.length + L2.length) : Nat) : Int) ((X.length + N : Nat) : Int) c w s rec_ ((X.length + L1.length + R1.length : Nat) : Int) ((X.length + L1.length : Nat) : Int) (X ++ S1 ++ L2 ++ R2 ++ Y) ∧ S1.Perm (L1 ++ R1) ∧ Srt (keyP c w s) S1 := by
    unfold slices_symMergeCmpFunc_int_ratio_Apportion_f1_j2
    by_cases hne : 1 ≤ L1.length ∧ 1 ≤ R1.length
    · obtain ⟨S1, k1, k2, k3⟩ := hrec X L1 R1 (L2 ++ R2 ++ Y) hne.1 hne.2 (by omega) (fun y hy => hb y (by
        rcases List.mem_append.1 hy with hy | hy
        · simp [hy]
        · simp [hy])) l1 r1 (fun x hx y hy => hcr x (by simp [hx]) y (by simp [hy])) (by omega)
      refine ⟨S1, ?_, k2, k3⟩
      rw [show (decide ((X.length : Int) < ((X.length + L1.length : Nat) : Int)) && decide (((X.length + L1.length : Nat) : Int) < ((X.length + L1.length + R1.length : Nat) : Int))) = true by
        rw [Bool.and_eq_true, decide_eq_true_eq, decide_eq_true_eq]; omega, cond_true, show X ++ L1 ++ R1 ++ L2 ++ R2 ++ Y = X ++ L1 ++ R1 ++ (L2 ++ R2 ++ Y) by simp, k1, sbind, req_pos (by have := k2.length_eq; simp at this ⊢; omega)]
      rw [show X ++ S1 ++ (L2 ++ R2 ++ Y) = X ++ S1 ++ L2 ++ R2 ++ Y by simp]
    · refine ⟨L1 ++ R1, ?_, List.Perm.refl _, ?_⟩
      · rw [show (decide ((X.length : Int) < ((X.length + L1.length : Nat) : Int)) && decide (((X.length + L1.length : Nat) : Int) < ((X.length + L1.length + R1.length : Nat) : Int))) = false by
          rw [Bool.and_eq_false_iff, decide_eq_false_iff_not, decide_eq_false_iff_not]; omega, cond_false]
        simp
      · rcases Nat.eq_zero_or_pos L1.length with h | h
        · have : L1 = [] := List.eq_nil_of_length_eq_zero h
          subst this; simpa using r1
        · have : R1 = [] := List.eq_nil_of_length_eq_zero (by omega)
          subst this; simpa using l1
  obtain ⟨S1, hj2, p1, q1⟩ := hj2
  rw [hj2]
  have hS1 := p1.length_eq
  rw [List.length_append] at hS1
  have hj1 : ∃ S2, slices_symMergeCmpFunc_int_ratio_Apportion_f1_j1 ((X.length + (L1.length + L2.length) : Nat) : Int) ((X.length + N : Nat) : Int) c w s rec_ ((X.length + L1.length + R1.length : Nat) : Int) ((X.length + L1.length : Nat) : Int) (X ++ S1 ++ L2 ++ R2 ++ Y) = some (X ++ S1 ++ S2 ++ Y) ∧ S2.Perm (L2 ++ R2) ∧ Srt (keyP c w s) S2 := by
    unfold slices_symMergeCmpFunc_int_ratio_Apportion_f1_j1
    rw [hend, hend2]
    by_cases hne : 1 ≤ L2.length ∧ 1 ≤ R2.length
    · obtain ⟨S2, k1, k2, k3⟩ := hrec (X ++ S1) L2 R2 Y hne.1 hne.2 (by omega) (fun y hy => hb y (by
        rcases List.mem_append.1 hy with hy | hy
        · simp [hy]
        · simp [hy])) l2 r2 (fun x hx y hy => hcr x (by simp [hx]) y (by simp [hy])) (by rw [List.length_append]; omega)
      refine ⟨S2, ?_, k2, k3⟩
      rw [List.length_append] at k1
      rw [show (decide (((X.length + L1.length + R1.length : Nat) : Int) < ((X.length + L1.length + R1.length + L2.length : Nat) : Int)) && decide (((X.length + L1.length + R1.length + L2.length : Nat) : Int) < ((X.length + N : Nat) : Int))) = true by
        rw [Bool.and_eq_true, decide_eq_true_eq, decide_eq_true_eq]; omega, cond_true, show (X.length + L1.length + R1.length : Nat) = X.length + S1.length by omega, show (X.length + N : Nat) = X.length + S1.length + L2.length + R2.length by omega, k1, sbind, req_pos (by have := k2.length_eq; simp at this ⊢; omega)]
    · refine ⟨L2 ++ R2, ?_, List.Perm.refl _, ?_⟩
      · rw [show (decide (((X.length + L1.length + R1.length : Nat) : Int) < ((X.length + L1.length + R1.length + L2.length : Nat) : Int)) && decide (((X.length + L1.length + R1.length + L2.length : Nat) : Int) < ((X.length + N : Nat) : Int))) = false by
          rw [Bool.and_eq_false_iff, decide_eq_false_iff_not, decide_eq_false_iff_not]; omega, cond_false]
        simp
      · rcases Nat.eq_zero_or_pos L2.length with h | h
        · have : L2 = [] := List.eq_nil_of_length_eq_zero h
          subst this; simpa using r2
        · have : R2 = [] := List.eq_nil_of_length_eq_zero (by omega)
          subst this; simpa using l2
  obtain ⟨S2, hj1, p2, q2⟩ := hj1
  refine ⟨S1 ++ S2, by rw [hj1]; simp, ?_, ?_⟩
  · refine (p1.append p2).trans ?_
    have : (L1 ++ R1 ++ (L2 ++ R2)).Perm (L1 ++ (L2 ++ (R1 ++ R2))) := by
      rw [List.append_assoc]
      refine List.Perm.append_left _ ?_
      rw [← List.append_assoc, ← List.append_assoc]
      exact List.Perm.append_right _ List.perm_append_comm
    simpa using this
  · refine List.pairwise_append.2 ⟨q1, q2, fun x hx y hy => ?_⟩
    have hx := p1.mem_iff.1 hx
    have hy := p2.mem_iff.1 hy
    rcases List.mem_append.1 hx with hx | hx
    · rcases List.mem_append.1 hy with hy | hy
      · exact l3 x hx y hy
      · exact hx1 x hx y hy
    · rcases List.mem_append.1 hy with hy | hy
      · exact hx2 x hx y hy
      · exact r3 x hx y hy
theorem merge_gen (hs : s ≠ 0) (rec_ : (List Int) → Int → Int → Int → Int → (List Int) → Int → Option (List Int)) (X L R Y : List Int) (hrec : RecOK c w s rec_ (L.length + R.length))
    (hb : ∀ y ∈ L ++ R, 0 ≤ y ∧ y < (w.length : Int)) (hL : Srt (keyP c w s) L) (hR : Srt (keyP c w s) R) (hcr : Crs (keyP c w s) L R) (hlen : X.length + L.length + R.length ≤ 1000) (h1 : 1 ≤ L.length) (h2 : 1 ≤ R.length)
    (mid lo0 hi0 : Nat) (hmid : mid = (X.length + (X.length + L.length + R.length)) / 2) (g1 : lo0 ≤ hi0) (g2 : X.length ≤ lo0) (g3 : hi0 ≤ X.length + L.length) (g4 : hi0 ≤ mid) (g5 : mid + (X.length + L.length) ≤ lo0 + (X.length + L.length + R.length))
    (g6 : lo0 = X.length ∨ lo0 + (X.length + L.length + R.length) = mid + (X.length + L.length)) (g7 : hi0 = X.length + L.length ∨ hi0 = mid) :
    ∃ S, slices_symMergeCmpFunc_int_ratio_Apportion_f1_j5 (X ++ L ++ R ++ Y) (X.length : Int) ((X.length + L.length : Nat) : Int) ((X.length + L.length + R.length : Nat) : Int) c w s rec_ (mid : Int) (lo0 : Int) (hi0 : Int) = some (X ++ S ++ Y) ∧ S.Perm (L ++ R) ∧ Srt (keyP c w s) S := by
  have hD : (X ++ L ++ R ++ Y).length = X.length + L.length + R.length + Y.length := by simp; omega
  have hixL : ∀ k : Nat, (h0 : X.length ≤ k) → (h : k < X.length + L.length) → ix (X ++ L ++ R ++ Y) (k : Int) = L[k - X.length]'(by omega) := fun k a b => by
    rw [show X ++ L ++ R ++ Y = X ++ L ++ (R ++ Y) by simp]; exact ix_seg X L (R ++ Y) k a b
  have hixR : ∀ k : Nat, (h0 : X.length + L.length ≤ k) → (h : k < X.length + L.length + R.length) → ix (X ++ L ++ R ++ Y) (k : Int) = R[k - (X.length + L.length)]'(by omega) := fun k a b => by
    have := ix_seg (X ++ L) R Y k (by rw [List.length_append]; exact a) (by rw [List.length_append]; exact b)
    rw [this]
    simp
  let Pq : Nat → Bool := fun k => !(decide (keyP c w s (ix (X ++ L ++ R ++ Y) (k : Int)) < keyP c w s (ix (X ++ L ++ R ++ Y) ((mid + (X.length + L.length) - 1 - k : Nat) : Int))))
  obtain ⟨r, k1, k2, k3, k4, k5⟩ := bs_loop (slices_symMergeCmpFunc_int_ratio_Apportion_f1_l4 (X ++ L ++ R ++ Y) ((X.length + L.length : Nat) : Int) c w s (mid : Int)) Pq lo0 hi0 g1
    (fun lo hi a1 a2 a3 => by
      have m1 := hb _ (List.mem_append_left R (List.getElem_mem (l := L) (n := (lo + hi) / 2 - X.length) (by omega)))
      rw [← hixL ((lo + hi) / 2) (by omega) (by omega)] at m1
      have m2 := hb _ (List.mem_append_right L (List.getElem_mem (l := R) (n := mid + (X.length + L.length) - 1 - (lo + hi) / 2 - (X.length + L.length)) (by omega)))
      rw [← hixR (mid + (X.length + L.length) - 1 - (lo + hi) / 2) (by omega) (by omega)] at m2
      obtain ⟨y, y1, y2⟩ := cmp_eq2 _ _ c w s hs m2 m1
      have hp : IntKind.i64.wrap (IntKind.i64.wrap (IntKind.i64.wrap ((mid : Int) + ((X.length + L.length : Nat) : Int)) - 1) - (((lo + hi) / 2 : Nat) : Int)) = ((mid + (X.length + L.length) - 1 - (lo + hi) / 2 : Nat) : Int) := by
        rw [wrap64 (n := (mid : Int) + ((X.length + L.length : Nat) : Int)) (by omega) (by omega), wrap64 (n := (mid : Int) + ((X.length + L.length : Nat) : Int) - 1) (by omega) (by omega), wrap64 (by omega) (by omega)]; omega
      simp only [slices_symMergeCmpFunc_int_ratio_Apportion_f1_l4]
      unfold bindV
      rw [show decide ((lo : Int) < (hi : Int)) = true by simp; omega, cond_true, half lo hi (by omega)]
      dsimp only
      rw [hp, req_pos ⟨by omega, by omega⟩, y1, sbind, y2]
      show _ = some (Sum.inl (if Pq ((lo + hi) / 2) = true then _ else _))
      rcases bcases (!(decide (keyP c w s (ix (X ++ L ++ R ++ Y) (((lo + hi) / 2 : Nat) : Int)) < keyP c w s (ix (X ++ L ++ R ++ Y) ((mid + (X.length + L.length) - 1 - (lo + hi) / 2 : Nat) : Int))))) with q | q
      · rw [q, cond_true, if_pos q, i64_add1 _ (by omega)]
      · rw [q, cond_false, if_neg (by show ¬ ((!(decide _)) = true); rw [q]; simp)])
    (fun lo => by
      simp only [slices_symMergeCmpFunc_int_ratio_Apportion_f1_l4]
      rw [show decide ((lo : Int) < (lo : Int)) = false by simp, cond_false])
  have k4 : r = lo0 ∨ ¬ keyP c w s (ix (X ++ L ++ R ++ Y) ((r - 1 : Nat) : Int)) < keyP c w s (ix (X ++ L ++ R ++ Y) ((mid + (X.length + L.length) - 1 - (r - 1) : Nat) : Int)) := k4.imp id (fun h => by
    have h : (!(decide (keyP c w s (ix (X ++ L ++ R ++ Y) ((r - 1 : Nat) : Int)) < keyP c w s (ix (X ++ L ++ R ++ Y) ((mid + (X.length + L.length) - 1 - (r - 1) : Nat) : Int))))) = true := h
    simpa using h)
  have k5 : r = hi0 ∨ keyP c w s (ix (X ++ L ++ R ++ Y) (r : Int)) < keyP c w s (ix (X ++ L ++ R ++ Y) ((mid + (X.length + L.length) - 1 - r : Nat) : Int)) := k5.imp id (fun h => by
    have h : (!(decide (keyP c w s (ix (X ++ L ++ R ++ Y) (r : Int)) < keyP c w s (ix (X ++ L ++ R ++ Y) ((mid + (X.length + L.length) - 1 - r : Nat) : Int))))) = false := h
    simpa using h)
  unfold slices_symMergeCmpFunc_int_ratio_Apportion_f1_j5
  rw [k1, sbind]
  -- the parts
  have e1 := List.take_append_drop (r - X.length) L
  have e2 := List.take_append_drop (mid - r) R
  have n1 : (L.take (r - X.length)).length = r - X.length := by rw [List.length_take]; omega
  have n2 : (L.drop (r - X.length)).length = L.length - (r - X.length) := List.length_drop
  have n3 : (R.take (mid - r)).length = mid - r := by rw [List.length_take]; omega
  have n4 : (R.drop (mid - r)).length = R.length - (mid - r) := List.length_drop
  have hx1 : ∀ x ∈ L.take (r - X.length), ∀ y ∈ R.drop (mid - r), RR (keyP c w s) x y := by
    intro x hx y hy
    obtain ⟨i, hi, rfl⟩ := List.getElem_of_mem hx
    obtain ⟨j, hj, rfl⟩ := List.getElem_of_mem hy
    rw [n1] at hi
    rw [n4] at hj
    rw [List.getElem_take, List.getElem_drop]
    -- the two at the border
    have hbd : RR (keyP c w s) (L[r - X.length - 1]'(by omega)) (R[mid - r]'(by omega)) := by
      rcases k4 with k4 | k4
      · omega
      · have a1 := hixL (r - 1) (by omega) (by omega)
        have a2 := hixR (mid + (X.length + L.length) - 1 - (r - 1)) (by omega) (by omega)
        rw [a1, a2] at k4
        have b1 : L[r - 1 - X.length]'(by omega) = L[r - X.length - 1]'(by omega) := by congr 1; omega
        have b2 : R[mid + (X.length + L.length) - 1 - (r - 1) - (X.length + L.length)]'(by omega) = R[mid - r]'(by omega) := by congr 1; omega
        rw [b1, b2] at k4
        have := hcr _ (List.getElem_mem (l := L) (n := r - X.length - 1) (by omega)) _ (List.getElem_mem (l := R) (n := mid - r) (by omega))
        unfold RR; omega
    have c1 : RR (keyP c w s) (L[i]'(by omega)) (R[mid - r]'(by omega)) := by
      rcases Nat.lt_or_ge i (r - X.length - 1) with h | h
      · exact (List.pairwise_iff_getElem.1 hL i (r - X.length - 1) (by omega) (by omega) h).trans hbd
      · have : i = r - X.length - 1 := by omega
        subst this; exact hbd
    rcases Nat.eq_zero_or_pos j with h | h
    · subst h; exact c1
    · exact c1.trans (List.pairwise_iff_getElem.1 hR (mid - r) (mid - r + j) (by omega) (by omega) (by omega))
  have hx2 : ∀ y ∈ R.take (mid - r), ∀ x ∈ L.drop (r - X.length), RR (keyP c w s) y x := by
    intro y hy x hx
    obtain ⟨i, hi, rfl⟩ := List.getElem_of_mem hx
    obtain ⟨j, hj, rfl⟩ := List.getElem_of_mem hy
    rw [n2] at hi
    rw [n3] at hj
    rw [List.getElem_take, List.getElem_drop]
    have hbd : RR (keyP c w s) (R[mid - r - 1]'(by omega)) (L[r - X.length]'(by omega)) := by
      rcases k5 with k5 | k5
      · omega
      · have a1 := hixL r (by omega) (by omega)
        have a2 := hixR (mid + (X.length + L.length) - 1 - r) (by omega) (by omega)
        rw [a1, a2] at k5
        have b2 : R[mid + (X.length + L.length) - 1 - r - (X.length + L.length)]'(by omega) = R[mid - r - 1]'(by omega) := by congr 1; omega
        rw [b2] at k5
        exact .inl k5
    have c1 : RR (keyP c w s) (R[j]'(by omega)) (L[r - X.length]'(by omega)) := by
      rcases Nat.lt_or_ge j (mid - r - 1) with h | h
      · exact (List.pairwise_iff_getElem.1 hR j (mid - r - 1) (by omega) (by omega) h).trans hbd
      · have : j = mid - r - 1 := by omega
        subst this; exact hbd
    rcases Nat.eq_zero_or_pos i with h | h
    · subst h; exact c1
    · exact c1.trans (List.pairwise_iff_getElem.1 hL (r - X.length) (r - X.length + i) (by omega) (by omega) (by omega))
  have ht := merge_tail c w s rec_ X (L.take (r - X.length)) (L.drop (r - X.length)) (R.take (mid - r)) (R.drop (mid - r)) Y (L.length + R.length) (by omega) hrec (by rw [e1, e2]; exact hb) (by rw [e1]; exact hL) (by rw [e2]; exact hR) (by rw [e1, e2]; exact hcr) (by omega) hx1 hx2 (by omega) (by omega) (by omega)
  rw [e1, e2, n1, n2, n3] at ht
  rw [show (X.length + (r - X.length + (L.length - (r - X.length))) : Nat) = X.length + L.length by omega, show (X.length + (L.length + R.length) : Nat) = X.length + L.length + R.length by omega, show (X.length + (r - X.length) + (mid - r) : Nat) = mid by omega, show (X.length + (r - X.length) : Nat) = r by omega] at ht
  exact ht
theorem merge_ok (hs : s ≠ 0) : ∀ (fuel : Nat), RecOK c w s (slices_symMergeCmpFunc_int_ratio_Apportion_f1 fuel) fuel := by
  intro fuel
  induction fuel with
  | zero => intro X L R Y _ _ h; omega
  | succ fuel ih =>
    intro X L R Y h1 h2 h3 hb hL hR hcr hlen
    show ∃ S, slices_symMergeCmpFunc_int_ratio_Apportion_f1_b (slices_symMergeCmpFunc_int_ratio_Apportion_f1 fuel) _ _ _ _ c w s = _ ∧ _
    by_cases hl1 : L.length = 1
    · match L, hl1 with
      | [x], _ =>
        obtain ⟨S, k1, k2, k3⟩ := merge_left c w s hs X R Y x (by simpa using hb) hR hcr (by simpa using hlen) (slices_symMergeCmpFunc_int_ratio_Apportion_f1 fuel)
        refine ⟨S, ?_, by simpa using k2, k3⟩
        rw [← k1]; simp
    · by_cases hr1 : R.length = 1
      · match R, hr1 with
        | [x], _ =>
          obtain ⟨S, k1, k2, k3⟩ := merge_right c w s hs X L Y x hl1 hb hL hcr (by simpa using hlen) (slices_symMergeCmpFunc_int_ratio_Apportion_f1 fuel)
          refine ⟨S, ?_, k2, k3⟩
          rw [← k1]; simp
      · unfold slices_symMergeCmpFunc_int_ratio_Apportion_f1_b slices_symMergeCmpFunc_int_ratio_Apportion_f1_j11
        rw [show IntKind.i64.wrap (((X.length + L.length : Nat) : Int) - (X.length : Int)) = (L.length : Int) by rw [wrap64 (by omega) (by omega)]; omega, show ((L.length : Int) == 1) = false by simp; omega, cond_false,
          show IntKind.i64.wrap (((X.length + L.length + R.length : Nat) : Int) - ((X.length + L.length : Nat) : Int)) = (R.length : Int) by rw [wrap64 (by omega) (by omega)]; omega, show ((R.length : Int) == 1) = false by simp; omega, cond_false]
        unfold slices_symMergeCmpFunc_int_ratio_Apportion_f1_j6 bindV
        rw [half X.length (X.length + L.length + R.length) (by omega)]
        dsimp only
        have hrec : RecOK c w s (slices_symMergeCmpFunc_int_ratio_Apportion_f1 fuel) (L.length + R.length) := fun X' L' R' Y' a1 a2 a3 => ih X' L' R' Y' a1 a2 (by omega)
        by_cases hm : (X.length + (X.length + L.length + R.length)) / 2 < X.length + L.length
        · rw [show decide ((((X.length + (X.length + L.length + R.length)) / 2 : Nat) : Int) < ((X.length + L.length : Nat) : Int)) = true by rw [decide_eq_true_eq]; omega, cond_true]
          rw [show IntKind.i64.wrap (IntKind.i64.wrap ((((X.length + (X.length + L.length + R.length)) / 2 : Nat) : Int) + ((X.length + L.length : Nat) : Int)) - ((X.length + L.length + R.length : Nat) : Int)) = (((X.length + (X.length + L.length + R.length)) / 2 + (X.length + L.length) - (X.length + L.length + R.length) : Nat) : Int) by
            rw [wrap64 (n := (((X.length + (X.length + L.length + R.length)) / 2 : Nat) : Int) + ((X.length + L.length : Nat) : Int)) (by omega) (by omega), wrap64 (by omega) (by omega)]; omega]
          exact merge_gen c w s hs _ X L R Y hrec hb hL hR hcr hlen h1 h2 _ _ _ rfl (by omega) (by omega) (by omega) (by omega) (by omega) (by omega) (by omega)
        · rw [show decide ((((X.length + (X.length + L.length + R.length)) / 2 : Nat) : Int) < ((X.length + L.length : Nat) : Int)) = false by rw [decide_eq_false_iff_not]; omega, cond_false]
          exact merge_gen c w s hs _ X L R Y hrec hb hL hR hcr hlen h1 h2 _ _ _ rfl (by omega) (by omega) (by omega) (by omega) (by omega) (by omega) (by omega)
end
end Go.LS
