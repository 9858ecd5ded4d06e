/-
  slices.SortStableFunc over indices by remainders: the comparison, insertion sort, rotation, symMerge.
  Conditions: the indices lie within the weights; at most 1000 of them.
-/
import Derived.Test.YtkgmiidcilkmlaaPA
import Derived.Test.YtkgmiidcilkmlaaD1
namespace Go.LS
set_option linter.all false
set_option linter.unusedSimpArgs false
set_option linter.unusedVariables false
set_option maxRecDepth 20000

theorem sbind {α β : Type} (x : α) (f : α → Option β) : (some x).bind f = f x := rfl
def cmpI2 (x y : Int) : Int := if x < y then -1 else if y < x then 1 else 0
theorem cmpInt_eq2 (x y : Int) : cmp_Compare_int x y = some (cmpI2 x y) := by
  unfold cmp_Compare_int cmp_isNaN_int cmpI2
  have h1 : (x != x) = false := by simp
  have h2 : (y != y) = false := by simp
  rw [h1, h2]
  simp only [Option.bind, cond_false]
  by_cases h : x < y
  · simp [h]
  · by_cases h' : y < x
    · simp [h, h']
    · simp [h, h']
def keyP (c : Int) (w : List Int) (s : Int) (x : Int) : Int := Int.tmod (IntKind.i64.wrap (c * ix w x)) s
theorem cmp_eq2 (i j c : Int) (w : List Int) (s : Int) (hs : s ≠ 0) (hi : 0 ≤ i ∧ i < w.length) (hj : 0 ≤ j ∧ j < w.length) : ∃ y, ratio_Apportion_f1 i j c w s = some y ∧ decide (y < 0) = decide (keyP c w s j < keyP c w s i) := by
  unfold ratio_Apportion_f1
  rw [req_pos ⟨hj, hs, hi⟩, cmpInt_eq2]
  refine ⟨_, rfl, ?_⟩
  show decide (cmpI2 (keyP c w s j) (keyP c w s i) < 0) = _
  unfold cmpI2
  rw [Bool.eq_iff_iff]
  simp only [decide_eq_true_eq]
  (repeat' split) <;> omega
/-! ### the order -/
def RR (K : Int → Int) (x y : Int) : Prop := K y < K x ∨ (K x = K y ∧ x < y)
theorem RR.trans {K : Int → Int} {x y z : Int} (h : RR K x y) (k : RR K y z) : RR K x z := by
  unfold RR at *; omega
theorem RR.irrefl {K : Int → Int} {x : Int} (h : RR K x x) : False := by unfold RR at h; omega
abbrev Srt (K : Int → Int) (l : List Int) : Prop := l.Pairwise (RR K)
/-- between these two only the keys count -/
def Crs (K : Int → Int) (l r : List Int) : Prop := ∀ x ∈ l, ∀ y ∈ r, K x = K y → x < y
theorem get_mid (X Y : List Int) (x : Int) (k : Nat) (h : X.length = k) : ix (X ++ x :: Y) (k : Int) = x := by
  subst h
  rw [ix_nat _ _ (by simp), List.getElem_append_right (Nat.le_refl _)]
  simp
theorem set_mid (X Y : List Int) (x y : Int) (k : Nat) (h : X.length = k) : setI (X ++ x :: Y) (k : Int) y = X ++ y :: Y := by
  subst h
  unfold setI
  rw [Int.toNat_natCast, List.set_append_right _ _ (Nat.le_refl _), Nat.sub_self]
  rfl
theorem swap_adj (X Y : List Int) (x y : Int) (k : Nat) (h : X.length = k) : setI (setI (X ++ x :: y :: Y) ((k + 1 : Nat) : Int) x) (k : Int) y = X ++ y :: x :: Y := by
  have e : X ++ x :: y :: Y = (X ++ [x]) ++ y :: Y := by simp
  rw [e, set_mid (X ++ [x]) Y y x (k + 1) (by simp; omega)]
  have e2 : (X ++ [x]) ++ x :: Y = X ++ x :: x :: Y := by simp
  rw [e2, set_mid X _ x y k h]
theorem swap_adj2 (X Y : List Int) (x y : Int) (k : Nat) (h : X.length = k) : setI (setI (X ++ x :: y :: Y) (k : Int) y) ((k + 1 : Nat) : Int) x = X ++ y :: x :: Y := by
  rw [set_mid X _ x y k h]
  have e : X ++ y :: y :: Y = (X ++ [y]) ++ y :: Y := by simp
  rw [e, set_mid (X ++ [y]) Y y x (k + 1) (by simp; omega)]
  simp
/-! ### insertion sort -/
section
variable (c : Int) (w : List Int) (s : Int)
theorem ins_loop (hs : s ≠ 0) (X T : List Int) (x : Int) (hx : 0 ≤ x ∧ x < w.length) : ∀ (P Q : List Int), (∀ y ∈ P, 0 ≤ y ∧ y < (w.length : Int)) → Srt (keyP c w s) (P ++ Q) → Crs (keyP c w s) (P ++ Q) [x] → (∀ q ∈ Q, keyP c w s q < keyP c w s x) → X.length + P.length + Q.length ≤ 1000 →
    ∃ d S, iter (slices_insertionSortCmpFunc_int_ratio_Apportion_f1_l2 (X.length : Int) c w s) (((X.length + P.length : Nat) : Int), X ++ P ++ x :: Q ++ T) = some d ∧ d = X ++ S ++ T ∧ S.Perm (P ++ x :: Q) ∧ Srt (keyP c w s) S := by
  intro P
  induction hn : P.length using Nat.strongRecOn generalizing P with
  | ind n ih =>
    intro Q hb hsrt hcr hq hlen
    rcases List.eq_nil_or_concat P with rfl | ⟨P', p, rfl⟩
    · subst hn
      refine ⟨_, x :: Q, iter_inr ?_, rfl, by simp, ?_⟩
      · simp only [slices_insertionSortCmpFunc_int_ratio_Apportion_f1_l2]
        have hf : decide ((X.length : Int) < ((X.length + ([] : List Int).length : Nat) : Int)) = false := by simp
        rw [hf, req_pos (by constructor <;> intro h <;> cases h), cond_false]
        simp
      · refine List.pairwise_cons.2 ⟨fun q hqm => .inl (hq q hqm), by simpa using hsrt⟩
    · rw [List.concat_eq_append] at *
      have hpl : (P' ++ [p]).length = P'.length + 1 := by simp
      have hpb := hb p (by simp)
      obtain ⟨y, hy1, hy2⟩ := cmp_eq2 x p c w s hs hx hpb
      have e1 : X ++ (P' ++ [p]) ++ x :: Q ++ T = (X ++ P') ++ p :: x :: (Q ++ T) := by simp
      have hL : (X ++ P').length = X.length + P'.length := by simp
      have g1 : ix ((X ++ P') ++ p :: x :: (Q ++ T)) ((X.length + P'.length : Nat) : Int) = p := get_mid _ _ _ _ hL
      have g2 : ix ((X ++ P') ++ p :: x :: (Q ++ T)) ((X.length + P'.length + 1 : Nat) : Int) = x := by
        have e : (X ++ P') ++ p :: x :: (Q ++ T) = (X ++ P' ++ [p]) ++ x :: (Q ++ T) := by simp
        rw [e]; exact get_mid _ _ _ _ (by simp only [List.length_append, List.length_cons, List.length_nil, Nat.zero_add])
      have hlen2 : ((X ++ P') ++ p :: x :: (Q ++ T)).length = X.length + P'.length + 2 + (Q ++ T).length := by simp; omega
      have hidx : X.length + n = X.length + P'.length + 1 := by omega
      rw [hidx, e1]
      have ht : decide ((X.length : Int) < ((X.length + P'.length + 1 : Nat) : Int)) = true := by simp; omega
      have hw : IntKind.i64.wrap (((X.length + P'.length + 1 : Nat) : Int) - 1) = ((X.length + P'.length : Nat) : Int) := by rw [wrap64 (by omega) (by omega)]; omega
      have hf : slices_insertionSortCmpFunc_int_ratio_Apportion_f1_l2 (X.length : Int) c w s (((X.length + P'.length + 1 : Nat) : Int), (X ++ P') ++ p :: x :: (Q ++ T)) =
          if keyP c w s p < keyP c w s x then some (.inl (((X.length + P'.length : Nat) : Int), (X ++ P') ++ x :: p :: (Q ++ T))) else some (.inr ((X ++ P') ++ p :: x :: (Q ++ T))) := by
        simp only [slices_insertionSortCmpFunc_int_ratio_Apportion_f1_l2]
        rw [ht, hw, req_pos ⟨fun _ => by omega, fun _ => by omega⟩, cond_true, g1, g2, hy1, sbind, hy2]
        by_cases hc : keyP c w s p < keyP c w s x
        · rw [decide_eq_true hc, cond_true, if_pos hc, req_pos ⟨by omega, by omega⟩, swap_adj _ _ _ _ _ hL]
          rfl
        · rw [decide_eq_false hc, cond_false, if_neg hc]
      by_cases hc : keyP c w s p < keyP c w s x
      · rw [if_pos hc] at hf
        rw [iter_inl hf]
        obtain ⟨d, S, k1, k2, k3, k4⟩ := ih P'.length (by omega) P' rfl (p :: Q) (fun y hy => hb y (by simp [hy])) (by simpa using hsrt) (by simpa using hcr) (fun q hqm => by
          rcases List.mem_cons.1 hqm with rfl | hqm
          · exact hc
          · exact hq q hqm) (by simp; omega)
        refine ⟨d, S, ?_, k2, k3.trans ?_, k4⟩
        · rw [← k1]; simp
        · have : (P' ++ [p]) ++ x :: Q = P' ++ p :: x :: Q := by simp
          rw [this]
          exact List.Perm.append_left _ (List.Perm.swap _ _ _)
      · rw [if_neg hc] at hf
        refine ⟨_, P' ++ [p] ++ x :: Q, iter_inr hf, by simp, List.Perm.refl _, ?_⟩
        have hpx : RR (keyP c w s) p x := by
          have := hcr p (by simp) x (by simp)
          unfold RR; omega
        obtain ⟨s1, s2, s3⟩ := List.pairwise_append.1 hsrt
        refine List.pairwise_append.2 ⟨s1, List.pairwise_cons.2 ⟨fun q hqm => .inl (hq q hqm), s2⟩, fun a ha b hb' => ?_⟩
        rcases List.mem_cons.1 hb' with rfl | hb'
        · rcases List.mem_append.1 ha with ha | ha
          · exact ((List.pairwise_append.1 s1).2.2 a ha p (by simp)).trans hpx
          · have : a = p := by simpa using ha
            rw [this]; exact hpx
        · exact s3 a ha b hb'
theorem ins_sort2 (hs : s ≠ 0) (X S Y : List Int) (hb : ∀ y ∈ S, 0 ≤ y ∧ y < (w.length : Int)) (hinc : S.Pairwise (· < ·)) (hlen : X.length + S.length ≤ 1000) :
    ∃ S', slices_insertionSortCmpFunc_int_ratio_Apportion_f1 (X ++ S ++ Y) (X.length : Int) ((X.length + S.length : Nat) : Int) c w s = some (X ++ S' ++ Y) ∧ S'.Perm S ∧ Srt (keyP c w s) S' := by
  have key : ∀ (m : Nat) (A B : List Int), B.length = m → (∃ A0, S = A0 ++ B ∧ A.Perm A0) → Srt (keyP c w s) A → 1 ≤ A.length ∨ S = [] → ∃ S', iter (slices_insertionSortCmpFunc_int_ratio_Apportion_f1_l3 (X.length : Int) ((X.length + S.length : Nat) : Int) c w s) (((X.length + A.length : Nat) : Int), X ++ A ++ B ++ Y) = some (X ++ S' ++ Y) ∧ S'.Perm S ∧ Srt (keyP c w s) S' := by
    intro m
    induction m with
    | zero =>
      intro A B h1 h2 h3 _
      obtain ⟨A0, e, hp⟩ := h2
      have : B = [] := List.eq_nil_of_length_eq_zero h1
      subst this
      rw [List.append_nil] at e
      subst e
      refine ⟨A, iter_inr ?_, hp, h3⟩
      simp only [slices_insertionSortCmpFunc_int_ratio_Apportion_f1_l3]
      have hl := hp.length_eq
      rw [show decide (((X.length + A.length : Nat) : Int) < ((X.length + S.length : Nat) : Int)) = false by simp; omega, cond_false]
      simp
    | succ m ih =>
      intro A B h1 h2 h3 h4
      obtain ⟨A0, e, hp⟩ := h2
      match B, h1 with
      | x :: B, h1 =>
        have hl := hp.length_eq
        have hSl : S.length = A0.length + (B.length + 1) := by rw [e]; simp
        have hxb := hb x (by rw [e]; simp)
        have hcr : Crs (keyP c w s) (A ++ []) [x] := by
          intro a ha y hy _
          have : y = x := by simpa using hy
          subst this
          rw [e, List.pairwise_append] at hinc
          exact hinc.2.2 a (hp.mem_iff.1 (by simpa using ha)) y (by simp)
        obtain ⟨d, S', k1, k2, k3, k4⟩ := ins_loop c w s hs X (B ++ Y) x hxb A [] (fun y hy => hb y (by rw [e]; exact List.mem_append.2 (.inl (hp.mem_iff.1 hy)))) (by simpa using h3) hcr (fun q hq => by cases hq) (by simp; omega)
        have hSp : S'.Perm (A0 ++ [x]) := k3.trans (hp.append_right [x])
        obtain ⟨S2, m1, m2, m3⟩ := ih S' B (by simp at h1; exact h1) ⟨A0 ++ [x], by rw [e]; simp, hSp⟩ k4 (.inl (by rw [hSp.length_eq]; simp))
        refine ⟨S2, ?_, m2, m3⟩
        rw [← m1]
        refine iter_inl ?_
        simp only [slices_insertionSortCmpFunc_int_ratio_Apportion_f1_l3]
        rw [show decide (((X.length + A.length : Nat) : Int) < ((X.length + S.length : Nat) : Int)) = true by simp; omega, cond_true, show X ++ A ++ x :: B ++ Y = X ++ A ++ [x] ++ (B ++ Y) by simp, k1, sbind, k2]
        unfold slices_insertionSortCmpFunc_int_ratio_Apportion_f1_j1
        rw [i64_add1 _ (by omega), hSp.length_eq]
        simp [hl]
        omega
  unfold slices_insertionSortCmpFunc_int_ratio_Apportion_f1
  rw [i64_add1 _ (by omega)]
  match S, hb, hinc, hlen, key with
  | [], _, _, _, key =>
    refine ⟨[], ?_, List.Perm.refl _, List.Pairwise.nil⟩
    have : iter (slices_insertionSortCmpFunc_int_ratio_Apportion_f1_l3 (X.length : Int) ((X.length + ([] : List Int).length : Nat) : Int) c w s) (((X.length + 1 : Nat) : Int), X ++ [] ++ Y) = some (X ++ [] ++ Y) := by
      refine iter_inr ?_
      simp only [slices_insertionSortCmpFunc_int_ratio_Apportion_f1_l3]
      rw [show decide (((X.length + 1 : Nat) : Int) < ((X.length + ([] : List Int).length : Nat) : Int)) = false by simp; omega, cond_false]
    rw [this, sbind]
  | x :: S, _, _, _, key =>
    obtain ⟨S', m1, m2, m3⟩ := key S.length [x] S rfl ⟨[x], rfl, List.Perm.refl _⟩ (List.pairwise_singleton _ _) (.inl (by simp))
    refine ⟨S', ?_, m2, m3⟩
    rw [show X ++ [x] ++ S ++ Y = X ++ x :: S ++ Y by simp] at m1
    rw [show (X.length + [x].length : Nat) = X.length + 1 by simp] at m1
    rw [m1, sbind]
end
/-! ### rotation -/
theorem swap_loop (cc : Int) (ww : List Int) (ss : Int) (X M Y : List Int) : ∀ (n : Nat) (A B : List Int), A.length = n → B.length = n → X.length + 2 * n + M.length ≤ 1000 → slices_swapRangeCmpFunc_int_ratio_Apportion_f1 (X ++ A ++ M ++ B ++ Y) (X.length : Int) ((X.length + n + M.length : Nat) : Int) (n : Int) cc ww ss = some (X ++ B ++ M ++ A ++ Y) := by
  intro n A B hA hB hl
  unfold slices_swapRangeCmpFunc_int_ratio_Apportion_f1
  have key : iter (slices_swapRangeCmpFunc_int_ratio_Apportion_f1_l1 (X.length : Int) ((X.length + n + M.length : Nat) : Int) (n : Int)) ((0 : Int), X ++ A ++ M ++ B ++ Y) = some (X ++ B ++ M ++ A ++ Y) := by
    have step : ∀ (m : Nat) (A1 A2 B1 B2 : List Int), A2.length = m → B2.length = m → A1.length = B1.length → A1.length + m = n → iter (slices_swapRangeCmpFunc_int_ratio_Apportion_f1_l1 (X.length : Int) ((X.length + n + M.length : Nat) : Int) (n : Int)) ((A1.length : Int), X ++ B1 ++ A2 ++ M ++ A1 ++ B2 ++ Y) = some (X ++ B1 ++ B2 ++ M ++ A1 ++ A2 ++ Y) := by
      intro m
      induction m with
      | zero =>
        intro A1 A2 B1 B2 h1 h2 h3 h4
        have : A2 = [] := List.eq_nil_of_length_eq_zero h1
        subst this
        have : B2 = [] := List.eq_nil_of_length_eq_zero h2
        subst this
        refine iter_inr ?_
        simp only [slices_swapRangeCmpFunc_int_ratio_Apportion_f1_l1]
        rw [show decide ((A1.length : Int) < (n : Int)) = false by simp; omega, cond_false]
      | succ m ih =>
        intro A1 A2 B1 B2 h1 h2 h3 h4
        match A2, B2, h1, h2 with
        | a :: A2, b :: B2, h1, h2 =>
          have h1 : A2.length = m := by simpa using h1
          have h2 : B2.length = m := by simpa using h2
          have := ih (A1 ++ [a]) A2 (B1 ++ [b]) B2 h1 h2 (by simp; exact h3) (by simp; omega)
          rw [show X ++ B1 ++ b :: B2 ++ M ++ A1 ++ a :: A2 ++ Y = X ++ (B1 ++ [b]) ++ B2 ++ M ++ (A1 ++ [a]) ++ A2 ++ Y by simp, ← this]
          refine iter_inl ?_
          simp only [slices_swapRangeCmpFunc_int_ratio_Apportion_f1_l1]
          have w1 : IntKind.i64.wrap (((X.length + n + M.length : Nat) : Int) + (A1.length : Int)) = ((X.length + n + M.length + A1.length : Nat) : Int) := by rw [wrap64 (by omega) (by omega)]; omega
          have w2 : IntKind.i64.wrap ((X.length : Int) + (A1.length : Int)) = ((X.length + A1.length : Nat) : Int) := by rw [wrap64 (by omega) (by omega)]; omega
          have hD : (X ++ B1 ++ a :: A2 ++ M ++ A1 ++ b :: B2 ++ Y).length = X.length + B1.length + A2.length + 1 + M.length + A1.length + B2.length + 1 + Y.length := by simp; omega
          have ea : X ++ B1 ++ a :: A2 ++ M ++ A1 ++ b :: B2 ++ Y = (X ++ B1) ++ a :: (A2 ++ M ++ A1 ++ b :: B2 ++ Y) := by simp
          have eb : X ++ B1 ++ a :: A2 ++ M ++ A1 ++ b :: B2 ++ Y = (X ++ B1 ++ a :: A2 ++ M ++ A1) ++ b :: (B2 ++ Y) := by simp
          have ga : ix (X ++ B1 ++ a :: A2 ++ M ++ A1 ++ b :: B2 ++ Y) ((X.length + A1.length : Nat) : Int) = a := by rw [ea]; exact get_mid _ _ _ _ (by simp; omega)
          have gb : ix (X ++ B1 ++ a :: A2 ++ M ++ A1 ++ b :: B2 ++ Y) ((X.length + n + M.length + A1.length : Nat) : Int) = b := by rw [eb]; exact get_mid _ _ _ _ (by simp; omega)
          rw [show decide ((A1.length : Int) < (n : Int)) = true by simp; omega, cond_true, w1, w2, req_pos ⟨by omega, by omega⟩, ga, gb]
          have s1 : setI (X ++ B1 ++ a :: A2 ++ M ++ A1 ++ b :: B2 ++ Y) ((X.length + A1.length : Nat) : Int) b = X ++ B1 ++ b :: A2 ++ M ++ A1 ++ b :: B2 ++ Y := by
            rw [ea, set_mid _ _ _ _ _ (by simp; omega)]; simp
          have s2 : setI (X ++ B1 ++ b :: A2 ++ M ++ A1 ++ b :: B2 ++ Y) ((X.length + n + M.length + A1.length : Nat) : Int) a = X ++ B1 ++ b :: A2 ++ M ++ A1 ++ a :: B2 ++ Y := by
            rw [show X ++ B1 ++ b :: A2 ++ M ++ A1 ++ b :: B2 ++ Y = (X ++ B1 ++ b :: A2 ++ M ++ A1) ++ b :: (B2 ++ Y) by simp, set_mid _ _ _ _ _ (by simp; omega)]; simp
          unfold bindV
          rw [s1, s2, i64_add1 _ (by omega)]
          simp
    have := step n [] A [] B hA hB rfl (by simp)
    simpa using this
  rw [key, sbind]
theorem rot_loop (c : Int) (w : List Int) (s : Int) : ∀ (N : Nat) (X A B Y : List Int), A.length + B.length ≤ N → 1 ≤ A.length → 1 ≤ B.length → X.length + A.length + B.length ≤ 1000 →
    ∃ i d, iter (slices_rotateCmpFunc_int_ratio_Apportion_f1_l2 ((X.length + A.length : Nat) : Int) c w s) ((A.length : Int), (B.length : Int), X ++ A ++ B ++ Y) = some (i, d) ∧ slices_rotateCmpFunc_int_ratio_Apportion_f1_j1 ((X.length + A.length : Nat) : Int) c w s i d = some (X ++ B ++ A ++ Y) := by
  intro N
  induction N with
  | zero => intro X A B Y h1 h2 h3; omega
  | succ N ih =>
    intro X A B Y h1 h2 h3 h4
    have hm : IntKind.i64.wrap (((X.length + A.length : Nat) : Int) - (A.length : Int)) = ((X.length : Nat) : Int) := by rw [wrap64 (by omega) (by omega)]; omega
    rcases Nat.lt_trichotomy A.length B.length with h | h | h
    · -- B = B1 ++ B2, |B2| = |A|
      obtain ⟨B1, B2, rfl, hb1, hb2⟩ : ∃ B1 B2, B = B1 ++ B2 ∧ B1.length = B.length - A.length ∧ B2.length = A.length := ⟨B.take (B.length - A.length), B.drop (B.length - A.length), (List.take_append_drop _ _).symm, by simp only [List.length_take]; omega, by simp only [List.length_drop]; omega⟩
      simp only [List.length_append] at h1 h4 h
      have hsw := swap_loop c w s X B1 Y A.length A B2 rfl hb2 (by omega)
      obtain ⟨i, d, k1, k2⟩ := ih X B2 B1 (A ++ Y) (by omega) (by omega) (by omega) (by omega)
      refine ⟨i, d, ?_, ?_⟩
      · rw [hb2] at k1
        rw [show X ++ B2 ++ B1 ++ (A ++ Y) = X ++ B2 ++ B1 ++ A ++ Y by simp] at k1
        rw [← k1]
        refine iter_inl ?_
        simp only [slices_rotateCmpFunc_int_ratio_Apportion_f1_l2]
        have w1 : IntKind.i64.wrap (IntKind.i64.wrap (((X.length + A.length : Nat) : Int) + (((B1 ++ B2).length : Nat) : Int)) - (A.length : Int)) = ((X.length + A.length + B1.length : Nat) : Int) := by
          rw [wrap64 (n := ((X.length + A.length : Nat) : Int) + (((B1 ++ B2).length : Nat) : Int)) (by simp; omega) (by simp; omega), wrap64 (by simp; omega) (by simp; omega)]; simp; omega
        have w2 : IntKind.i64.wrap ((((B1 ++ B2).length : Nat) : Int) - (A.length : Int)) = (B1.length : Int) := by
          rw [wrap64 (by simp; omega) (by simp; omega)]; simp; omega
        rw [show ((A.length : Int) != (((B1 ++ B2).length : Nat) : Int)) = true by simp; omega, cond_true, show decide ((((B1 ++ B2).length : Nat) : Int) < (A.length : Int)) = false by simp; omega, cond_false, hm, w1, w2, show X ++ A ++ (B1 ++ B2) ++ Y = X ++ A ++ B1 ++ B2 ++ Y by simp, hsw, sbind, req_pos (by simp; omega)]
      · rw [hb2] at k2
        rw [k2]; simp
    · refine ⟨((A.length : Nat) : Int), X ++ A ++ B ++ Y, iter_inr ?_, ?_⟩
      · simp only [slices_rotateCmpFunc_int_ratio_Apportion_f1_l2]
        rw [show ((A.length : Int) != (B.length : Int)) = false by simp; omega, cond_false]
      · have hsw := swap_loop c w s X [] Y A.length A B rfl h.symm (by simp; omega)
        unfold slices_rotateCmpFunc_int_ratio_Apportion_f1_j1
        rw [hm]
        simp only [List.append_nil, List.length_nil, Nat.add_zero] at hsw
        rw [hsw, sbind, req_pos (by simp; omega)]
    · -- A = A1 ++ A2, |A1| = |B|
      obtain ⟨A1, A2, rfl, ha1⟩ : ∃ A1 A2, A = A1 ++ A2 ∧ A1.length = B.length := ⟨A.take B.length, A.drop B.length, (List.take_append_drop _ _).symm, by simp; omega⟩
      simp only [List.length_append] at h1 h4 h hm
      have hsw := swap_loop c w s X A2 Y B.length A1 B ha1 rfl (by omega)
      obtain ⟨i, d, k1, k2⟩ := ih (X ++ B) A2 A1 Y (by omega) (by omega) (by omega) (by simp; omega)
      have hidx : (X ++ B).length + A2.length = X.length + (A1 ++ A2).length := by simp; omega
      rw [hidx] at k1 k2
      refine ⟨i, d, ?_, ?_⟩
      · rw [show X ++ B ++ A2 ++ A1 ++ Y = X ++ B ++ A2 ++ A1 ++ Y from rfl] at k1
        rw [← k1]
        refine iter_inl ?_
        simp only [slices_rotateCmpFunc_int_ratio_Apportion_f1_l2]
        have w1 : IntKind.i64.wrap (((X.length + (A1 ++ A2).length : Nat) : Int) - (((A1 ++ A2).length : Nat) : Int)) = (X.length : Int) := by
          rw [wrap64 (by omega) (by omega)]; omega
        have w2 : IntKind.i64.wrap ((((A1 ++ A2).length : Nat) : Int) - (B.length : Int)) = (A2.length : Int) := by
          rw [wrap64 (by simp; omega) (by simp; omega)]; simp; omega
        have hidx2 : X.length + (A1 ++ A2).length = X.length + B.length + A2.length := by simp; omega
        rw [show ((((A1 ++ A2).length : Nat) : Int) != (B.length : Int)) = true by simp; omega, cond_true, show decide ((B.length : Int) < (((A1 ++ A2).length : Nat) : Int)) = true by simp; omega, cond_true, w1, w2, hidx2, show X ++ (A1 ++ A2) ++ B ++ Y = X ++ A1 ++ A2 ++ B ++ Y by simp, hsw, sbind, req_pos (by simp; omega), ha1]
      · rw [k2]; simp
theorem rotate_eq (c : Int) (w : List Int) (s : Int) (X A B Y : List Int) (h2 : 1 ≤ A.length) (h3 : 1 ≤ B.length) (h4 : X.length + A.length + B.length ≤ 1000) :
    slices_rotateCmpFunc_int_ratio_Apportion_f1 (X ++ A ++ B ++ Y) (X.length : Int) ((X.length + A.length : Nat) : Int) ((X.length + A.length + B.length : Nat) : Int) c w s = some (X ++ B ++ A ++ Y) := by
  obtain ⟨i, d, k1, k2⟩ := rot_loop c w s _ X A B Y (Nat.le_refl _) h2 h3 h4
  unfold slices_rotateCmpFunc_int_ratio_Apportion_f1
  rw [show IntKind.i64.wrap (((X.length + A.length : Nat) : Int) - (X.length : Int)) = (A.length : Int) by rw [wrap64 (by omega) (by omega)]; omega, show IntKind.i64.wrap (((X.length + A.length + B.length : Nat) : Int) - ((X.length + A.length : Nat) : Int)) = (B.length : Int) by rw [wrap64 (by omega) (by omega)]; omega, k1, sbind]
  exact k2
end Go.LS
