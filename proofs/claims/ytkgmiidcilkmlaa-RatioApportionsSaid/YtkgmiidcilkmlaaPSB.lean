/-
  slices.symMergeCmpFunc: two sorted neighbours become one sorted segment.
  Conditions: the indices lie within the weights; at most 1000 of them.
-/
import Derived.Test.YtkgmiidcilkmlaaPSA
namespace Go.LS
set_option linter.all false
set_option linter.unusedSimpArgs false
set_option linter.unusedVariables false
set_option maxRecDepth 20000

theorem half (x y : Nat) (h : x + y ≤ 4000) : IntKind.i64.wrap (bShr .u64 (IntKind.u64.wrap (IntKind.i64.wrap ((x : Int) + (y : Int)))) (1 : Int)) = (((x + y) / 2 : Nat) : Int) := by
  rw [wrap64 (n := (x : Int) + (y : Int)) (by omega) (by omega)]
  have e1 : IntKind.u64.wrap ((x : Int) + (y : Int)) = ((x + y : Nat) : Int) := by
    simp only [IntKind.wrap, IntKind.bits, IntKind.signed]; simp; omega
  rw [e1]
  have e2 : bShr .u64 ((x + y : Nat) : Int) (1 : Int) = (((x + y) / 2 : Nat) : Int) := by
    unfold bShr
    rw [show (2 : Int) ^ (min (1 : Int).toNat (IntKind.bits .u64)) = 2 by decide, Int.fdiv_eq_ediv_of_nonneg _ (by decide)]
    omega
  rw [e2, wrap64 (by omega) (by omega)]
/-- a binary search: where it ends, the test holds just before and fails just there -/
theorem bs_loop (f : Int × Int → Option ((Int × Int) ⊕ Int)) (P : Nat → Bool) (lo0 hi0 : Nat) (hle : lo0 ≤ hi0)
    (hstep : ∀ lo hi : Nat, lo0 ≤ lo → lo < hi → hi ≤ hi0 → f ((lo : Int), (hi : Int)) = some (.inl (if P ((lo + hi) / 2) = true then ((((lo + hi) / 2 + 1 : Nat) : Int), (hi : Int)) else ((lo : Int), (((lo + hi) / 2 : Nat) : Int)))))
    (hend : ∀ lo : Nat, f ((lo : Int), (lo : Int)) = some (.inr (lo : Int))) :
    ∃ r : Nat, iter f ((lo0 : Int), (hi0 : Int)) = some (r : Int) ∧ lo0 ≤ r ∧ r ≤ hi0 ∧ (r = lo0 ∨ P (r - 1) = true) ∧ (r = hi0 ∨ P r = false) := by
  have key : ∀ (m lo hi : Nat), hi - lo ≤ m → lo0 ≤ lo → lo ≤ hi → hi ≤ hi0 → (lo = lo0 ∨ P (lo - 1) = true) → (hi = hi0 ∨ P hi = false) → ∃ r : Nat, iter f ((lo : Int), (hi : Int)) = some (r : Int) ∧ lo0 ≤ r ∧ r ≤ hi0 ∧ (r = lo0 ∨ P (r - 1) = true) ∧ (r = hi0 ∨ P r = false) := by
    intro m
    induction m with
    | zero =>
      intro lo hi h1 h2 h3 h4 h5 h6
      have : hi = lo := by omega
      subst this
      exact ⟨hi, iter_inr (hend hi), h2, h4, h5, h6⟩
    | succ m ih =>
      intro lo hi h1 h2 h3 h4 h5 h6
      by_cases h : lo < hi
      · have hf := hstep lo hi h2 h h4
        by_cases hp : P ((lo + hi) / 2) = true
        · rw [if_pos hp] at hf
          rw [iter_inl hf]
          exact ih _ _ (by omega) (by omega) (by omega) h4 (.inr (by rw [Nat.add_sub_cancel]; exact hp)) h6
        · rw [if_neg hp] at hf
          rw [iter_inl hf]
          exact ih _ _ (by omega) h2 (by omega) (by omega) h5 (.inr (by simpa using hp))
      · have : hi = lo := by omega
        subst this
        exact ⟨hi, iter_inr (hend hi), h2, h4, h5, h6⟩
  exact key _ lo0 hi0 (Nat.le_refl _) (Nat.le_refl _) hle (Nat.le_refl _) (.inl rfl) (.inl rfl)
theorem ix_seg (X S Y : List Int) (k : Nat) (h1 : X.length ≤ k) (h2 : k < X.length + S.length) : ix (X ++ S ++ Y) (k : Int) = S[k - X.length]'(by omega) := by
  rw [ix_nat _ _ (by simp; omega), List.getElem_append_left (by simp; omega), List.getElem_append_right h1]
section
variable (c : Int) (w : List Int) (s : Int)
/-- one element on the left -/
theorem merge_left (hs : s ≠ 0) (X R Y : List Int) (x : Int) (hb : ∀ y ∈ x :: R, 0 ≤ y ∧ y < (w.length : Int)) (hsr : Srt (keyP c w s) R) (hcr : Crs (keyP c w s) [x] R) (hlen : X.length + 1 + R.length ≤ 1000)
    (rec_ : (List Int) → Int → Int → Int → Int → (List Int) → Int → Option (List Int)) :
    ∃ S, slices_symMergeCmpFunc_int_ratio_Apportion_f1_b rec_ (X ++ x :: R ++ Y) (X.length : Int) ((X.length + 1 : Nat) : Int) ((X.length + 1 + R.length : Nat) : Int) c w s = some (X ++ S ++ Y) ∧ S.Perm (x :: R) ∧ Srt (keyP c w s) S := by
  have hxb := hb x (by simp)
  have hixx : ix (X ++ x :: R ++ Y) (X.length : Int) = x := by
    rw [show X ++ x :: R ++ Y = X ++ x :: (R ++ Y) by simp]; exact get_mid _ _ _ _ rfl
  have hix : ∀ k : Nat, (h0 : X.length + 1 ≤ k) → (h : k < X.length + 1 + R.length) → ix (X ++ x :: R ++ Y) (k : Int) = R[k - (X.length + 1)]'(by omega) := by
    intro k h1 h2
    rw [show X ++ x :: R ++ Y = (X ++ [x]) ++ R ++ Y by simp, ix_seg (X ++ [x]) R Y k (by simp; omega) (by simp; omega)]
    simp
  have hD : (X ++ x :: R ++ Y).length = X.length + 1 + R.length + Y.length := by simp; omega
  let Pq : Nat → Bool := fun k => decide (keyP c w s x < keyP c w s (ix (X ++ x :: R ++ Y) (k : Int)))
  obtain ⟨r, k1, k2, k3, k4, k5⟩ := bs_loop (slices_symMergeCmpFunc_int_ratio_Apportion_f1_l15 (X ++ x :: R ++ Y) (X.length : Int) c w s) Pq (X.length + 1) (X.length + 1 + R.length) (by omega)
    (fun lo hi h1 h2 h3 => by
      have hm := hb _ (List.mem_cons_of_mem x (List.getElem_mem (l := R) (n := (lo + hi) / 2 - (X.length + 1)) (by omega)))
      rw [← hix ((lo + hi) / 2) (by omega) (by omega)] at hm
      obtain ⟨y, y1, y2⟩ := cmp_eq2 (ix (X ++ x :: R ++ Y) (((lo + hi) / 2 : Nat) : Int)) x c w s hs hm hxb
      simp only [slices_symMergeCmpFunc_int_ratio_Apportion_f1_l15]
      unfold bindV
      rw [show decide ((lo : Int) < (hi : Int)) = true by simp; omega, cond_true, half lo hi (by omega)]
      dsimp only
      rw [req_pos ⟨by omega, by omega⟩, hixx, y1, sbind, y2]
      show _ = some (Sum.inl (if Pq ((lo + hi) / 2) = true then _ else _))
      rcases bcases (decide (keyP c w s x < keyP c w s (ix (X ++ x :: R ++ Y) (((lo + hi) / 2 : Nat) : Int)))) with q | q
      · rw [q, cond_true, if_pos q, i64_add1 _ (by omega)]
      · rw [q, cond_false, if_neg (by show ¬ (decide _ = true); rw [q]; simp)])
    (fun lo => by
      simp only [slices_symMergeCmpFunc_int_ratio_Apportion_f1_l15]
      rw [show decide ((lo : Int) < (lo : Int)) = false by simp, cond_false])
  have k4 : r = X.length + 1 ∨ keyP c w s x < keyP c w s (ix (X ++ x :: R ++ Y) ((r - 1 : Nat) : Int)) := k4.imp id of_decide_eq_true
  have k5 : r = X.length + 1 + R.length ∨ ¬ keyP c w s x < keyP c w s (ix (X ++ x :: R ++ Y) (r : Int)) := k5.imp id of_decide_eq_false
  obtain ⟨R1, R2, rfl, hR1⟩ : ∃ R1 R2, R = R1 ++ R2 ∧ R1.length = r - (X.length + 1) := ⟨R.take (r - (X.length + 1)), R.drop (r - (X.length + 1)), (List.take_append_drop _ _).symm, by simp only [List.length_take]; omega⟩
  simp only [List.length_append] at k3 hlen
  unfold slices_symMergeCmpFunc_int_ratio_Apportion_f1_b
  rw [show IntKind.i64.wrap (((X.length + 1 : Nat) : Int) - (X.length : Int)) = 1 by rw [wrap64 (by omega) (by omega)]; omega, show ((1 : Int) == 1) = true from rfl, cond_true, k1, sbind]
  unfold slices_symMergeCmpFunc_int_ratio_Apportion_f1_j14
  have mv : ∀ (B A : List Int), A.length + B.length = R1.length → iter (slices_symMergeCmpFunc_int_ratio_Apportion_f1_l13 (r : Int)) (((X.length + A.length : Nat) : Int), X ++ A ++ x :: B ++ R2 ++ Y) = some (X ++ (A ++ B) ++ x :: R2 ++ Y) := by
    intro B
    have hw : IntKind.i64.wrap ((r : Int) - 1) = ((r - 1 : Nat) : Int) := by rw [wrap64 (by omega) (by omega)]; omega
    induction B with
    | nil =>
      intro A hA
      simp at hA
      have : iter (slices_symMergeCmpFunc_int_ratio_Apportion_f1_l13 (r : Int)) (((X.length + A.length : Nat) : Int), X ++ A ++ x :: [] ++ R2 ++ Y) = some (X ++ A ++ x :: [] ++ R2 ++ Y) := by
        refine iter_inr ?_
        simp only [slices_symMergeCmpFunc_int_ratio_Apportion_f1_l13]
        rw [hw, show decide (((X.length + A.length : Nat) : Int) < ((r - 1 : Nat) : Int)) = false by simp; omega, cond_false]
      rw [this]; simp
    | cons b B ih =>
      intro A hA
      have hA : A.length + (B.length + 1) = R1.length := by simpa using hA
      have := ih (A ++ [b]) (by simp; omega)
      rw [show X ++ (A ++ b :: B) ++ x :: R2 ++ Y = X ++ ((A ++ [b]) ++ B) ++ x :: R2 ++ Y by simp, ← this]
      refine iter_inl ?_
      simp only [slices_symMergeCmpFunc_int_ratio_Apportion_f1_l13]
      have e : X ++ A ++ x :: (b :: B) ++ R2 ++ Y = (X ++ A) ++ x :: b :: (B ++ R2 ++ Y) := by simp
      have hXA : (X ++ A).length = X.length + A.length := by simp
      have g1 : ix ((X ++ A) ++ x :: b :: (B ++ R2 ++ Y)) ((X.length + A.length : Nat) : Int) = x := get_mid _ _ _ _ hXA
      have g2 : ix ((X ++ A) ++ x :: b :: (B ++ R2 ++ Y)) ((X.length + A.length + 1 : Nat) : Int) = b := by
        rw [show (X ++ A) ++ x :: b :: (B ++ R2 ++ Y) = (X ++ A ++ [x]) ++ b :: (B ++ R2 ++ Y) by simp]
        exact get_mid _ _ _ _ (by simp only [List.length_append, List.length_cons, List.length_nil])
      have hl2 : ((X ++ A) ++ x :: b :: (B ++ R2 ++ Y)).length = X.length + A.length + 2 + (B ++ R2 ++ Y).length := by simp only [List.length_append, List.length_cons]; omega
      unfold bindV
      rw [hw, show decide (((X.length + A.length : Nat) : Int) < ((r - 1 : Nat) : Int)) = true by simp; omega, cond_true, i64_add1 (X.length + A.length) (by omega), e, req_pos ⟨by omega, by omega⟩, g1, g2, swap_adj2 _ _ _ _ _ hXA]
      rw [show (X.length + (A ++ [b]).length : Nat) = X.length + A.length + 1 by simp; omega]
      simp
  have hmv := mv R1 [] (by simp)
  rw [show ((X.length + ([] : List Int).length : Nat) : Int) = (X.length : Int) by simp, show X ++ [] ++ x :: R1 ++ R2 ++ Y = X ++ x :: (R1 ++ R2) ++ Y by simp] at hmv
  rw [hmv, sbind]
  refine ⟨R1 ++ x :: R2, by unfold slices_symMergeCmpFunc_int_ratio_Apportion_f1_j12; simp, List.perm_middle, ?_⟩
  obtain ⟨s1, s2, s3⟩ := List.pairwise_append.1 hsr
  have hR1x : ∀ a ∈ R1, RR (keyP c w s) a x := by
    rcases List.eq_nil_or_concat R1 with rfl | ⟨R1', z, rfl⟩
    · intro a ha; cases ha
    · rw [List.concat_eq_append] at *
      have hz : keyP c w s x < keyP c w s z := by
        rcases k4 with k4 | k4
        · simp at hR1; omega
        · have hP : keyP c w s x < keyP c w s (ix (X ++ x :: ((R1' ++ [z]) ++ R2) ++ Y) ((r - 1 : Nat) : Int)) := k4
          have hR1 : R1'.length + 1 = r - (X.length + 1) := by simpa using hR1
          have hzz : ix (X ++ x :: ((R1' ++ [z]) ++ R2) ++ Y) ((r - 1 : Nat) : Int) = z := by
            rw [show X ++ x :: ((R1' ++ [z]) ++ R2) ++ Y = (X ++ x :: R1') ++ z :: (R2 ++ Y) by simp]
            exact get_mid _ _ _ _ (by simp only [List.length_append, List.length_cons]; omega)
          rw [hzz] at hP; exact hP
      intro a ha
      rcases List.mem_append.1 ha with ha | ha
      · exact ((List.pairwise_append.1 s1).2.2 a ha z (by simp)).trans (.inl hz)
      · have : a = z := by simpa using ha
        rw [this]; exact .inl hz
  have hxR2 : ∀ b ∈ R2, RR (keyP c w s) x b := by
    match R2, k5, s2, hcr, k3, hlen with
    | [], _, _, _, _, _ => intro b hb'; cases hb'
    | z :: R2, k5, s2, hcr, k3, hlen =>
      have hz : RR (keyP c w s) x z := by
        have hc := hcr x (by simp) z (by simp)
        rcases k5 with k5 | k5
        · simp at k5; omega
        · have hP : ¬ keyP c w s x < keyP c w s (ix (X ++ x :: (R1 ++ z :: R2) ++ Y) (r : Int)) := k5
          have hzz : ix (X ++ x :: (R1 ++ z :: R2) ++ Y) (r : Int) = z := by
            rw [show X ++ x :: (R1 ++ z :: R2) ++ Y = (X ++ x :: R1) ++ z :: (R2 ++ Y) by simp]
            exact get_mid _ _ _ _ (by simp only [List.length_append, List.length_cons]; omega)
          rw [hzz] at hP
          unfold RR; omega
      intro b hb'
      rcases List.mem_cons.1 hb' with rfl | hb'
      · exact hz
      · exact hz.trans ((List.pairwise_cons.1 s2).1 b hb')
  refine List.pairwise_append.2 ⟨s1, List.pairwise_cons.2 ⟨hxR2, s2⟩, fun a ha b hb' => ?_⟩
  rcases List.mem_cons.1 hb' with rfl | hb'
  · exact hR1x a ha
  · exact s3 a ha b hb'
/-- one element on the right -/
theorem merge_right (hs : s ≠ 0) (X L Y : List Int) (x : Int) (hL2 : L.length ≠ 1) (hb : ∀ y ∈ L ++ [x], 0 ≤ y ∧ y < (w.length : Int)) (hsl : Srt (keyP c w s) L) (hcr : Crs (keyP c w s) L [x]) (hlen : X.length + L.length + 1 ≤ 1000)
    (rec_ : (List Int) → Int → Int → Int → Int → (List Int) → Int → Option (List Int)) :
    ∃ S, slices_symMergeCmpFunc_int_ratio_Apportion_f1_b rec_ (X ++ L ++ x :: Y) (X.length : Int) ((X.length + L.length : Nat) : Int) ((X.length + L.length + 1 : Nat) : Int) c w s = some (X ++ S ++ Y) ∧ S.Perm (L ++ [x]) ∧ Srt (keyP c w s) S := by
  have hxb := hb x (by simp)
  have hixx : ix (X ++ L ++ x :: Y) ((X.length + L.length : Nat) : Int) = x := get_mid _ _ _ _ (by simp)
  have hix : ∀ k : Nat, (h0 : X.length ≤ k) → (h : k < X.length + L.length) → ix (X ++ L ++ x :: Y) (k : Int) = L[k - X.length]'(by omega) := fun k h1 h2 => ix_seg X L (x :: Y) k h1 h2
  have hD : (X ++ L ++ x :: Y).length = X.length + L.length + 1 + Y.length := by simp; omega
  let Pq : Nat → Bool := fun k => !(decide (keyP c w s (ix (X ++ L ++ x :: Y) (k : Int)) < keyP c w s x))
  obtain ⟨r, k1, k2, k3, k4, k5⟩ := bs_loop (slices_symMergeCmpFunc_int_ratio_Apportion_f1_l10 (X ++ L ++ x :: Y) ((X.length + L.length : Nat) : Int) c w s) Pq X.length (X.length + L.length) (by omega)
    (fun lo hi h1 h2 h3 => by
      have hm := hb _ (List.mem_append_left [x] (List.getElem_mem (l := L) (n := (lo + hi) / 2 - X.length) (by omega)))
      rw [← hix ((lo + hi) / 2) (by omega) (by omega)] at hm
      obtain ⟨y, y1, y2⟩ := cmp_eq2 x (ix (X ++ L ++ x :: Y) (((lo + hi) / 2 : Nat) : Int)) c w s hs hxb hm
      simp only [slices_symMergeCmpFunc_int_ratio_Apportion_f1_l10]
      unfold bindV
      rw [show decide ((lo : Int) < (hi : Int)) = true by simp; omega, cond_true, half lo hi (by omega)]
      dsimp only
      rw [req_pos ⟨by omega, by omega⟩, hixx, y1, sbind, y2]
      show _ = some (Sum.inl (if Pq ((lo + hi) / 2) = true then _ else _))
      rcases bcases (!(decide (keyP c w s (ix (X ++ L ++ x :: Y) (((lo + hi) / 2 : Nat) : Int)) < keyP c w s x))) with q | q
      · rw [q, cond_true, if_pos q, i64_add1 _ (by omega)]
      · rw [q, cond_false, if_neg (by show ¬ ((!(decide _)) = true); rw [q]; simp)])
    (fun lo => by
      simp only [slices_symMergeCmpFunc_int_ratio_Apportion_f1_l10]
      rw [show decide ((lo : Int) < (lo : Int)) = false by simp, cond_false])
  have k4 : r = X.length ∨ ¬ keyP c w s (ix (X ++ L ++ x :: Y) ((r - 1 : Nat) : Int)) < keyP c w s x := k4.imp id (fun h => by have h : (!(decide (keyP c w s (ix (X ++ L ++ x :: Y) ((r - 1 : Nat) : Int)) < keyP c w s x))) = true := h; simpa using h)
  have k5 : r = X.length + L.length ∨ keyP c w s (ix (X ++ L ++ x :: Y) (r : Int)) < keyP c w s x := k5.imp id (fun h => by have h : (!(decide (keyP c w s (ix (X ++ L ++ x :: Y) (r : Int)) < keyP c w s x))) = false := h; simpa using h)
  obtain ⟨L1, L2, rfl, hL1⟩ : ∃ L1 L2, L = L1 ++ L2 ∧ L1.length = r - X.length := ⟨L.take (r - X.length), L.drop (r - X.length), (List.take_append_drop _ _).symm, by simp only [List.length_take]; omega⟩
  simp only [List.length_append] at k3 hlen hL2
  unfold slices_symMergeCmpFunc_int_ratio_Apportion_f1_b
  rw [show IntKind.i64.wrap (((X.length + (L1 ++ L2).length : Nat) : Int) - (X.length : Int)) = (((L1 ++ L2).length : Nat) : Int) by rw [wrap64 (by simp; omega) (by simp; omega)]; omega, show ((((L1 ++ L2).length : Nat) : Int) == 1) = false by simp; omega, cond_false]
  unfold slices_symMergeCmpFunc_int_ratio_Apportion_f1_j11
  rw [show IntKind.i64.wrap (((X.length + (L1 ++ L2).length + 1 : Nat) : Int) - ((X.length + (L1 ++ L2).length : Nat) : Int)) = 1 by rw [wrap64 (by omega) (by omega)]; omega, show ((1 : Int) == 1) = true from rfl, cond_true, k1, sbind]
  unfold slices_symMergeCmpFunc_int_ratio_Apportion_f1_j9
  have mv : ∀ (m : Nat) (A B : List Int), A.length = m → A.length + B.length = L2.length → iter (slices_symMergeCmpFunc_int_ratio_Apportion_f1_l8 (r : Int)) (((r + A.length : Nat) : Int), X ++ L1 ++ A ++ x :: B ++ Y) = some (X ++ L1 ++ x :: (A ++ B) ++ Y) := by
    intro m
    induction m with
    | zero =>
      intro A B hA hB
      have : A = [] := List.eq_nil_of_length_eq_zero hA
      subst this
      have : iter (slices_symMergeCmpFunc_int_ratio_Apportion_f1_l8 (r : Int)) (((r + ([] : List Int).length : Nat) : Int), X ++ L1 ++ [] ++ x :: B ++ Y) = some (X ++ L1 ++ [] ++ x :: B ++ Y) := by
        refine iter_inr ?_
        simp only [slices_symMergeCmpFunc_int_ratio_Apportion_f1_l8]
        rw [show decide ((r : Int) < ((r + ([] : List Int).length : Nat) : Int)) = false by simp, cond_false]
      rw [this]; simp
    | succ m ih =>
      intro A B hA hB
      rcases List.eq_nil_or_concat A with rfl | ⟨A', a, rfl⟩
      · cases hA
      · rw [List.concat_eq_append] at *
        have hA : A'.length = m := by simpa using hA
        have hB : A'.length + 1 + B.length = L2.length := by simpa using hB
        have := ih A' (a :: B) hA (by simp; omega)
        rw [show X ++ L1 ++ x :: (A' ++ [a] ++ B) ++ Y = X ++ L1 ++ x :: (A' ++ a :: B) ++ Y by simp, ← this]
        refine iter_inl ?_
        simp only [slices_symMergeCmpFunc_int_ratio_Apportion_f1_l8]
        have e : X ++ L1 ++ (A' ++ [a]) ++ x :: B ++ Y = (X ++ L1 ++ A') ++ a :: x :: (B ++ Y) := by simp
        have hXA : (X ++ L1 ++ A').length = r + A'.length := by simp only [List.length_append]; omega
        have hw : IntKind.i64.wrap (((r + (A' ++ [a]).length : Nat) : Int) - 1) = ((r + A'.length : Nat) : Int) := by rw [wrap64 (by simp; omega) (by simp; omega)]; simp; omega
        have hidx : r + (A' ++ [a]).length = r + A'.length + 1 := by simp; omega
        have g1 : ix ((X ++ L1 ++ A') ++ a :: x :: (B ++ Y)) ((r + A'.length : Nat) : Int) = a := get_mid _ _ _ _ hXA
        have g2 : ix ((X ++ L1 ++ A') ++ a :: x :: (B ++ Y)) ((r + A'.length + 1 : Nat) : Int) = x := by
          rw [show (X ++ L1 ++ A') ++ a :: x :: (B ++ Y) = (X ++ L1 ++ A' ++ [a]) ++ x :: (B ++ Y) by simp]
          exact get_mid _ _ _ _ (by rw [List.length_append, hXA]; rfl)
        have hl2 : ((X ++ L1 ++ A') ++ a :: x :: (B ++ Y)).length = r + A'.length + 2 + (B ++ Y).length := by rw [List.length_append, hXA]; simp only [List.length_cons]; omega
        unfold bindV
        rw [hw, hidx, show decide ((r : Int) < ((r + A'.length + 1 : Nat) : Int)) = true by simp; omega, cond_true, e, req_pos ⟨by omega, by omega⟩, g1, g2, swap_adj _ _ _ _ _ hXA]
        simp
  have hmv := mv L2.length L2 [] rfl (by simp)
  rw [show ((r + L2.length : Nat) : Int) = ((X.length + (L1 ++ L2).length : Nat) : Int) by simp; omega, show X ++ L1 ++ L2 ++ x :: [] ++ Y = X ++ (L1 ++ L2) ++ x :: Y by simp] at hmv
  rw [hmv, sbind]
  refine ⟨L1 ++ x :: L2, by unfold slices_symMergeCmpFunc_int_ratio_Apportion_f1_j7; simp, ?_, ?_⟩
  · have h1 : (L1 ++ x :: L2).Perm (x :: (L1 ++ L2)) := List.perm_middle
    exact h1.trans (List.perm_append_singleton x (L1 ++ L2)).symm
  obtain ⟨s1, s2, s3⟩ := List.pairwise_append.1 hsl
  have hL1x : ∀ a ∈ L1, RR (keyP c w s) a x := by
    rcases List.eq_nil_or_concat L1 with rfl | ⟨L1', z, rfl⟩
    · intro a ha; cases ha
    · rw [List.concat_eq_append] at *
      have hz : RR (keyP c w s) z x := by
        have hc := hcr z (by simp) x (by simp)
        have hL1 : L1'.length + 1 = r - X.length := by simpa using hL1
        rcases k4 with k4 | k4
        · omega
        · have hP : ¬ keyP c w s (ix (X ++ ((L1' ++ [z]) ++ L2) ++ x :: Y) ((r - 1 : Nat) : Int)) < keyP c w s x := k4
          have hzz : ix (X ++ ((L1' ++ [z]) ++ L2) ++ x :: Y) ((r - 1 : Nat) : Int) = z := by
            rw [show X ++ ((L1' ++ [z]) ++ L2) ++ x :: Y = (X ++ L1') ++ z :: (L2 ++ x :: Y) by simp]
            exact get_mid _ _ _ _ (by simp only [List.length_append]; omega)
          rw [hzz] at hP
          unfold RR; omega
      intro a ha
      rcases List.mem_append.1 ha with ha | ha
      · exact ((List.pairwise_append.1 s1).2.2 a ha z (by simp)).trans hz
      · have : a = z := by simpa using ha
        rw [this]; exact hz
  have hxL2 : ∀ b ∈ L2, RR (keyP c w s) x b := by
    match L2, k5, s2, k3, hlen with
    | [], _, _, _, _ => intro b hb'; cases hb'
    | z :: L2, k5, s2, k3, hlen =>
      have hz : RR (keyP c w s) x z := by
        rcases k5 with k5 | k5
        · simp at k5; omega
        · have hP : keyP c w s (ix (X ++ (L1 ++ z :: L2) ++ x :: Y) (r : Int)) < keyP c w s x := k5
          have hzz : ix (X ++ (L1 ++ z :: L2) ++ x :: Y) (r : Int) = z := by
            rw [show X ++ (L1 ++ z :: L2) ++ x :: Y = (X ++ L1) ++ z :: (L2 ++ x :: Y) by simp]
            exact get_mid _ _ _ _ (by simp only [List.length_append]; omega)
          rw [hzz] at hP
          exact .inl hP
      intro b hb'
      rcases List.mem_cons.1 hb' with rfl | hb'
      · exact hz
      · exact hz.trans ((List.pairwise_cons.1 s2).1 b hb')
  refine List.pairwise_append.2 ⟨s1, List.pairwise_cons.2 ⟨hxL2, s2⟩, fun a ha b hb' => ?_⟩
  rcases List.mem_cons.1 hb' with rfl | hb'
  · exact hL1x a ha
  · exact s3 a ha b hb'
end
end Go.LS
