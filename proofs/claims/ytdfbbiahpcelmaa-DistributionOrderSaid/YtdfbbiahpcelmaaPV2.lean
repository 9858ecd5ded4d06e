/-
  DistributionOrder: the counts do not depend on the order of the scores, and the mean is that of the scores.
  Conditions: the list's elements are bytes.
-/
import Derived.Test.YtdfbbiahpcelmaaPV1
namespace Go.LS
set_option linter.all false
set_option linter.unusedSimpArgs false
set_option linter.unusedVariables false
set_option maxRecDepth 20000

theorem sbnd {α β : Type} (x : α) (f : α → Option β) : (some x).bind f = f x := rfl
def inc (w : List Int) (s : Int) : List Int := w.set s.toNat (w.getD s.toNat 0 + 1)
theorem inc_len (w : List Int) (s : Int) : (inc w s).length = w.length := by simp [inc]
theorem inc_comm (w : List Int) (a b : Int) : inc (inc w a) b = inc (inc w b) a := by
  unfold inc
  by_cases h : a.toNat = b.toNat
  · rw [h]
  · have e1 : (w.set a.toNat (w.getD a.toNat 0 + 1)).getD b.toNat 0 = w.getD b.toNat 0 := by
      simp only [List.getD_eq_getElem?_getD, List.getElem?_set_ne h]
    have e2 : (w.set b.toNat (w.getD b.toNat 0 + 1)).getD a.toNat 0 = w.getD a.toNat 0 := by
      simp only [List.getD_eq_getElem?_getD, List.getElem?_set_ne (Ne.symm h)]
    rw [e1, e2, List.set_comm _ _ h]
theorem foldl_inc_comm (l : List Int) : ∀ (w : List Int) (a : Int), l.foldl inc (inc w a) = inc (l.foldl inc w) a := by
  induction l with
  | nil => intro w a; rfl
  | cons b l ih => intro w a; simp only [List.foldl_cons]; rw [inc_comm, ih]
theorem foldl_inc_rev (l : List Int) : ∀ w, l.reverse.foldl inc w = l.foldl inc w := by
  induction l with
  | nil => intro w; rfl
  | cons b l ih => intro w; rw [List.reverse_cons, List.foldl_append, ih]; simp only [List.foldl_cons, List.foldl_nil]; rw [foldl_inc_comm]
theorem sumI_inc (w : List Int) : ∀ (k : Nat), k < w.length → sumI (w.set k (w.getD k 0 + 1)) = sumI w + 1 := by
  induction w with
  | nil => intro k h; simp at h
  | cons a w ih =>
    intro k h
    cases k with
    | zero => simp only [List.set_cons_zero, List.getD_cons_zero, sumI]; omega
    | succ k => simp only [List.set_cons_succ, sumI, List.getD_cons_succ]; rw [ih k (by simpa using h)]; omega
theorem ss_inc (w : List Int) : ∀ (k j : Nat), k < w.length → ss j (w.set k (w.getD k 0 + 1)) = ss j w + ((j + k : Nat) : Int) := by
  induction w with
  | nil => intro k j h; simp at h
  | cons a w ih =>
    intro k j h
    cases k with
    | zero => simp only [List.set_cons_zero, List.getD_cons_zero, ss]; rw [Int.mul_add]; omega
    | succ k => simp only [List.set_cons_succ, List.getD_cons_succ, ss]; rw [ih k (j + 1) (by simpa using h)]; omega
theorem fold_inc (l : List Int) : ∀ (w : List Int), (∀ c ∈ l, 0 ≤ c ∧ c < (w.length : Int)) → (l.foldl inc w).length = w.length ∧ sumI (l.foldl inc w) = sumI w + l.length ∧ ss 0 (l.foldl inc w) = ss 0 w + sumI l ∧ ((∀ c ∈ w, 0 ≤ c) → ∀ c ∈ l.foldl inc w, 0 ≤ c) := by
  induction l with
  | nil => intro w _; simp [sumI]
  | cons a l ih =>
    intro w h
    have ha := h a (by simp)
    obtain ⟨h1, h2, h3, h4⟩ := ih (inc w a) (fun c hc => by rw [inc_len]; exact h c (by simp [hc]))
    have hlt : a.toNat < w.length := by omega
    have e1 := sumI_inc w a.toNat hlt
    have e2 := ss_inc w a.toNat 0 hlt
    simp only [List.foldl_cons]
    refine ⟨by rw [h1, inc_len], ?_, ?_, fun hw => h4 ?_⟩
    · rw [h2]; unfold inc; rw [e1]; simp only [List.length_cons]; omega
    · rw [h3]; unfold inc; rw [e2]; simp only [sumI]; omega
    · intro c hc
      unfold inc at hc
      rcases List.mem_or_eq_of_mem_set hc with g | g
      · exact hw c g
      · subst g
        have : 0 ≤ w.getD a.toNat 0 := by
          rw [List.getD_eq_getElem?_getD, List.getElem?_eq_getElem hlt, Option.getD_some]
          exact hw _ (List.getElem_mem _)
        omega
theorem setI_nat2 {α : Type} (l : List α) (k : Nat) (x : α) : setI l (k : Int) x = l.set k x := by simp [setI]
theorem vMake (l : List Int) (most : Nat) (hm : most ≤ 200) (hl : l.length ≤ 1048576) (h : ∀ c ∈ l, 0 ≤ c ∧ c ≤ (most : Int)) : distribution_Make l (most : Int) = some (⟨l.foldl inc (List.replicate (most + 1) 0)⟩, 0) := by
  unfold distribution_Make
  rw [show ((decide ((most : Int) < (0 : Int))) || (decide ((200 : Int) < (most : Int)))) = false by simp only [Bool.or_eq_false_iff, decide_eq_false_iff_not]; omega, cond_false]
  have k1 : ∀ (n j : Nat), l.length - j = n → j ≤ l.length → iter (distribution_Make_l4 l most) (j : Int) = some (.inl ()) := by
    intro n
    induction n with
    | zero =>
      intro j hn hj
      have : j = l.length := by omega
      subst this
      refine iter_inr ?_
      simp [distribution_Make_l4]
    | succ n ih =>
      intro j hn hj
      have hj' : j < l.length := by omega
      have hc := h l[j] (List.getElem_mem hj')
      have st : distribution_Make_l4 l most (j : Int) = some (.inl ((j + 1 : Nat) : Int)) := by
        simp only [distribution_Make_l4, ix_nat l j hj']
        rw [show decide ((j : Int) < (l.length : Int)) = true by simp; omega, cond_true, req_pos (by omega), show ((decide (l[j] < (0 : Int))) || (decide ((most : Int) < l[j]))) = false by simp only [Bool.or_eq_false_iff, decide_eq_false_iff_not]; omega, cond_false, i64_add1 j (by omega)]
      rw [iter_inl st]
      exact ih (j + 1) (by omega) (by omega)
  rw [show iter (distribution_Make_l4 l most) (0 : Int) = some (.inl ()) from k1 _ 0 rfl (by omega)]
  show distribution_Make_j3 l (most : Int) = _
  unfold distribution_Make_j3
  rw [show decide ((1048576 : Int) < (l.length : Int)) = false by simp only [decide_eq_false_iff_not]; omega, cond_false, i64_add1 most (by omega), req_pos ⟨by omega, by omega⟩]
  have k2 : ∀ (n j : Nat) (w : List Int), l.length - j = n → j ≤ l.length → w.length = most + 1 → (∀ c ∈ w, 0 ≤ c ∧ c ≤ (j : Int)) → iter (distribution_Make_l2 l) ((j : Int), w) = some ((l.drop j).foldl inc w) := by
    intro n
    induction n with
    | zero =>
      intro j w hn hj hw hb
      have : j = l.length := by omega
      subst this
      rw [List.drop_length]
      refine iter_inr ?_
      simp [distribution_Make_l2]
    | succ n ih =>
      intro j w hn hj hw hb
      have hj' : j < l.length := by omega
      have hc := h l[j] (List.getElem_mem hj')
      obtain ⟨m, hm'⟩ : ∃ m : Nat, l[j] = (m : Int) := ⟨l[j].toNat, by omega⟩
      have hmw : m < w.length := by omega
      have hwm := hb w[m] (List.getElem_mem hmw)
      have hgd : w.getD l[j].toNat 0 = w[m] := by
        rw [hm', Int.toNat_natCast, List.getD_eq_getElem?_getD, List.getElem?_eq_getElem hmw, Option.getD_some]
      have st : distribution_Make_l2 l ((j : Int), w) = some (.inl (((j + 1 : Nat) : Int), inc w l[j])) := by
        have hi : inc w l[j] = w.set m (w[m] + 1) := by unfold inc; rw [hgd, hm', Int.toNat_natCast]
        rw [hi]
        simp only [distribution_Make_l2, bindV, ix_nat l j hj', hm', ix_nat w m hmw, setI_nat2]
        rw [show decide ((j : Int) < (l.length : Int)) = true by simp; omega, cond_true, req_pos (by omega), req_pos (by omega), i64_add1 j (by omega), wrap64 (by omega) (by omega)]
      have hb2 : ∀ c ∈ inc w l[j], 0 ≤ c ∧ c ≤ ((j + 1 : Nat) : Int) := by
        intro c hc'
        unfold inc at hc'
        rcases List.mem_or_eq_of_mem_set hc' with g | g
        · have := hb c g; omega
        · rw [hgd] at g; omega
      rw [iter_inl st, ih (j + 1) _ (by omega) (by omega) (by rw [inc_len]; exact hw) hb2, List.drop_eq_getElem_cons hj']
      rfl
  have k3 := k2 l.length 0 (List.replicate (most + 1) 0) (by omega) (by omega) (by simp) (by intro c hc; rw [List.mem_replicate] at hc; omega)
  rw [show rep ((most + 1 : Nat) : Int) (0 : Int) = List.replicate (most + 1) 0 by simp [rep], show ((0 : Int), List.replicate (most + 1) (0 : Int)) = (((0 : Nat) : Int), List.replicate (most + 1) (0 : Int)) by rfl, k3, List.drop_zero]
  rfl
theorem same_refl (a : api_Distribution) (h : a.Counts.length ≤ 1000) : ref32_Same a a = some true := by
  unfold ref32_Same
  rw [show ((a.Counts.length : Int) != (a.Counts.length : Int)) = false by simp, cond_false]
  have key : ∀ (n j : Nat), a.Counts.length - j = n → j ≤ a.Counts.length → iter (ref32_Same_l2 a a) (j : Int) = some (.inl ()) := by
    intro n
    induction n with
    | zero =>
      intro j hn hj
      have : j = a.Counts.length := by omega
      subst this
      refine iter_inr ?_
      simp [ref32_Same_l2]
    | succ n ih =>
      intro j hn hj
      have hj' : j < a.Counts.length := by omega
      have st : ref32_Same_l2 a a (j : Int) = some (.inl ((j + 1 : Nat) : Int)) := by
        simp only [ref32_Same_l2]
        rw [show decide ((j : Int) < (a.Counts.length : Int)) = true by simp; omega, cond_true, req_pos (by omega), show (ix a.Counts (j : Int) != ix a.Counts (j : Int)) = false by simp, cond_false, i64_add1 j (by omega)]
      rw [iter_inl st]
      exact ih (j + 1) (by omega) (by omega)
  rw [show iter (ref32_Same_l2 a a) (0 : Int) = some (.inl ()) from key _ 0 rfl (by omega)]
  rfl
def q40 (c : Int) : Int := Int.tmod c 40
theorem q40_b (c : Int) (h : 0 ≤ c) : 0 ≤ q40 c ∧ q40 c < 40 := ⟨Int.tmod_nonneg _ h, Int.tmod_lt_of_pos _ (by decide)⟩
theorem order_loop (l : List Int) (hl : l.length ≤ 60) (hb : ∀ c ∈ l, 0 ≤ c ∧ c < 256) : iter (law32_DistributionOrder_l2 l) ((0 : Int), (0 : Int), ([] : List Int), ([] : List Int)) = some (sumI (l.map q40), l.map q40, (l.map q40).reverse) := by
  have hmb : ∀ c ∈ l.map q40, 0 ≤ c ∧ c ≤ 40 := by
    intro c hc
    obtain ⟨d, hd, rfl⟩ := List.mem_map.1 hc
    have := q40_b d (hb d hd).1
    omega
  have key : ∀ (n k : Nat), l.length - k = n → k ≤ l.length → iter (law32_DistributionOrder_l2 l) (sumI ((l.map q40).take k), (k : Int), (l.map q40).take k, (l.map q40).reverse.take k) = some (sumI (l.map q40), l.map q40, (l.map q40).reverse) := by
    intro n
    induction n with
    | zero =>
      intro k hn hk
      have : k = l.length := by omega
      subst this
      rw [List.take_of_length_le (by simp), List.take_of_length_le (by simp)]
      refine iter_inr ?_
      simp [law32_DistributionOrder_l2]
    | succ n ih =>
      intro k hn hk
      have hk' : k < l.length := by omega
      have hk2 : l.length - 1 - k < l.length := by omega
      have t1 : (l.map q40).take (k + 1) = (l.map q40).take k ++ [q40 l[k]] := by
        rw [List.take_succ_eq_append_getElem (by simpa using hk')]; simp
      have t2 : (l.map q40).reverse.take (k + 1) = (l.map q40).reverse.take k ++ [q40 (l[l.length - 1 - k]'hk2)] := by
        rw [List.take_succ_eq_append_getElem (by simpa using hk')]; simp
      have t3 : sumI ((l.map q40).take (k + 1)) = sumI ((l.map q40).take k) + q40 l[k] := by
        rw [t1, sumI_append]; simp [sumI]
      have ln1 : ((l.map q40).take k).length = k := by simp; omega
      have ln2 : ((l.map q40).reverse.take k).length = k := by simp; omega
      have bS := sumI_bound ((l.map q40).take k) 40 (fun c hc => hmb c (List.mem_of_mem_take hc))
      rw [ln1] at bS
      have b1 := q40_b l[k] (hb _ (List.getElem_mem hk')).1
      have b2 := q40_b (l[l.length - 1 - k]'hk2) (hb _ (List.getElem_mem hk2)).1
      have st : law32_DistributionOrder_l2 l (sumI ((l.map q40).take k), (k : Int), (l.map q40).take k, (l.map q40).reverse.take k) = some (.inl (sumI ((l.map q40).take (k + 1)), ((k + 1 : Nat) : Int), (l.map q40).take (k + 1), (l.map q40).reverse.take (k + 1))) := by
        rw [t3, t1, t2]
        revert ln1 ln2 bS
        generalize sumI (List.take k (List.map q40 l)) = S
        generalize List.take k (List.map q40 l) = X
        generalize List.take k (List.map q40 l).reverse = Y
        intro ln1 ln2 bS
        have e1 : IntKind.i64.wrap ((IntKind.i64.wrap ((l.length : Int) - 1)) - (k : Int)) = ((l.length - 1 - k : Nat) : Int) := by
          rw [wrap64 (n := (l.length : Int) - 1) (by omega) (by omega), wrap64 (by omega) (by omega)]; omega
        have w1 : IntKind.i64.wrap (Int.tmod l[k] 40) = q40 l[k] := wrap64 (n := q40 l[k]) (by omega) (by omega)
        have w2 : IntKind.i64.wrap (Int.tmod (l[l.length - 1 - k]'hk2) 40) = q40 (l[l.length - 1 - k]'hk2) := wrap64 (n := q40 (l[l.length - 1 - k]'hk2)) (by omega) (by omega)
        simp only [law32_DistributionOrder_l2, bindV, e1, ix_nat l k hk', ix_nat l _ hk2, w1, w2]
        rw [show decide ((k : Int) < (l.length : Int)) = true by simp; omega, cond_true, req_pos ⟨by omega, by simp only [List.length_cons, List.length_nil]; omega, by omega, by simp only [List.length_cons, List.length_nil]; omega⟩, req_pos (by omega), i64_add1 k (by omega), wrap64 (by omega) (by omega)]
      rw [iter_inl st]
      exact ih (k + 1) (by omega) (by omega)
  exact key _ 0 rfl (by omega)
theorem pure_DistributionOrder (l : List Int) (hb : ∀ c ∈ l, 0 ≤ c ∧ c < 256) : law32_DistributionOrder l = some true := by
  unfold law32_DistributionOrder
  by_cases hl : l.length ≤ 60
  · rw [show decide ((60 : Int) < (l.length : Int)) = false by simp only [decide_eq_false_iff_not]; omega, cond_false, order_loop l hl hb]
    show law32_DistributionOrder_j1 l (sumI (l.map q40)) (l.map q40) (l.map q40).reverse = _
    have hm : ∀ c ∈ l.map q40, 0 ≤ c ∧ c ≤ ((39 : Nat) : Int) := by
      intro c hc
      obtain ⟨d, hd, rfl⟩ := List.mem_map.1 hc
      have := q40_b d (hb d hd).1
      omega
    have hmr : ∀ c ∈ (l.map q40).reverse, 0 ≤ c ∧ c ≤ ((39 : Nat) : Int) := fun c hc => hm c (List.mem_reverse.1 hc)
    have hlm : (l.map q40).length = l.length := by simp
    have bS := sumI_bound (l.map q40) 39 (fun c hc => by have := hm c hc; omega)
    rw [hlm] at bS
    obtain ⟨f1, f2, f3, f4⟩ := fold_inc (l.map q40) (List.replicate 40 0) (fun c hc => by have := hm c hc; rw [List.length_replicate]; omega)
    have M1 : distribution_Make (l.map q40) 39 = some (⟨(l.map q40).foldl inc (List.replicate 40 0)⟩, 0) := vMake (l.map q40) 39 (by omega) (by rw [hlm]; omega) hm
    have M2 : distribution_Make (l.map q40).reverse 39 = some (⟨(l.map q40).foldl inc (List.replicate 40 0)⟩, 0) := by
      rw [← foldl_inc_rev]; exact vMake (l.map q40).reverse 39 (by omega) (by rw [List.length_reverse, hlm]; omega) hmr
    revert f1 f2 f3 f4 M1 M2
    generalize (l.map q40).foldl inc (List.replicate 40 0) = W
    intro f1 f2 f3 f4 M1 M2
    rw [List.length_replicate] at f1
    rw [show sumI (List.replicate 40 (0 : Int)) = 0 by rfl, hlm] at f2
    rw [show ss 0 (List.replicate 40 (0 : Int)) = 0 by rfl] at f3
    have V : VD ⟨W⟩ := ⟨by show 1 ≤ W.length; omega, by show W.length ≤ 201; omega, f4 (fun c hc => by rw [List.mem_replicate] at hc; omega), by show sumI W ≤ 1048576; omega⟩
    have cnt : count ⟨W⟩ = (l.length : Int) := by unfold count; show sumI W = _; omega
    have sco : scores ⟨W⟩ = sumI (l.map q40) := by unfold scores; show ss 0 W = _; omega
    unfold law32_DistributionOrder_j1
    rw [M1, sbnd]
    dsimp only
    rw [M2, sbnd]
    dsimp only
    rw [same_refl ⟨W⟩ (by show W.length ≤ 1000; omega), vCount ⟨W⟩ V, cnt, req_pos ⟨fun _ => rfl, fun _ => rfl⟩]
    rw [show ((((((0 : Int) != (0 : Int)) || ((0 : Int) != (0 : Int))) || (!((some true).getD default))) || (((some (l.length : Int)).getD default) != (l.length : Int)))) = false by simp, cond_false, vMean ⟨W⟩ V, sbnd]
    by_cases h0 : l.length = 0
    · rw [show meanOf ⟨W⟩ = (⟨0, 0⟩, 10) by unfold meanOf; rw [if_pos (by rw [cnt]; omega)]]
      dsimp only
      rw [show ((l.length : Int) == (0 : Int)) = true by rw [h0]; rfl, cond_true, sane_eq]
      simp [req]
    · obtain ⟨r, n1, _⟩ := newOf_ok (sumI (l.map q40)) (l.length : Int) (by omega) (by omega) (by omega) (by omega)
      rw [show meanOf ⟨W⟩ = (r, 0) by unfold meanOf; rw [if_neg (by rw [cnt]; omega), cnt, sco, n1]]
      dsimp only
      rw [show ((l.length : Int) == (0 : Int)) = false by rw [beq_eq_false_iff_ne]; omega, cond_false, NewR_eq _ _ ⟨by omega, by omega⟩ ⟨by omega, by omega⟩, n1, sbnd]
      dsimp only
      rw [sane_eq]
      simp [req]
  · rw [show decide ((60 : Int) < (l.length : Int)) = true by simp only [decide_eq_true_eq]; omega, cond_true, sane_eq]
    rfl
end Go.LS
