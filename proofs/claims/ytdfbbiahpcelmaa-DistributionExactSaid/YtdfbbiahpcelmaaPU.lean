/-
  Distributions: what the functions compute, in closed form, for small distributions.
  Conditions: Sm (few scores, small counts).
-/
import Derived.Test.YtdfbbiahpcelmaaPS
namespace Go.LS
set_option linter.all false
set_option linter.unusedSimpArgs false
set_option linter.unusedVariables false
set_option maxRecDepth 20000

theorem iter_foldR {α β ρ : Type} (l : List α) (f : β × Int → Option ((β × Int) ⊕ ρ)) (g : β → α → β) (fin : β → ρ) (I : Nat → β → Prop)
    (hstep : ∀ (k : Nat) (b : β) (hk : k < l.length), I k b → f (b, (k : Int)) = some (.inl (g b l[k], ((k + 1 : Nat) : Int))) ∧ I (k + 1) (g b l[k]))
    (hend : ∀ b, I l.length b → f (b, (l.length : Int)) = some (.inr (fin b))) (b : β) (h0 : I 0 b) : iter f (b, (0 : Int)) = some (fin (l.foldl g b)) := by
  have key : ∀ (n k : Nat) (b : β), l.length - k = n → k ≤ l.length → I k b → iter f (b, (k : Int)) = some (fin ((l.drop k).foldl g b)) := by
    intro n
    induction n with
    | zero =>
      intro k b hn hk hI
      have : k = l.length := by omega
      subst this
      rw [iter_inr (hend b hI), List.drop_length]; rfl
    | succ n ih =>
      intro k b hn hk hI
      have hk' : k < l.length := by omega
      obtain ⟨h1, h2⟩ := hstep k b hk' hI
      rw [iter_inl h1, ih (k + 1) _ (by omega) (by omega) h2, List.drop_eq_getElem_cons hk']; rfl
  have := key _ 0 b rfl (by omega) h0
  simpa using this
theorem iter_of_N {σ ρ : Type} {f : σ → Option (σ ⊕ ρ)} {s : σ} {r : ρ} (n : Nat) (h : iterN f n s = some r) : iter f s = some r := iter_iff.2 ⟨n, h⟩

def sumI : List Int → Int
  | [] => 0
  | a :: l => a + sumI l
theorem sumI_append (l m : List Int) : sumI (l ++ m) = sumI l + sumI m := by
  induction l with
  | nil => simp [sumI]
  | cons a l ih => simp only [List.cons_append, sumI, ih]; omega
theorem sumI_take_succ (l : List Int) (k : Nat) (h : k < l.length) : sumI (l.take (k + 1)) = sumI (l.take k) + l[k] := by
  rw [List.take_succ_eq_append_getElem h, sumI_append]; simp [sumI]
theorem foldl_sum (l : List Int) : ∀ b : Int, l.foldl (fun b a => b + a) b = b + sumI l := by
  induction l with
  | nil => intro b; simp [sumI]
  | cons a l ih => intro b; simp only [List.foldl_cons, ih, sumI]; omega
theorem sumI_bound (l : List Int) (k : Int) (h : ∀ c ∈ l, 0 ≤ c ∧ c ≤ k) : 0 ≤ sumI l ∧ sumI l ≤ k * l.length := by
  induction l with
  | nil => simp [sumI]
  | cons a l ih =>
    have h1 := h a (by simp)
    have h2 := ih fun c hc => h c (by simp [hc])
    simp only [sumI, List.length_cons]
    have : k * ((l.length + 1 : Nat) : Int) = k * l.length + k := by rw [Int.natCast_add, Int.mul_add]; simp
    omega
theorem sumI_mono (l : List Int) (h : ∀ c ∈ l, 0 ≤ c) : ∀ (j k : Nat), j ≤ k → sumI (l.take j) ≤ sumI (l.take k) := by
  intro j k hjk
  induction k with
  | zero => have : j = 0 := by omega
            subst this; omega
  | succ k ih =>
    by_cases hj : j = k + 1
    · subst hj; omega
    · have h1 := ih (by omega)
      by_cases hk : k < l.length
      · rw [sumI_take_succ l k hk]
        have := h l[k] (List.getElem_mem hk)
        omega
      · rw [List.take_of_length_le (show l.length ≤ k + 1 by omega)]
        rw [List.take_of_length_le (show l.length ≤ k by omega)] at h1
        exact h1
def ss : Nat → List Int → Int
  | _, [] => 0
  | k, c :: l => (k : Int) * c + ss (k + 1) l
theorem ss_append (l m : List Int) : ∀ k, ss k (l ++ m) = ss k l + ss (k + l.length) m := by
  induction l with
  | nil => intro k; simp [ss]
  | cons a l ih => intro k; simp only [List.cons_append, ss, ih, List.length_cons]; rw [show k + 1 + l.length = k + (l.length + 1) by omega]; omega
theorem ss_take_succ (l : List Int) (k : Nat) (h : k < l.length) : ss 0 (l.take (k + 1)) = ss 0 (l.take k) + (k : Int) * l[k] := by
  rw [List.take_succ_eq_append_getElem h, ss_append]
  simp [ss, Nat.min_eq_left (Nat.le_of_lt h)]
structure Sm (d : api_Distribution) : Prop where
  lo : 1 ≤ d.Counts.length
  hi : d.Counts.length ≤ 20
  c : ∀ c ∈ d.Counts, 0 ≤ c ∧ c ≤ 100
theorem Sm.take {d : api_Distribution} (h : Sm d) (k : Nat) : 0 ≤ sumI (d.Counts.take k) ∧ sumI (d.Counts.take k) ≤ 2000 := by
  have := sumI_bound (d.Counts.take k) 100 (fun c hc => h.c c (List.mem_of_mem_take hc))
  have h2 : ((d.Counts.take k).length : Int) ≤ 20 := by have := h.hi; simp; omega
  omega
theorem Sm.all {d : api_Distribution} (h : Sm d) : 0 ≤ sumI d.Counts ∧ sumI d.Counts ≤ 2000 := by
  have := h.take d.Counts.length
  rwa [List.take_length] at this
theorem ss_bound (l : List Int) : ∀ (k : Nat), k + l.length ≤ 20 → (∀ c ∈ l, 0 ≤ c ∧ c ≤ 100) → 0 ≤ ss k l ∧ ss k l ≤ 2000 * l.length := by
  induction l with
  | nil => intro k _ _; simp [ss]
  | cons a l ih =>
    intro k hk h
    have h1 := h a (by simp)
    simp only [List.length_cons] at hk
    have h2 := ih (k + 1) (by omega) fun c hc => h c (by simp [hc])
    simp only [ss, List.length_cons]
    have h3 : 0 ≤ (k : Int) * a := Int.mul_nonneg (by omega) h1.1
    have h4 : (k : Int) * a ≤ 20 * 100 := Int.mul_le_mul (by omega) h1.2 h1.1 (by omega)
    omega
theorem Sm.ss {d : api_Distribution} (h : Sm d) (k : Nat) : 0 ≤ ss 0 (d.Counts.take k) ∧ ss 0 (d.Counts.take k) ≤ 40000 := by
  have := ss_bound (d.Counts.take k) 0 (by have := h.hi; simp; omega) (fun c hc => h.c c (List.mem_of_mem_take hc))
  have h2 : ((d.Counts.take k).length : Int) ≤ 20 := by have := h.hi; simp; omega
  omega
theorem dValid (d : api_Distribution) (h : Sm d) : distribution_Valid d = some true := by
  unfold distribution_Valid
  have h1 := h.lo
  have h2 := h.hi
  rw [show ((decide ((d.Counts.length : Int) < (1 : Int))) || (decide ((201 : Int) < (d.Counts.length : Int)))) = false by simp; omega, cond_false]
  rw [iter_foldR d.Counts (distribution_Valid_l2 d) (fun b c => b + c) (fun b => .inl b) (fun k b => b = sumI (d.Counts.take k)) (fun k b hk hb => by
    have hc := h.c d.Counts[k] (List.getElem_mem hk)
    have ht := h.take k
    refine ⟨?_, by rw [sumI_take_succ _ _ hk, hb]⟩
    simp only [distribution_Valid_l2, ix_nat d.Counts k hk]
    rw [show decide ((k : Int) < (d.Counts.length : Int)) = true by simp; omega, cond_true, req_pos (by omega), show ((decide (d.Counts[k] < (0 : Int))) || (decide ((1048576 : Int) < d.Counts[k]))) = false by simp; omega, cond_false, i64_add1 k (by omega), wrap64 (by omega) (by omega)]) (fun b _ => by simp [distribution_Valid_l2]) 0 (by simp [sumI])]
  simp only [Option.bind, distribution_Valid_j1, foldl_sum]
  have := h.all
  rw [show decide (0 + sumI d.Counts ≤ (1048576 : Int)) = true by simp; omega]
def below (d : api_Distribution) (s : Int) : Int := sumI (d.Counts.take s.toNat)
theorem dBelow (d : api_Distribution) (s : Int) (h : Sm d) : distribution_Below d s = some (below d s) := by
  unfold distribution_Below below
  rw [dValid d h]
  simp only [Option.bind, Bool.not_true, cond_false]
  have h2 := h.hi
  have := iter_val (f := distribution_Below_l2 d s) (fun x => 0 ≤ x.2 ∧ x.2 ≤ d.Counts.length ∧ x.2.toNat ≤ s.toNat ∧ x.1 = sumI (d.Counts.take x.2.toNat)) (fun x => (d.Counts.length - x.2).toNat) (fun _ => sumI (d.Counts.take s.toNat)) (by
    rintro ⟨b, i⟩ ⟨k1, k2, k3, k4⟩
    simp only at k1 k2 k3 k4
    obtain ⟨k, rfl⟩ : ∃ k : Nat, i = k := ⟨i.toNat, by omega⟩
    simp only [Int.toNat_natCast] at k3 k4
    simp only [distribution_Below_l2]
    rcases bcases ((decide ((k : Int) < (d.Counts.length : Int))) && (decide ((k : Int) < s))) with hc | hc <;> rw [hc]
    · left
      simp only [Bool.and_eq_true, decide_eq_true_eq] at hc
      have hk : k < d.Counts.length := by omega
      have hcc := h.c d.Counts[k] (List.getElem_mem hk)
      have ht := h.take k
      rw [cond_true, req_pos (by omega), ix_nat d.Counts k hk, i64_add1 k (by omega), wrap64 (by omega) (by omega)]
      refine ⟨_, rfl, ⟨by omega, by simp; omega, by simp; omega, ?_⟩, ?_, by first | rfl | trivial⟩
      · show b + d.Counts[k] = sumI (d.Counts.take ((k + 1 : Nat) : Int).toNat)
        rw [Int.toNat_natCast, sumI_take_succ _ _ hk, k4]
      · show ((d.Counts.length : Int) - ((k + 1 : Nat) : Int)).toNat < ((d.Counts.length : Int) - (k : Int)).toNat
        omega
    · right
      simp only [Bool.and_eq_false_iff, decide_eq_false_iff_not] at hc
      rw [cond_false, k4]
      congr 3
      by_cases hl : k = d.Counts.length
      · rw [hl, List.take_length, List.take_of_length_le (by omega)]
      · have : k = s.toNat := by omega
        rw [this]) (0, 0) ⟨by simp, by simp, by simp, by simp [sumI]⟩
  rw [this]
  rfl
def count (d : api_Distribution) : Int := sumI d.Counts
theorem below_len (d : api_Distribution) : below d (d.Counts.length : Int) = count d := by simp [below, count]
theorem dCount (d : api_Distribution) (h : Sm d) : distribution_Count d = some (count d) := by
  unfold distribution_Count
  rw [dBelow d _ h, below_len]; rfl
theorem dcheck (d : api_Distribution) (h : Sm d) : distribution_check d = some (if count d = 0 then (0, 10) else (count d, 0)) := by
  unfold distribution_check
  rw [dValid d h]
  simp only [Option.bind, Bool.not_true, cond_false]
  rw [dCount d h]
  simp only []
  by_cases hc : count d = 0
  · rw [if_pos hc, hc]; rfl
  · rw [if_neg hc, show (count d == 0) = false by simpa using hc, cond_false]
def scores (d : api_Distribution) : Int := ss 0 d.Counts
theorem dsum (d : api_Distribution) (h : Sm d) : distribution_sumOfScores d = some (scores d) := by
  unfold distribution_sumOfScores scores
  have h2 := h.hi
  have := iter_val (f := distribution_sumOfScores_l2 d) (fun x => 0 ≤ x.2 ∧ x.2 ≤ d.Counts.length ∧ x.1 = ss 0 (d.Counts.take x.2.toNat)) (fun x => (d.Counts.length - x.2).toNat) (fun _ => ss 0 d.Counts) (by
    rintro ⟨b, i⟩ ⟨k1, k2, k4⟩
    simp only at k1 k2 k4
    obtain ⟨k, rfl⟩ : ∃ k : Nat, i = k := ⟨i.toNat, by omega⟩
    simp only [Int.toNat_natCast] at k4
    simp only [distribution_sumOfScores_l2]
    rcases bcases (decide ((k : Int) < (d.Counts.length : Int))) with hc | hc <;> rw [hc]
    · left
      simp only [decide_eq_true_eq] at hc
      have hk : k < d.Counts.length := by omega
      have hcc := h.c d.Counts[k] (List.getElem_mem hk)
      have ht := h.ss k
      have p1 : 0 ≤ (k : Int) * d.Counts[k] := Int.mul_nonneg (by omega) hcc.1
      have p2 : (k : Int) * d.Counts[k] ≤ 20 * 100 := Int.mul_le_mul (by omega) hcc.2 hcc.1 (by omega)
      rw [cond_true, req_pos (by omega), ix_nat d.Counts k hk, i64_add1 k (by omega), wrap64 (n := (k : Int) * d.Counts[k]) (by omega) (by omega), wrap64 (by omega) (by omega)]
      refine ⟨_, rfl, ⟨by omega, by simp; omega, ?_⟩, ?_, by first | rfl | trivial⟩
      · show b + (k : Int) * d.Counts[k] = ss 0 (d.Counts.take ((k + 1 : Nat) : Int).toNat)
        rw [Int.toNat_natCast, ss_take_succ _ _ hk, k4]
      · show ((d.Counts.length : Int) - ((k + 1 : Nat) : Int)).toNat < ((d.Counts.length : Int) - (k : Int)).toNat
        omega
    · right
      simp only [decide_eq_false_iff_not] at hc
      have : k = d.Counts.length := by omega
      rw [cond_false, k4, this, List.take_length]) (0, 0) ⟨by simp, by simp, by simp [ss]⟩
  rw [this]
  rfl
theorem scores_bound (d : api_Distribution) (h : Sm d) : 0 ≤ scores d ∧ scores d ≤ 40000 := by
  have := h.ss d.Counts.length
  rwa [List.take_length] at this
def meanOf (d : api_Distribution) : api_Ratio × Int := if count d = 0 then (⟨0, 0⟩, 10) else newOf (scores d) (count d)
theorem dMean (d : api_Distribution) (h : Sm d) : distribution_Mean d = some (meanOf d) := by
  unfold distribution_Mean meanOf
  rw [dcheck d h]
  simp only [Option.bind]
  by_cases hc : count d = 0
  · simp only [hc, if_true]; rfl
  · simp only [hc, if_false]
    rw [show ((0 : Int) != 0) = false by simp, cond_false, dsum d h]
    simp only []
    have h1 := scores_bound d h
    have h2 := h.all
    rw [New_eq _ _ ⟨by omega, by omega⟩ ⟨by unfold count; omega, by unfold count; omega⟩]
/-! ### the dice -/
structure DOK (t : mark_Dice) : Prop where
  len : t.L.length ≤ 600
  lo : 0 ≤ t.At
  hi : t.At ≤ t.L.length
theorem dNext (t : mark_Dice) (n : Int) (h : DOK t) (hn : n ≤ 4611686018427387904) : ∃ y t', mark_Dice_Next t n = some (y, t') ∧ DOK t' ∧ 0 ≤ y ∧ (1 ≤ n → y < n) := by
  obtain ⟨h1, h2, h3⟩ := h
  unfold mark_Dice_Next mark_Dice_Next_j1
  rcases bcases ((decide ((t.L.length : Int) ≤ t.At)) || (decide (n < (1 : Int)))) with hc | hc <;> rw [hc]
  · exact ⟨_, _, rfl, ⟨h1, h2, h3⟩, by omega, by omega⟩
  · simp only [Bool.or_eq_false_iff, decide_eq_false_iff_not] at hc
    rw [cond_false, req_pos (by omega)]
    generalize ix t.L t.At = x
    have h4 := Int.tmod_lt_of_pos x (show 0 < n by omega)
    have h5 : -n < x.tmod n := Int.lt_tmod_of_pos x (show 0 < n by omega)
    have hd : DOK ⟨t.L, IntKind.i64.wrap (t.At + 1)⟩ := ⟨h1, by show 0 ≤ IntKind.i64.wrap (t.At + 1); rw [wrap64 (by omega) (by omega)]; omega, by show IntKind.i64.wrap (t.At + 1) ≤ (t.L.length : Int); rw [wrap64 (by omega) (by omega)]; omega⟩
    rcases bcases (decide (Int.tmod x n < (0 : Int))) with hd2 | hd2 <;> rw [hd2]
    · have : x.tmod n < 0 := by simpa using hd2
      exact ⟨_, _, rfl, hd, by rw [wrap64 (by omega) (by omega)]; omega, by rw [wrap64 (by omega) (by omega)]; omega⟩
    · have : 0 ≤ x.tmod n := by simpa using hd2
      exact ⟨_, _, rfl, hd, this, fun _ => h4⟩
theorem dPick (t : mark_Dice) (l : List Int) (h : DOK t) (h1 : 1 ≤ l.length) (h2 : l.length ≤ 1000) : ∃ y t', mark_Dice_Pick t l = some (y, t') ∧ DOK t' ∧ y ∈ l := by
  obtain ⟨y, t', e1, h3, h4, h5⟩ := dNext t l.length h (by omega)
  have h6 := h5 (by omega)
  exact ⟨_, t', by unfold mark_Dice_Pick; rw [e1]; simp only [Option.bind]; rw [req_pos ⟨h4, h6⟩], h3, ix_mem l y h4 h6⟩
theorem dDist (t : mark_Dice) (n : Int) (full : Bool) (h : DOK t) (hn : 0 ≤ n) (hn2 : n ≤ 15) : ∃ x t', mark_Dice_Distribution t n full = some (x, t') ∧ DOK t' ∧ Sm x ∧ x.Counts.length ≤ n + 1 ∧ ∀ c ∈ x.Counts, c ≤ 6 := by
  have main : ∀ least : Int, 0 ≤ least → least ≤ 1 → ∃ x t', mark_Dice_Distribution_j3 t n least = some (x, t') ∧ DOK t' ∧ Sm x ∧ x.Counts.length ≤ n + 1 ∧ ∀ c ∈ x.Counts, c ≤ 6 := by
    intro least hl0 hl1
    unfold mark_Dice_Distribution_j3
    rw [wrap64 (n := n + 1) (by omega) (by omega)]
    obtain ⟨y, t1, e1, h1, h2, h3⟩ := dNext t (n + 1) h (by omega)
    have h4 := h3 (by omega)
    rw [e1]
    simp only [Option.bind]
    rw [wrap64 (n := 1 + y) (by omega) (by omega)]
    obtain ⟨⟨L, A, w⟩, e2, g1, g2, g3⟩ := iter_inv (f := mark_Dice_Distribution_l2 least) (fun s => 0 ≤ s.1 ∧ s.1 + s.2.2.2.length = 1 + y ∧ DOK ⟨s.2.1, s.2.2.1⟩ ∧ ∀ c ∈ s.2.2.2, 0 ≤ c ∧ c ≤ 6) (fun s => s.1.toNat)
      (fun r => DOK ⟨r.1, r.2.1⟩ ∧ (r.2.2.length : Int) = 1 + y ∧ ∀ c ∈ r.2.2, 0 ≤ c ∧ c ≤ 6) (by
        rintro ⟨i, L, A, w⟩ ⟨k1, k2, k3, k4⟩
        simp only at k1 k2 k3 k4
        simp only [mark_Dice_Distribution_l2]
        rcases bcases (decide ((0 : Int) < i)) with hc | hc <;> rw [hc]
        · left
          have hi : 0 < i := by simpa using hc
          obtain ⟨a, ta, ea, ha, a1⟩ := dPick ⟨L, A⟩ [(0 : Int), (1 : Int), (2 : Int), (5 : Int), (0 : Int)] k3 (by decide) (by decide)
          have a2 : 0 ≤ a ∧ a ≤ 5 := by simp at a1; omega
          simp only [cond_true, ea, Option.bind]
          rw [req_pos (by simp; omega), wrap64 (n := i - 1) (by omega) (by omega), wrap64 (n := least + a) (by omega) (by omega)]
          refine ⟨_, rfl, ⟨by show 0 ≤ i - 1; omega, by simp; omega, ha, ?_⟩, ?_⟩
          · intro c hc
            rcases List.mem_append.1 hc with hc | hc
            · exact k4 c hc
            · simp at hc; omega
          · show (i - 1).toNat < i.toNat
            omega
        · right
          have hi : i = 0 := by simp at hc; omega
          exact ⟨_, rfl, k3, by show (w.length : Int) = 1 + y; omega, k4⟩) (1 + y, t1.L, t1.At, []) ⟨by show 0 ≤ 1 + y; omega, by simp, h1, by simp⟩
    rw [e2]
    refine ⟨_, _, rfl, g1, ⟨by show 1 ≤ w.length; simp only at g2; omega, by show w.length ≤ 20; simp only at g2; omega, fun c hc => by have := g3 c hc; omega⟩, by show (w.length : Int) ≤ n + 1; simp only at g2; omega, fun c hc => (g3 c hc).2⟩
  unfold mark_Dice_Distribution
  cases full
  · exact main 0 (by omega) (by omega)
  · exact main 1 (by omega) (by omega)
theorem dRoll (t : List Int) (h : t.length ≤ 600) : ∃ d, mark_Roll t = some d ∧ DOK d := ⟨_, rfl, ⟨h, by simp, by simp⟩⟩
theorem sm121 : Sm ⟨[1, 2, 1]⟩ := ⟨by decide, by decide, by decide⟩
theorem dRank (d : api_Distribution) (s : Int) (h : Sm d) : distribution_Rank d s = some (if count d = 0 then (⟨0, 0⟩, 10) else newOf (2 * below d s + (if 0 ≤ s ∧ s < d.Counts.length then ix d.Counts s else 0)) (2 * count d)) := by
  unfold distribution_Rank distribution_Rank_j1
  rw [dcheck d h]
  simp only [Option.bind]
  by_cases hc : count d = 0
  · simp only [hc, if_true]; rfl
  · simp only [hc, if_false]
    rw [show ((0 : Int) != 0) = false by simp, cond_false]
    simp only [dBelow d s h]
    have h2 := h.all
    have h3 : 0 ≤ below d s ∧ below d s ≤ 2000 := h.take _
    have h4 : 0 ≤ count d ∧ count d ≤ 2000 := h2
    rw [wrap64 (n := 2 * count d) (by omega) (by omega), wrap64 (n := 2 * below d s) (by omega) (by omega)]
    by_cases hs : 0 ≤ s ∧ s < d.Counts.length
    · rw [if_pos hs, show ((decide ((0 : Int) ≤ s)) && (decide (s < (d.Counts.length : Int)))) = true by simp; omega, cond_true, req_pos hs]
      have h5 := h.c _ (ix_mem d.Counts s hs.1 hs.2)
      rw [wrap64 (n := 2 * below d s + ix d.Counts s) (by omega) (by omega), New_eq _ _ ⟨by omega, by omega⟩ ⟨by omega, by omega⟩]
    · rw [if_neg hs, show ((decide ((0 : Int) ≤ s)) && (decide (s < (d.Counts.length : Int)))) = false by
        rw [Bool.and_eq_false_iff]; simp; omega, cond_false]
      rw [wrap64 (n := 2 * below d s + 0) (by omega) (by omega), New_eq _ _ ⟨by omega, by omega⟩ ⟨by omega, by omega⟩]
end Go.LS
