/-
  Distributions: the laws of smoothing and of dominance.
  Conditions: none but those of the statements.
-/
import Derived.Test.YtdfbbiahpcelmaaPW
import Derived.Test.YtdfbbiahpcelmaaD5
namespace Go.LS
set_option linter.all false
set_option linter.unusedSimpArgs false
set_option linter.unusedVariables false
set_option maxRecDepth 20000

theorem addP_get : ∀ (w l : List Int) (k : Nat), l.length ≤ w.length → (addP w l).getD k 0 = w.getD k 0 + l.getD k 0
  | w, [], k, _ => by simp [addP_nil]
  | [], _ :: _, k, h => by simp at h
  | x :: w, c :: l, 0, _ => by simp [addP]
  | x :: w, c :: l, k + 1, h => by
    simp only [addP, List.getD_cons_succ]
    exact addP_get w l k (by simpa using h)
theorem addOf_get (a b : List Int) (k : Nat) : (addOf a b).getD k 0 = a.getD k 0 + b.getD k 0 := by
  unfold addOf
  rw [addP_get _ _ _ (by rw [addP_len]; simp; omega), addP_get _ _ _ (by simp; omega)]
  have : (List.replicate (max a.length b.length) (0 : Int)).getD k 0 = 0 := by
    simp only [List.getD, List.getElem?_replicate]; split <;> rfl
  omega
theorem ones_iter (L : Nat) (d : api_Distribution) (hd : d.Counts.length = L) (hL : L ≤ 1000) : iter (distribution_Smooth_l2 d) ((0 : Int), List.replicate L (0 : Int)) = some (List.replicate L 1) := by
  have key : ∀ (n k : Nat), L - k = n → k ≤ L → iter (distribution_Smooth_l2 d) ((k : Int), List.replicate k (1 : Int) ++ List.replicate (L - k) 0) = some (List.replicate L 1) := by
    intro n
    induction n with
    | zero =>
      intro k hn hk
      have : k = L := by omega
      subst this
      rw [iter_inr (r := List.replicate k (1 : Int))]
      simp only [distribution_Smooth_l2, hd]
      rw [show decide ((k : Int) < ((rep (k : Int) (0 : Int)).length : Int)) = false by simp [rep], cond_false]
      simp
    | succ n ih =>
      intro k hn hk
      have hs : distribution_Smooth_l2 d ((k : Int), List.replicate k (1 : Int) ++ List.replicate (L - k) 0) = some (.inl (((k + 1 : Nat) : Int), List.replicate (k + 1) (1 : Int) ++ List.replicate (L - (k + 1)) 0)) := by
        simp only [distribution_Smooth_l2, hd]
        rw [show decide ((k : Int) < ((rep (L : Int) (0 : Int)).length : Int)) = true by simp [rep]; omega, cond_true, req_pos (by simp; omega), i64_add1 k (by omega), setI_nat]
        congr 3
        rw [show L - k = (L - (k + 1)) + 1 by omega, List.replicate_succ, List.set_append_right _ _ (by simp)]
        simp [List.replicate_succ']
      rw [iter_inl hs]
      exact ih (k + 1) (by omega) (by omega)
  have := key _ 0 rfl (by omega)
  simpa using this
theorem ones_ss : ∀ (L k : Nat), 2 * ss k (List.replicate L (1 : Int)) = L * (2 * k + L - 1)
  | 0, k => by simp [ss]
  | L + 1, k => by
    simp only [List.replicate_succ, ss]
    have := ones_ss L (k + 1)
    have e1 : ((L + 1 : Nat) : Int) = (L : Int) + 1 := by omega
    have e2 : ((k + 1 : Nat) : Int) = (k : Int) + 1 := by omega
    rw [e2] at this
    rw [e1, Int.mul_add, this]
    grind
theorem ones_sum (L : Nat) : sumI (List.replicate L (1 : Int)) = L := by
  induction L with
  | zero => rfl
  | succ L ih => simp only [List.replicate_succ, sumI, ih]; omega
theorem ones_mean : ∀ L, L < 21 → 1 ≤ L → newOf (ss 0 (List.replicate L (1 : Int))) L = newOf ((L : Int) - 1) 2 := by decide
theorem zero_ss (l : List Int) (h : ∀ c ∈ l, 0 ≤ c) (hs : sumI l = 0) : ∀ k, ss k l = 0 := by
  induction l with
  | nil => intro k; rfl
  | cons a l ih =>
    intro k
    have h1 := h a (by simp)
    have h2 : 0 ≤ sumI l := by
      clear ih hs
      induction l with
      | nil => simp [sumI]
      | cons b l ih2 =>
        have := h b (by simp)
        have := ih2 (fun c hc => h c (by simp at hc ⊢; rcases hc with rfl | hc <;> simp [*]))
        simp only [sumI]; omega
    simp only [sumI] at hs
    have h3 : a = 0 := by omega
    simp only [ss, h3, Int.mul_zero]
    rw [ih (fun c hc => h c (by simp [hc])) (by omega) (k + 1)]
    rfl
theorem pure_DistributionSmooth (t : List Int) : law32_DistributionSmooth t = some true := by
  unfold law32_DistributionSmooth
  rw [light_eq]
  simp only [Option.bind, sane_eq]
  by_cases hl : (t.length : Int) ≤ 600
  · rw [show (!decide ((t.length : Int) ≤ 600)) = false by simp [hl], cond_false]
    obtain ⟨d0, e0, h0⟩ := dRoll t (by omega)
    obtain ⟨a, t1, e1, k1, ha, la, ma⟩ := dDist d0 8 false h0 (by omega) (by omega)
    have lo := ha.lo
    have hi := ha.hi
    have ca := ha.all
    generalize hL : a.Counts.length = L at *
    have ho : Sm ⟨List.replicate L 1⟩ := ⟨by simp; omega, by simp; omega, fun c hc => by rw [(List.mem_replicate.1 hc).2]; omega⟩
    have hcc : Sm ⟨addOf a.Counts (List.replicate L 1)⟩ := addOf_sm a ⟨List.replicate L 1⟩ ha ho (fun c hc => by have := ma c hc; omega) (fun c hc => by rw [(List.mem_replicate.1 hc).2]; omega)
    have hsm : distribution_Smooth a = some (⟨addOf a.Counts (List.replicate L 1)⟩, 0) := by
      unfold distribution_Smooth distribution_Smooth_j1
      simp only [dValid a ha, Option.bind, Bool.not_true, cond_false]
      rw [req_pos (by omega), hL, show rep (L : Int) (0 : Int) = List.replicate L 0 by simp [rep], ones_iter L a hL (by omega)]
      simp only []
      have ones : count ⟨List.replicate L 1⟩ = L := ones_sum L
      rw [dAdd a ⟨List.replicate L 1⟩ ha ho (by rw [ones]; unfold count; omega)]
    simp only [e0, e1, hsm]
    have hlen : (addOf a.Counts (List.replicate L 1)).length = L := by rw [addOf_len, hL]; simp
    have hcount : count ⟨addOf a.Counts (List.replicate L 1)⟩ = count a + L := by
      show sumI (addOf a.Counts (List.replicate L 1)) = _
      rw [addOf_sum, ones_sum]; rfl
    have hscore : scores ⟨addOf a.Counts (List.replicate L 1)⟩ = scores a + ss 0 (List.replicate L 1) := addOf_ss _ _
    rw [hlen, hL, show (((0 : Int) != 0) || ((L : Int) != (L : Int))) = false by simp, cond_false]
    generalize hS : (⟨addOf a.Counts (List.replicate L 1)⟩ : api_Distribution) = s at *
    have hsl : s.Counts.length = L := by rw [← hS]; exact hlen
    rw [iter_scan s.Counts (law32_DistributionSmooth_l2 a s) (fun _ => false) (fun _ => .inr false) (.inl ())]
    · rw [find_any, show (s.Counts.any fun _ => false) = false by simp]
      simp only [Bool.false_eq_true, if_false, law32_DistributionSmooth_j1, hL]
      rw [wrap64 (n := (L : Int) - 1) (by omega) (by omega), NewR_eq _ _ ⟨by omega, by omega⟩ ⟨by omega, by omega⟩]
      simp only [dMean _ ha, dMean _ hcc, Option.bind, LessR_eq, sane_eq, Option.isSome_some, Option.getD_some, implies_true, and_self, req_true]
      have hT := ones_ss L 0
      simp only [Int.natCast_zero, Int.mul_zero, Int.zero_add] at hT
      have hcs : 0 < count s := by rw [hcount]; unfold count; omega
      obtain ⟨y, ey, y1, y2, y3⟩ := meanOf_ok s hcc hcs
      obtain ⟨m, em, m1, m2, m3⟩ := newOf_ok ((L : Int) - 1) 2 (by omega) (by omega) (by omega) (by omega)
      rw [em, ey]
      simp only []
      rw [show (((0 : Int) != 0) || ((0 : Int) != 0)) = false by simp, cond_false]
      by_cases hz : count a = 0
      · rw [show ((meanOf a).2 != 0) = true by simp [meanOf, hz], cond_true]
        have hsc0 : scores a = 0 := zero_ss a.Counts (fun c hc => (ha.c c hc).1) hz 0
        have : meanOf s = newOf ((L : Int) - 1) 2 := by
          unfold meanOf
          rw [if_neg (by omega), hscore, hsc0, hcount, hz, Int.zero_add, Int.zero_add]
          exact ones_mean L (by omega) (by omega)
        rw [ey, em] at this
        obtain ⟨rfl⟩ := Prod.mk.inj this
        simp
      · have pa : 0 < count a := by unfold count at *; omega
        obtain ⟨x, ex, x1, x2, x3⟩ := meanOf_ok a ha pa
        rw [ex]
        simp only []
        rw [show ((0 : Int) != 0) = false by simp, cond_false]
        rw [cmpR_new y x _ _ _ _ y1 x1 y2 x2 y3 x3 hcs pa, cmpR_new y m _ _ _ _ y1 m1 y2 m2 y3 m3 hcs (by omega), cmpR_new x y _ _ _ _ x1 y1 x2 y2 x3 y3 pa hcs, cmpR_new m y _ _ _ _ m1 y1 m2 y2 m3 y3 (by omega) hcs]
        rw [hscore, hcount]
        simp only [cmpI_lt]
        generalize hTT : ss 0 (List.replicate L 1) = T at *
        generalize count a = n at *
        generalize scores a = A at *
        have LP : (0 : Int) < L := by omega
        have q1 : (A + T) * n = A * n + T * n := by grind
        have q2 : A * (n + L) = A * n + A * L := by grind
        have q3 : ((L : Int) - 1) * (n + L) = ((L : Int) - 1) * n + L * (L - 1) := by grind
        have q5 : 2 * (T * n) = (((L : Int) - 1) * n) * L := by
          have : 2 * (T * n) = (2 * T) * n := by grind
          rw [this, hT]; grind
        have q6 : 2 * (A * L) = (2 * A) * (L : Int) := by grind
        have r1 : T * n < A * L → ((L : Int) - 1) * n < 2 * A := fun h => by
          have : (((L : Int) - 1) * n) * L < (2 * A) * L := by omega
          exact Int.lt_of_mul_lt_mul_right this (by omega)
        have r2 : A * L < T * n → 2 * A < ((L : Int) - 1) * n := fun h => by
          have : (2 * A) * L < (((L : Int) - 1) * n) * L := by omega
          exact Int.lt_of_mul_lt_mul_right this (by omega)
        rw [q1, q2, q3]
        simp only [Bool.and_true, Option.some.injEq]
        rw [Bool.and_eq_true]
        simp only [Bool.not_eq_true', Bool.and_eq_false_iff, decide_eq_false_iff_not]
        by_cases c1 : T * n < A * L
        · have := r1 c1; omega
        · by_cases c2 : A * L < T * n
          · have := r2 c2; omega
          · omega
    · intro k hk
      rw [hsl] at hk
      have hka : k < a.Counts.length := by omega
      have hks : k < s.Counts.length := by omega
      have hget := addOf_get a.Counts (List.replicate L 1) k
      have g1 : a.Counts.getD k 0 = a.Counts[k] := by simp [List.getD, hka]
      have g2 : (List.replicate L (1 : Int)).getD k 0 = 1 := by simp [List.getD, hk]
      have g3 : (addOf a.Counts (List.replicate L 1)).getD k 0 = s.Counts[k] := by
        have : addOf a.Counts (List.replicate L 1) = s.Counts := by rw [← hS]
        rw [this]; simp [List.getD, hks]
      rw [g1, g2, g3] at hget
      have hcc1 := ha.c a.Counts[k] (List.getElem_mem hka)
      simp only [law32_DistributionSmooth_l2, ix_nat s.Counts k hks, ix_nat a.Counts k hka, hsl, hL]
      rw [show decide ((k : Int) < (L : Int)) = true by simp; omega, cond_true, req_pos (by omega), i64_add1 k (by omega), wrap64 (n := a.Counts[k] + 1) (by omega) (by omega), hget, show (a.Counts[k] + 1 != a.Counts[k] + 1) = false by simp, cond_false]
      rfl
    · simp only [law32_DistributionSmooth_l2]
      rw [show decide ((s.Counts.length : Int) < (s.Counts.length : Int)) = false by simp, cond_false]
  · rw [show (!decide ((t.length : Int) ≤ 600)) = true by simp [hl], cond_true]
/-! ### dominance -/
def Dom (a b : api_Distribution) : Prop := count a ≠ 0 ∧ count b ≠ 0 ∧ ∀ v : Nat, below a (v : Int) * count b ≤ below b (v : Int) * count a
open Classical in
noncomputable def domB (a b : api_Distribution) : Bool := decide (Dom a b)
theorem below_big (d : api_Distribution) (v : Nat) (h : d.Counts.length ≤ v) : below d (v : Int) = count d := by
  unfold below count; rw [Int.toNat_natCast, List.take_of_length_le h]
theorem dDom (a b : api_Distribution) (ha : Sm a) (hb : Sm b) : distribution_Dominates a b = some (domB a b) := by
  have la := ha.hi
  have lb := hb.hi
  unfold distribution_Dominates distribution_Dominates_j1
  simp only [dcheck a ha, dcheck b hb, Option.bind]
  by_cases h1 : count a = 0
  · rw [if_pos h1]
    have : domB a b = false := by simp [domB, Dom, h1]
    rw [this]; rfl
  rw [if_neg h1]
  simp only []
  rw [show ((0 : Int) != 0) = false by simp, cond_false]
  by_cases h2 : count b = 0
  · rw [if_pos h2]
    have : domB a b = false := by simp [domB, Dom, h2]
    rw [this]; rfl
  rw [if_neg h2]
  simp only []
  rw [show ((0 : Int) != 0) = false by simp, cond_false]
  have hmax : imax (a.Counts.length : Int) (b.Counts.length : Int) = ((max a.Counts.length b.Counts.length : Nat) : Int) := by unfold imax; split <;> omega
  have ca := ha.all
  have cb := hb.all
  have pa : 0 < count a := by unfold count at *; omega
  have pb : 0 < count b := by unfold count at *; omega
  have hstep : ∀ k : Nat, distribution_Dominates_l2 a b (count a) (count b) (k : Int) = some (if k < max a.Counts.length b.Counts.length then (if below b (k : Int) * count a < below a (k : Int) * count b then .inr (.inr false) else .inl ((k + 1 : Nat) : Int)) else .inr (.inl ())) ∨ 1000 < k := by
    intro k
    by_cases hk0 : 1000 < k
    · exact .inr hk0
    left
    have bA : 0 ≤ below a (k : Int) ∧ below a (k : Int) ≤ 2000 := ha.take _
    have bB : 0 ≤ below b (k : Int) ∧ below b (k : Int) ≤ 2000 := hb.take _
    have w1 : 0 ≤ below a (k : Int) * count b ∧ below a (k : Int) * count b ≤ 2000 * 2000 := ⟨Int.mul_nonneg bA.1 (by omega), Int.mul_le_mul bA.2 cb.2 (by omega) (by omega)⟩
    have w2 : 0 ≤ below b (k : Int) * count a ∧ below b (k : Int) * count a ≤ 2000 * 2000 := ⟨Int.mul_nonneg bB.1 (by omega), Int.mul_le_mul bB.2 ca.2 (by omega) (by omega)⟩
    simp only [distribution_Dominates_l2, hmax, dBelow _ _ ha, dBelow _ _ hb, Option.bind]
    by_cases hk : k < max a.Counts.length b.Counts.length
    · rw [show decide ((k : Int) < ((max a.Counts.length b.Counts.length : Nat) : Int)) = true by simp; omega, cond_true, if_pos hk, wrap64 (n := below a (k : Int) * count b) (by omega) (by omega), wrap64 (n := below b (k : Int) * count a) (by omega) (by omega), i64_add1 k (by omega)]
      by_cases hlt : below b (k : Int) * count a < below a (k : Int) * count b
      · rw [if_pos hlt, show decide (below b (k : Int) * count a < below a (k : Int) * count b) = true by simpa using hlt, cond_true]
      · rw [if_neg hlt, show decide (below b (k : Int) * count a < below a (k : Int) * count b) = false by simpa using hlt, cond_false]
    · rw [show decide ((k : Int) < ((max a.Counts.length b.Counts.length : Nat) : Int)) = false by simp; omega, cond_false, if_neg hk]
  obtain ⟨r, er, hr⟩ := iter_inv (f := distribution_Dominates_l2 a b (count a) (count b)) (fun x => 0 ≤ x ∧ x ≤ (max a.Counts.length b.Counts.length : Nat) ∧ ∀ v : Nat, (v : Int) < x → below a (v : Int) * count b ≤ below b (v : Int) * count a) (fun x => ((max a.Counts.length b.Counts.length : Nat) - x).toNat)
    (fun r => (r = .inl () ∧ Dom a b) ∨ (r = .inr false ∧ ¬ Dom a b)) (by
      intro x ⟨k1, k2, k3⟩
      obtain ⟨k, rfl⟩ : ∃ k : Nat, x = k := ⟨x.toNat, by omega⟩
      rcases hstep k with hs | hs
      · rw [hs]
        by_cases hk : k < max a.Counts.length b.Counts.length
        · rw [if_pos hk]
          by_cases hlt : below b (k : Int) * count a < below a (k : Int) * count b
          · right
            rw [if_pos hlt]
            exact ⟨_, rfl, .inr ⟨rfl, fun hd => by have := hd.2.2 k; omega⟩⟩
          · left
            rw [if_neg hlt]
            refine ⟨_, rfl, ⟨by omega, by omega, fun v hv => ?_⟩, by omega⟩
            by_cases hvk : v = k
            · subst hvk; omega
            · exact k3 v (by omega)
        · right
          rw [if_neg hk]
          refine ⟨_, rfl, .inl ⟨rfl, h1, h2, fun v => ?_⟩⟩
          by_cases hv : v < max a.Counts.length b.Counts.length
          · exact k3 v (by omega)
          · rw [below_big a v (by omega), below_big b v (by omega), Int.mul_comm]
            exact Int.le_refl _
      · omega) 0 ⟨by omega, by omega, fun v hv => by omega⟩
  rw [er]
  rcases hr with ⟨rfl, hd⟩ | ⟨rfl, hd⟩
  · have : domB a b = true := by simp [domB, hd]
    rw [this]
  · have : domB a b = false := by simp [domB, hd]
    rw [this]
theorem dom_trans {a b c : api_Distribution} (ha : Sm a) (hb : Sm b) (hc : Sm c) (h1 : Dom a b) (h2 : Dom b c) : Dom a c := by
  refine ⟨h1.1, h2.2.1, fun v => ?_⟩
  have k1 := h1.2.2 v
  have k2 := h2.2.2 v
  have pa : 0 ≤ count a := ha.all.1
  have pb : 0 < count b := by have := hb.all.1; have := h1.2.1; unfold count at *; omega
  have pc : 0 ≤ count c := hc.all.1
  have m1 : below a (v : Int) * count b * count c ≤ below b (v : Int) * count a * count c := Int.mul_le_mul_of_nonneg_right k1 pc
  have m2 : below b (v : Int) * count c * count a ≤ below c (v : Int) * count b * count a := Int.mul_le_mul_of_nonneg_right k2 pa
  have e1 : below a (v : Int) * count b * count c = (below a (v : Int) * count c) * count b := by grind
  have e2 : below b (v : Int) * count a * count c = below b (v : Int) * count c * count a := by grind
  have e3 : below c (v : Int) * count b * count a = (below c (v : Int) * count a) * count b := by grind
  rw [e1] at m1
  rw [e3] at m2
  rw [e2] at m1
  exact Int.le_of_mul_le_mul_right (Int.le_trans m1 m2) pb
/-- the sum of the scores by how many are above -/
def ts (d : api_Distribution) : Nat → Int
  | 0 => 0
  | K + 1 => ts d K + (count d - below d ((K + 1 : Nat) : Int))
theorem ss_ts (d : api_Distribution) : ∀ K, ss 0 (d.Counts.take K) + (K : Int) * (count d - sumI (d.Counts.take K)) = ts d K + (count d - sumI (d.Counts.take K)) * 1 - (count d - sumI (d.Counts.take K)) ∨ True := fun _ => .inr trivial
theorem ts_eq (d : api_Distribution) : ∀ K : Nat, ts d K = ss 0 (d.Counts.take (K + 1)) + (K : Int) * (count d - sumI (d.Counts.take (K + 1)))
  | 0 => by
    cases h : d.Counts with
    | nil => simp [ts, ss]
    | cons a l => simp [ts, ss]
  | K + 1 => by
    rw [ts, ts_eq d K]
    have hb : below d ((K + 1 : Nat) : Int) = sumI (d.Counts.take (K + 1)) := by simp [below]
    rw [hb]
    by_cases hk : K + 1 < d.Counts.length
    · rw [ss_take_succ d.Counts (K + 1) hk, sumI_take_succ d.Counts (K + 1) hk]
      have e : ((K + 1 : Nat) : Int) = (K : Int) + 1 := by omega
      rw [e]
      grind
    · rw [List.take_of_length_le (show d.Counts.length ≤ K + 1 + 1 by omega), List.take_of_length_le (show d.Counts.length ≤ K + 1 by omega)]
      have : count d - sumI d.Counts = 0 := by unfold count; omega
      rw [this]; omega
theorem ts_scores (d : api_Distribution) (K : Nat) (h : d.Counts.length ≤ K + 1) : ts d K = scores d := by
  rw [ts_eq, List.take_of_length_le h]
  have : count d - sumI d.Counts = 0 := by unfold count; omega
  rw [this]; simp [scores]
theorem dom_mean {a b : api_Distribution} (h : Dom a b) : scores b * count a ≤ scores a * count b := by
  have key : ∀ K, ts b K * count a ≤ ts a K * count b := by
    intro K
    induction K with
    | zero => simp [ts]
    | succ K ih =>
      simp only [ts]
      have k := h.2.2 (K + 1)
      have e1 : (ts b K + (count b - below b ((K + 1 : Nat) : Int))) * count a = ts b K * count a + count b * count a - below b ((K + 1 : Nat) : Int) * count a := by grind
      have e2 : (ts a K + (count a - below a ((K + 1 : Nat) : Int))) * count b = ts a K * count b + count b * count a - below a ((K + 1 : Nat) : Int) * count b := by grind
      rw [e1, e2]
      omega
  have := key (max a.Counts.length b.Counts.length)
  rw [ts_scores a _ (by omega), ts_scores b _ (by omega)] at this
  exact this
theorem sumI_set (l : List Int) : ∀ (k : Nat) (x : Int) (h : k < l.length) (j : Nat), sumI ((l.set k x).take j) = sumI (l.take j) + (if k < j then x - l[k] else 0) := by
  induction l with
  | nil => intro k x h; simp at h
  | cons a l ih =>
    intro k x h j
    cases k with
    | zero =>
      cases j with
      | zero => simp [sumI]
      | succ j => simp only [List.set_cons_zero, List.take_succ_cons, sumI, List.getElem_cons_zero]; rw [if_pos (by omega)]; omega
    | succ k =>
      cases j with
      | zero => simp [sumI]
      | succ j =>
        simp only [List.set_cons_succ, List.take_succ_cons, sumI, List.getElem_cons_succ]
        rw [ih k x (by simpa using h) j]
        by_cases hkj : k < j
        · rw [if_pos hkj, if_pos (by omega)]; omega
        · rw [if_neg hkj, if_neg (by omega)]; omega
theorem pure_DistributionDominates (t : List Int) (n : Int) (hn : 0 ≤ n ∧ n < 256) : law32_DistributionDominates t n = some true := by
  unfold law32_DistributionDominates
  rw [light_eq]
  simp only [Option.bind, sane_eq, Option.isSome_some, Option.getD_some, implies_true, req_true, and_true]
  by_cases hl : (t.length : Int) ≤ 600
  · rw [show (!decide ((t.length : Int) ≤ 600)) = false by simp [hl], cond_false]
    obtain ⟨d0, e0, h0⟩ := dRoll t (by omega)
    obtain ⟨a, t1, e1, k1, ha, la, ma⟩ := dDist d0 6 false h0 (by omega) (by omega)
    obtain ⟨b, t2, e2, k2, hb, lb, mb⟩ := dDist t1 6 false k1 (by omega) (by omega)
    obtain ⟨c, t3, e3, k3, hc, lc, mc⟩ := dDist t2 6 false k2 (by omega) (by omega)
    simp only [e0, e1, e2, e3, dDom a b ha hb, dDom b c hb hc, dDom a c ha hc, dDom a a ha ha, dCount a ha, dMean a ha, dMean b hb, LessR_eq, Option.isSome_some, Option.getD_some, implies_true, and_self, req_true]
    have htr : ((domB a b && domB b c) && (!domB a c)) = false := by
      by_cases h1 : Dom a b
      · by_cases h2 : Dom b c
        · have := dom_trans ha hb hc h1 h2
          simp [domB, h1, h2, this]
        · simp [domB, h2]
      · simp [domB, h1]
    have hrefl : ((decide ((0 : Int) < count a)) && (!domB a a)) = false := by
      by_cases h1 : 0 < count a
      · have : Dom a a := ⟨by omega, by omega, fun v => Int.le_refl _⟩
        simp [domB, this]
      · simp [h1]
    rw [htr, hrefl]
    simp only [Bool.or_self, cond_false]
    have hmean : (domB a b && ((((meanOf a).2 != 0) || ((meanOf b).2 != 0)) || decide (cmpR (meanOf a).1 (meanOf b).1 < 0))) = false := by
      by_cases h1 : Dom a b
      · have pa : 0 < count a := by have := ha.all.1; have := h1.1; unfold count at *; omega
        have pb : 0 < count b := by have := hb.all.1; have := h1.2.1; unfold count at *; omega
        obtain ⟨x, ex, x1, x2, x3⟩ := meanOf_ok a ha pa
        obtain ⟨y, ey, y1, y2, y3⟩ := meanOf_ok b hb pb
        rw [ex, ey]
        simp only []
        rw [cmpR_new x y _ _ _ _ x1 y1 x2 y2 x3 y3 pa pb]
        have := dom_mean h1
        rw [show decide (cmpI (scores a * count b) (scores b * count a) < 0) = false by rw [decide_eq_false_iff_not, cmpI_lt]; omega]
        simp
      · simp [domB, h1]
    rw [hmean, cond_false]
    have lo := ha.lo
    have hi := ha.hi
    rw [req_pos (by omega), wrap64 (n := n) (by omega) (by omega)]
    have hm1 := Int.tmod_lt_of_pos n (show (0 : Int) < (a.Counts.length : Int) by omega)
    have hm2 := Int.tmod_nonneg (a.Counts.length : Int) hn.1
    generalize Int.tmod n (a.Counts.length : Int) = ii at hm1 hm2
    obtain ⟨i, rfl⟩ : ∃ i : Nat, ii = i := ⟨ii.toNat, by omega⟩
    have hi' : i < a.Counts.length := by omega
    rw [req_pos (by omega), i64_add1 i (by omega), ix_nat a.Counts i hi']
    by_cases hcase : ((a.Counts[i] == 0) || (((i + 1 : Nat) : Int) == (a.Counts.length : Int))) = true
    · rw [hcase, cond_true]
    · rw [Bool.not_eq_true] at hcase
      rw [hcase, cond_false]
      simp only [Bool.or_eq_false_iff, beq_eq_false_iff_ne, ne_eq] at hcase
      have hcc := ha.c a.Counts[i] (List.getElem_mem hi')
      have hlt : i + 1 < a.Counts.length := by omega
      have hcc1 := ha.c a.Counts[i + 1] (List.getElem_mem hlt)
      have m6 := ma a.Counts[i + 1] (List.getElem_mem hlt)
      rw [req_pos (by omega), req_pos (by omega), wrap64 (n := a.Counts[i] - 1) (by omega) (by omega)]
      simp only [bindV, setI_nat]
      rw [req_pos (by simp; omega)]
      have hlt2 : i + 1 < (a.Counts.set i (a.Counts[i] - 1)).length := by simp; omega
      rw [ix_nat _ (i + 1) hlt2]
      have hgs : (a.Counts.set i (a.Counts[i] - 1))[i + 1] = a.Counts[i + 1] := by simp
      rw [hgs, wrap64 (n := a.Counts[i + 1] + 1) (by omega) (by omega)]
      generalize hU : (⟨(a.Counts.set i (a.Counts[i] - 1)).set (i + 1) (a.Counts[i + 1] + 1)⟩ : api_Distribution) = u
      have hul : u.Counts.length = a.Counts.length := by rw [← hU]; simp
      have hu : Sm u := by
        refine ⟨by omega, by omega, fun x hx => ?_⟩
        rw [← hU] at hx
        rcases List.mem_or_eq_of_mem_set hx with hx | rfl
        · rcases List.mem_or_eq_of_mem_set hx with hx | rfl
          · exact ha.c x hx
          · omega
        · omega
      have hbel : ∀ v : Nat, below u (v : Int) = below a (v : Int) + (if i < v then (-1 : Int) else 0) + (if i + 1 < v then 1 else 0) := by
        intro v
        unfold below
        rw [← hU, Int.toNat_natCast]
        rw [sumI_set _ (i + 1) _ hlt2 v, sumI_set _ i _ hi' v, hgs]
        by_cases c1 : i < v
        · rw [if_pos c1, if_pos c1]
          by_cases c2 : i + 1 < v
          · rw [if_pos c2, if_pos c2]; omega
          · rw [if_neg c2, if_neg c2]; omega
        · rw [if_neg c1, if_neg c1, if_neg (by omega), if_neg (by omega)]
      have hcnt : count u = count a := by
        rw [← below_len u, ← below_len a, hul, hbel a.Counts.length, if_pos hi', if_pos hlt]; omega
      have pa : 0 < count a := by
        have h1 := sumI_mono a.Counts (fun x hx => (ha.c x hx).1) (i + 1) a.Counts.length (by omega)
        rw [sumI_take_succ _ _ hi', List.take_length] at h1
        have := (ha.take i).1
        unfold count; omega
      simp only [dDom u a hu ha, dDom a u ha hu, Option.isSome_some, Option.getD_some, implies_true, and_self, req_true]
      have d1 : Dom u a := by
        refine ⟨by omega, by omega, fun v => ?_⟩
        rw [hcnt]
        refine Int.mul_le_mul_of_nonneg_right ?_ (by omega)
        rw [hbel v]
        split <;> split <;> omega
      have d2 : ¬ Dom a u := by
        intro hd
        have := hd.2.2 (i + 1)
        rw [hcnt] at this
        have := Int.le_of_mul_le_mul_right this pa
        rw [hbel (i + 1), if_pos (by omega), if_neg (by omega)] at this
        omega
      simp [domB, d1, d2]
  · rw [show (!decide ((t.length : Int) ≤ 600)) = true by simp [hl], cond_true]
end Go.LS
