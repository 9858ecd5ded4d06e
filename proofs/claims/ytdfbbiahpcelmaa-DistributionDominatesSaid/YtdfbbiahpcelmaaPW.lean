/-
  Distributions: sums, smoothing, dominance.
  Conditions: none but those of the statements.
-/
import Derived.Test.YtdfbbiahpcelmaaPV
namespace Go.LS
set_option linter.all false
set_option linter.unusedSimpArgs false
set_option linter.unusedVariables false
set_option maxRecDepth 20000

/-- numbers added from the front -/
def addP : List Int → List Int → List Int
  | w, [] => w
  | [], _ :: _ => []
  | x :: w, c :: l => (x + c) :: addP w l
theorem addP_nil (w : List Int) : addP w [] = w := by cases w <;> rfl
theorem addP_len : ∀ (w l : List Int), (addP w l).length = w.length
  | w, [] => by rw [addP_nil]
  | [], _ :: _ => rfl
  | x :: w, c :: l => by simp [addP, addP_len w l]
theorem addP_snoc : ∀ (w l : List Int) (c : Int), l.length < w.length → addP w (l ++ [c]) = (addP w l).set l.length ((addP w l).getD l.length 0 + c)
  | [], l, c, h => by simp at h
  | x :: w, [], c, _ => by simp [addP, addP_nil]
  | x :: w, a :: l, c, h => by
    simp only [List.cons_append, addP, List.length_cons, List.set_cons_succ, List.getD_cons_succ]
    rw [addP_snoc w l c (by simpa using h)]
theorem sumI_addP : ∀ (w l : List Int) (k : Nat), l.length ≤ w.length → sumI ((addP w l).take k) = sumI (w.take k) + sumI (l.take k)
  | w, [], k, _ => by simp [addP_nil, sumI]
  | [], _ :: _, k, h => by simp at h
  | x :: w, c :: l, 0, _ => by simp [sumI]
  | x :: w, c :: l, k + 1, h => by
    simp only [addP, List.take_succ_cons, sumI]
    rw [sumI_addP w l k (by simpa using h)]
    omega
theorem ss_addP : ∀ (w l : List Int) (k : Nat), l.length ≤ w.length → ss k (addP w l) = ss k w + ss k l
  | w, [], k, _ => by simp [addP_nil, ss]
  | [], _ :: _, k, h => by simp at h
  | x :: w, c :: l, k, h => by
    simp only [addP, ss]
    rw [ss_addP w l (k + 1) (by simpa using h), Int.mul_add]
    omega
theorem addP_mem : ∀ (w l : List Int) (A B : Int), (∀ x ∈ w, 0 ≤ x ∧ x ≤ A) → (∀ c ∈ l, 0 ≤ c ∧ c ≤ B) → 0 ≤ B → ∀ y ∈ addP w l, 0 ≤ y ∧ y ≤ A + B
  | w, [], A, B, hw, _, hB, y, hy => by rw [addP_nil] at hy; have := hw y hy; omega
  | [], _ :: _, A, B, _, _, _, y, hy => by simp [addP] at hy
  | x :: w, c :: l, A, B, hw, hl, hB, y, hy => by
    simp only [addP, List.mem_cons] at hy
    rcases hy with rfl | hy
    · have h1 := hw x (by simp)
      have h2 := hl c (by simp)
      omega
    · exact addP_mem w l A B (fun z hz => hw z (by simp [hz])) (fun z hz => hl z (by simp [hz])) hB y hy
/-- a loop that adds a list to another one -/
theorem iter_addP (l w : List Int) (f : Int × List Int → Option ((Int × List Int) ⊕ List Int)) (hlw : l.length ≤ w.length) (hlen : l.length ≤ 1000)
    (hstep : ∀ (k : Nat) (b : List Int) (hk : k < l.length), b.length = w.length → b = addP w (l.take k) → f ((k : Int), b) = some (.inl (((k + 1 : Nat) : Int), b.set k (b.getD k 0 + l[k]))))
    (hend : ∀ b, f ((l.length : Int), b) = some (.inr b)) : iter f ((0 : Int), w) = some (addP w l) := by
  have key : ∀ (n k : Nat), l.length - k = n → k ≤ l.length → iter f ((k : Int), addP w (l.take k)) = some (addP w l) := by
    intro n
    induction n with
    | zero =>
      intro k hn hk
      have : k = l.length := by omega
      subst this
      rw [iter_inr (hend _), List.take_length]
    | succ n ih =>
      intro k hn hk
      have hk' : k < l.length := by omega
      rw [iter_inl (hstep k _ hk' (addP_len _ _) rfl)]
      have h1 := ih (k + 1) (by omega) (by omega)
      rw [List.take_succ_eq_append_getElem hk', addP_snoc w (l.take k) l[k] (by simp; omega)] at h1
      have h2 : (l.take k).length = k := by simp; omega
      rw [h2] at h1
      exact h1
  have := key _ 0 rfl (by omega)
  simpa [addP_nil] using this
theorem zeros_take (n k : Nat) : sumI ((List.replicate n (0 : Int)).take k) = 0 := by
  rw [List.take_replicate]
  generalize min k n = m
  induction m with
  | zero => rfl
  | succ m ih => simp [List.replicate_succ, sumI, ih]
theorem zeros_ss (n : Nat) : ∀ k, ss k (List.replicate n (0 : Int)) = 0 := by
  induction n with
  | zero => intro k; rfl
  | succ n ih => intro k; simp [List.replicate_succ, ss, ih]
def addOf (a b : List Int) : List Int := addP (addP (List.replicate (max a.length b.length) 0) a) b
theorem setI_nat {α : Type} (l : List α) (k : Nat) (x : α) : setI l (k : Int) x = l.set k x := by simp [setI]
theorem dAdd (a b : api_Distribution) (ha : Sm a) (hb : Sm b) (hc : count a + count b ≤ 1048576) : distribution_Add a b = some (⟨addOf a.Counts b.Counts⟩, 0) := by
  have la := ha.hi
  have lb := hb.hi
  have ca := ha.all
  have cb := hb.all
  unfold distribution_Add distribution_Add_j3 distribution_Add_j1
  simp only [dValid a ha, dValid b hb, dCount a ha, dCount b hb, Option.bind, Option.isSome_some, Option.getD_some, implies_true, req_true, Bool.not_true, Bool.or_self, cond_false]
  rw [wrap64 (n := count a + count b) (by unfold count; omega) (by unfold count; omega), show decide ((1048576 : Int) < count a + count b) = false by simp; omega, cond_false]
  have hmax : imax (a.Counts.length : Int) (b.Counts.length : Int) = ((max a.Counts.length b.Counts.length : Nat) : Int) := by unfold imax; split <;> omega
  rw [hmax, req_pos (by omega)]
  have hrep : rep ((max a.Counts.length b.Counts.length : Nat) : Int) (0 : Int) = List.replicate (max a.Counts.length b.Counts.length) 0 := by simp [rep]
  rw [hrep]
  have hz : ∀ x ∈ List.replicate (max a.Counts.length b.Counts.length) (0 : Int), 0 ≤ x ∧ x ≤ 0 := fun x hx => by rw [(List.mem_replicate.1 hx).2]; omega
  have hmem1 : ∀ k, ∀ y ∈ addP (List.replicate (max a.Counts.length b.Counts.length) (0 : Int)) (a.Counts.take k), 0 ≤ y ∧ y ≤ 0 + 100 := fun k => addP_mem _ _ 0 100 hz (fun c hc => ha.c c (List.mem_of_mem_take hc)) (by omega)
  have hmem2 : ∀ k, ∀ y ∈ addP (addP (List.replicate (max a.Counts.length b.Counts.length) (0 : Int)) a.Counts) (b.Counts.take k), 0 ≤ y ∧ y ≤ (0 + 100) + 100 := fun k => addP_mem _ _ 100 100 (by have := hmem1 a.Counts.length; rw [List.take_length] at this; exact this) (fun c hc => hb.c c (List.mem_of_mem_take hc)) (by omega)
  have i1 := iter_addP a.Counts (List.replicate (max a.Counts.length b.Counts.length) 0) (distribution_Add_l4 a) (by simp; omega) (by omega) (fun k w hk hw he => by
    simp only [List.length_replicate] at hw
    have hkw : k < w.length := by omega
    have hm := hmem1 k w[k] (by rw [← he]; exact List.getElem_mem hkw)
    have hcc := ha.c a.Counts[k] (List.getElem_mem hk)
    have hg : w.getD k 0 = w[k] := by simp [List.getD, hkw]
    simp only [distribution_Add_l4, ix_nat a.Counts k hk, ix_nat w k hkw, setI_nat]
    rw [show decide ((k : Int) < (a.Counts.length : Int)) = true by simp; omega, cond_true, req_pos (by omega), req_pos (by omega), i64_add1 k (by omega), wrap64 (by omega) (by omega), hg]) (fun w => by simp [distribution_Add_l4])
  rw [i1]
  simp only []
  have i2 := iter_addP b.Counts (addP (List.replicate (max a.Counts.length b.Counts.length) 0) a.Counts) (distribution_Add_l2 b) (by rw [addP_len]; simp; omega) (by omega) (fun k w hk hw he => by
    rw [addP_len, List.length_replicate] at hw
    have hkw : k < w.length := by omega
    have hm := hmem2 k w[k] (by rw [← he]; exact List.getElem_mem hkw)
    have hcc := hb.c b.Counts[k] (List.getElem_mem hk)
    have hg : w.getD k 0 = w[k] := by simp [List.getD, hkw]
    simp only [distribution_Add_l2, ix_nat b.Counts k hk, ix_nat w k hkw, setI_nat]
    rw [show decide ((k : Int) < (b.Counts.length : Int)) = true by simp; omega, cond_true, req_pos (by omega), req_pos (by omega), i64_add1 k (by omega), wrap64 (by omega) (by omega), hg]) (fun w => by simp [distribution_Add_l2])
  rw [i2]
  rfl
theorem addOf_take (a b : List Int) (k : Nat) : sumI ((addOf a b).take k) = sumI (a.take k) + sumI (b.take k) := by
  unfold addOf
  rw [sumI_addP _ _ _ (by rw [addP_len]; simp; omega), sumI_addP _ _ _ (by simp; omega), zeros_take]; omega
theorem addOf_len (a b : List Int) : (addOf a b).length = max a.length b.length := by simp [addOf, addP_len]
theorem addOf_sum (a b : List Int) : sumI (addOf a b) = sumI a + sumI b := by
  have := addOf_take a b (max a.length b.length)
  rw [List.take_of_length_le (by rw [addOf_len]; omega), List.take_of_length_le (by omega), List.take_of_length_le (by omega)] at this
  exact this
theorem addOf_ss (a b : List Int) : ss 0 (addOf a b) = ss 0 a + ss 0 b := by
  unfold addOf
  rw [ss_addP _ _ _ (by rw [addP_len]; simp; omega), ss_addP _ _ _ (by simp; omega), zeros_ss]; omega
theorem addOf_sm (a b : api_Distribution) (ha : Sm a) (hb : Sm b) (h1 : ∀ c ∈ a.Counts, c ≤ 50) (h2 : ∀ c ∈ b.Counts, c ≤ 50) : Sm ⟨addOf a.Counts b.Counts⟩ := by
  have la := ha.hi
  have lb := hb.hi
  have lo := ha.lo
  refine ⟨by show 1 ≤ (addOf a.Counts b.Counts).length; rw [addOf_len]; omega, by show (addOf a.Counts b.Counts).length ≤ 20; rw [addOf_len]; omega, fun c hc => ?_⟩
  have hz : ∀ x ∈ List.replicate (max a.Counts.length b.Counts.length) (0 : Int), 0 ≤ x ∧ x ≤ 0 := fun x hx => by rw [(List.mem_replicate.1 hx).2]; omega
  have k1 := addP_mem _ a.Counts 0 50 hz (fun c hc => ⟨(ha.c c hc).1, h1 c hc⟩) (by omega)
  have k2 := addP_mem _ b.Counts (0 + 50) 50 k1 (fun c hc => ⟨(hb.c c hc).1, h2 c hc⟩) (by omega)
  have := k2 c hc
  omega
theorem meanOf_ok (d : api_Distribution) (h : Sm d) (hc : 0 < count d) : ∃ r, meanOf d = (r, 0) ∧ vR r = true ∧ r.Num * count d = scores d * r.Den ∧ 0 < r.Den := by
  have h1 := scores_bound d h
  have h2 : count d ≤ 2000 := h.all.2
  unfold meanOf
  rw [if_neg (by omega)]
  exact newOf_ok _ _ (by omega) (by omega) hc (by omega)
theorem cmpI_lt (x y : Int) : (cmpI x y < 0) ↔ x < y := by
  unfold cmpI; split <;> (try split) <;> omega
theorem here_take (d : api_Distribution) (s : Nat) (h : Sm d) : below d ((s + 1 : Nat) : Int) = below d (s : Int) + (if 0 ≤ (s : Int) ∧ (s : Int) < d.Counts.length then ix d.Counts (s : Int) else 0) := by
  unfold below
  simp only [Int.toNat_natCast]
  by_cases hs : s < d.Counts.length
  · rw [if_pos (by omega), sumI_take_succ _ _ hs, ix_nat _ _ hs]
  · rw [if_neg (by omega), List.take_of_length_le (by omega), List.take_of_length_le (by omega)]; omega
theorem pure_DistributionSums (t : List Int) : law32_DistributionSums t = some true := by
  unfold law32_DistributionSums
  rw [light_eq]
  simp only [Option.bind, sane_eq]
  by_cases hl : (t.length : Int) ≤ 600
  · rw [show (!decide ((t.length : Int) ≤ 600)) = false by simp [hl], cond_false]
    obtain ⟨d0, e0, h0⟩ := dRoll t (by omega)
    obtain ⟨a, t1, e1, k1, ha, la, ma⟩ := dDist d0 8 false h0 (by omega) (by omega)
    obtain ⟨b, t2, e2, k2, hb, lb, mb⟩ := dDist t1 8 false k1 (by omega) (by omega)
    have ca := ha.all
    have cb := hb.all
    have hcc : Sm ⟨addOf a.Counts b.Counts⟩ := addOf_sm a b ha hb (fun c hc => by have := ma c hc; omega) (fun c hc => by have := mb c hc; omega)
    simp only [e0, e1, e2, dAdd a b ha hb (by unfold count; omega)]
    simp only [dCount _ ha, dCount _ hb, dCount _ hcc, Option.isSome_some, Option.getD_some, implies_true, and_self, req_true]
    have hsum : count ⟨addOf a.Counts b.Counts⟩ = count a + count b := addOf_sum _ _
    rw [wrap64 (n := count a + count b) (by unfold count; omega) (by unfold count; omega), hsum]
    rw [show (((0 : Int) != 0) || (count a + count b != count a + count b)) = false by simp, cond_false]
    generalize hC : (⟨addOf a.Counts b.Counts⟩ : api_Distribution) = c at *
    have hbel : ∀ s : Int, below c s = below a s + below b s := fun s => by rw [← hC]; exact addOf_take _ _ _
    have cc := hcc.all
    have hcnt : count c = count a + count b := hsum
    have hdone : law32_DistributionSums_j1 a b c = some true := by
      unfold law32_DistributionSums_j1
      simp only [dMean _ ha, dMean _ hb, dMean _ hcc, Option.bind, LessR_eq, sane_eq, Option.isSome_some, Option.getD_some, implies_true, and_self, req_true]
      by_cases hza : count a = 0
      · rw [show ((meanOf a).2 != 0) = true by simp [meanOf, hza], Bool.true_or, cond_true]
      by_cases hzb : count b = 0
      · rw [show ((meanOf b).2 != 0) = true by simp [meanOf, hzb], Bool.or_true, cond_true]
      have pa : 0 < count a := by unfold count at *; omega
      have pb : 0 < count b := by unfold count at *; omega
      obtain ⟨x, ex, x1, x2, x3⟩ := meanOf_ok a ha pa
      obtain ⟨y, ey, y1, y2, y3⟩ := meanOf_ok b hb pb
      obtain ⟨z, ez, z1, z2, z3⟩ := meanOf_ok c hcc (by omega)
      have hsc : scores c = scores a + scores b := by rw [← hC]; exact addOf_ss _ _
      rw [ex, ey, ez]
      simp only []
      rw [show (((0 : Int) != 0) || ((0 : Int) != 0)) = false by simp, cond_false]
      rw [cmpR_new z x _ _ _ _ z1 x1 z2 x2 z3 x3 (by omega) pa, cmpR_new z y _ _ _ _ z1 y1 z2 y2 z3 y3 (by omega) pb, cmpR_new x z _ _ _ _ x1 z1 x2 z2 x3 z3 pa (by omega), cmpR_new y z _ _ _ _ y1 z1 y2 z2 y3 z3 pb (by omega)]
      rw [hsc, hcnt]
      simp only [cmpI_lt]
      have q1 : (scores a + scores b) * count a = scores a * count a + scores b * count a := by grind
      have q2 : (scores a + scores b) * count b = scores a * count b + scores b * count b := by grind
      have q3 : scores a * (count a + count b) = scores a * count a + scores a * count b := by grind
      have q4 : scores b * (count a + count b) = scores b * count a + scores b * count b := by grind
      rw [q1, q2, q3, q4]
      generalize scores a * count a = p11
      generalize scores a * count b = p12
      generalize scores b * count a = p21
      generalize scores b * count b = p22
      simp only [beq_self_eq_true, Bool.true_and, Bool.and_true, Option.some.injEq]
      rw [Bool.and_eq_true]
      simp only [Bool.not_eq_true', Bool.and_eq_false_iff, decide_eq_false_iff_not]
      omega
    -- the ranks
    obtain ⟨r, er, hr⟩ := iter_inv (f := law32_DistributionSums_l3 a b c) (fun s => 0 ≤ s.1 ∧ s.1 ≤ 11 ∧ vR ⟨s.2.1, s.2.2⟩ = true ∧ 0 < s.2.2 ∧ ∃ p q : Int, 0 < q ∧ q ≤ 4000 ∧ s.2.1 * q = p * s.2.2 ∧ (0 < count c → p * (2 * count c) ≤ 2 * below c s.1 * q)) (fun s => (11 - s.1).toNat) (fun r => r = .inl ()) (by
      rintro ⟨s, l1, l2⟩ ⟨g1, g2, g3, g4, p, q, g5, g6, g7, g8⟩
      simp only at g1 g2 g3 g4 g7 g8
      simp only [law32_DistributionSums_l3, law32_DistributionSums_j2]
      rcases bcases (decide (s ≤ (10 : Int))) with hc' | hc' <;> rw [hc']
      · left
        have hs : s ≤ 10 := by simpa using hc'
        have bA : 0 ≤ below a s ∧ below a s ≤ 2000 := ha.take _
        have bB : 0 ≤ below b s ∧ below b s ≤ 2000 := hb.take _
        have bC : 0 ≤ below c s ∧ below c s ≤ 2000 := hcc.take _
        simp only [cond_true, dBelow _ _ ha, dBelow _ _ hb, dBelow _ _ hcc, dRank _ _ hcc, Option.bind, LessR_eq]
        rw [wrap64 (n := below a s + below b s) (by omega) (by omega), hbel s, show (below a s + below b s != below a s + below b s) = false by simp, cond_false, wrap64 (n := s + 1) (by omega) (by omega)]
        obtain ⟨k, rfl⟩ : ∃ k : Nat, s = k := ⟨s.toNat, by omega⟩
        have hnext := here_take c k hcc
        have hmono : below c (k : Int) ≤ below c ((k + 1 : Nat) : Int) := sumI_mono _ (fun x hx => (hcc.c x hx).1) _ _ (by simp)
        by_cases hz : count c = 0
        · rw [if_pos hz]
          simp only []
          rw [show ((10 : Int) == 0) = false by simp, cond_false]
          refine ⟨_, rfl, ⟨by show (0 : Int) ≤ k + 1; omega, by show (k : Int) + 1 ≤ 11; omega, g3, g4, p, q, g5, g6, g7, fun h => absurd h (by omega)⟩, ?_⟩
          show (11 - ((k : Int) + 1)).toNat < (11 - (k : Int)).toNat
          omega
        · rw [if_neg hz]
          have hp : 0 < count c := by unfold count at *; omega
          rw [← hbel k]
          generalize hhere : (if 0 ≤ (k : Int) ∧ (k : Int) < c.Counts.length then ix c.Counts (k : Int) else 0) = here at *
          have bC1 : 0 ≤ below c ((k + 1 : Nat) : Int) ∧ below c ((k + 1 : Nat) : Int) ≤ 2000 := hcc.take _
          have cmax : count c ≤ 2000 := cc.2
          obtain ⟨u, eu, u1, u2, u3⟩ := newOf_ok (2 * below c (k : Int) + here) (2 * count c) (by omega) (by omega) (by omega) (by omega)
          rw [eu]
          simp only []
          rw [show ((0 : Int) == 0) = true by simp, cond_true, cmpR_new u ⟨l1, l2⟩ _ _ p q u1 g3 u2 g7 u3 g4 (by omega) g5]
          have g8' := g8 hp
          have hle : 2 * below c (k : Int) * q ≤ (2 * below c (k : Int) + here) * q := Int.mul_le_mul_of_nonneg_right (by omega) (by omega)
          rw [show decide (cmpI ((2 * below c (k : Int) + here) * q) (p * (2 * count c)) < 0) = false by rw [decide_eq_false_iff_not, cmpI_lt]; omega, cond_false]
          refine ⟨_, rfl, ⟨by show (0 : Int) ≤ k + 1; omega, by show (k : Int) + 1 ≤ 11; omega, u1, u3, 2 * below c (k : Int) + here, 2 * count c, by omega, by omega, u2, fun _ => ?_⟩, ?_⟩
          · show (2 * below c (k : Int) + here) * (2 * count c) ≤ 2 * below c ((k : Int) + 1) * (2 * count c)
            refine Int.mul_le_mul_of_nonneg_right ?_ (by omega)
            have : below c ((k : Int) + 1) = below c (k : Int) + here := by rw [← hnext]; congr 1
            omega
          · show (11 - ((k : Int) + 1)).toNat < (11 - (k : Int)).toNat
            omega
      · right; exact ⟨_, rfl, rfl⟩) (0, 0, 1) ⟨by simp, by simp, by decide, by simp, 0, 1, by omega, by omega, by simp, fun _ => by simp [below, sumI]⟩
    rw [er, hr]
    exact hdone
  · rw [show (!decide ((t.length : Int) ≤ 600)) = true by simp [hl], cond_true]
end Go.LS
