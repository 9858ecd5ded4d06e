/-
  BoundaryShares: the boundary of Share is the greatest that the share reaches, and that of Nearest the nearest.
  Conditions: the number is a byte.
-/
import Derived.Test.YtamifffofclhkaaPZS
namespace Go.LS
set_option linter.all false
set_option linter.unusedSimpArgs false
set_option linter.unusedVariables false
set_option maxRecDepth 20000

theorem sbn {α β : Type} (x : α) (f : α → Option β) : (some x).bind f = f x := rfl
theorem rBelow (d : api_Distribution) (s : Int) (h : Sm d) : ref32_Below d s = some (below d s) := by
  unfold ref32_Below below ref32_Below_j1
  have h2 := h.hi
  have := iter_val (f := ref32_Below_l2 d s) (fun x => 0 ≤ x.2 ∧ x.2 ≤ d.Counts.length ∧ x.2.toNat ≤ s.toNat ∧ x.1 = sumI (d.Counts.take x.2.toNat)) (fun x => (d.Counts.length - x.2).toNat) (fun _ => sumI (d.Counts.take s.toNat)) (by
    rintro ⟨b, i⟩ ⟨k1, k2, k3, k4⟩
    simp only at k1 k2 k3 k4
    obtain ⟨k, rfl⟩ : ∃ k : Nat, i = k := ⟨i.toNat, by omega⟩
    simp only [Int.toNat_natCast] at k3 k4
    simp only [ref32_Below_l2]
    rw [rValid d h, req_pos (show ((decide ((k : Int) < (d.Counts.length : Int)) && decide ((k : Int) < s)) = true → (some true).isSome = true) from fun _ => rfl), show (some true).getD default = true by rfl, Bool.and_true]
    rcases bcases ((decide ((k : Int) < (d.Counts.length : Int))) && (decide ((k : Int) < s))) with hc | hc <;> rw [hc]
    · left
      simp only [Bool.and_eq_true, decide_eq_true_eq] at hc
      have hk : k < d.Counts.length := by omega
      have hcc := h.c d.Counts[k] (List.getElem_mem hk)
      have ht := h.take k
      rw [cond_true, req_pos (by omega), ix_nat d.Counts k hk, i64_add1 k (by omega), wrap64 (by omega) (by omega)]
      refine ⟨_, rfl, ⟨by omega, by simp; omega, by simp; omega, ?_⟩, ?_, by first | rfl | trivial⟩
      · show b + d.Counts[k] = sumI (d.Counts.take ((k + 1 : Nat) : Int).toNat)
        rw [Int.toNat_natCast, sumI_take_succ _ _ hk, k4]
      · show ((d.Counts.length : Int) - ((k + 1 : Nat) : Int)).toNat < ((d.Counts.length : Int) - (k : Int)).toNat
        omega
    · right
      simp only [Bool.and_eq_false_iff, decide_eq_false_iff_not] at hc
      rw [cond_false, k4]
      congr 3
      by_cases hl : k = d.Counts.length
      · rw [hl, List.take_length, List.take_of_length_le (by omega)]
      · have : k = s.toNat := by omega
        rw [this]) (0, 0) ⟨by simp, by simp, by simp, by simp [sumI]⟩
  rw [this]
  rfl
theorem f1_eq (d : api_Distribution) (h : Sm d) (b : Nat) : law35_BoundaryShares_f1 (b : Int) (count d) d = some (rc d b) := by
  unfold law35_BoundaryShares_f1
  rw [rBelow d b h]
  have e : count d = below d (b : Int) + rc d b := by
    unfold count below rc
    rw [Int.toNat_natCast, ← sumI_append, List.take_append_drop]
  have r := h.rc b
  show some (IntKind.i64.wrap (count d - below d (b : Int))) = _
  rw [show count d - below d (b : Int) = rc d b by omega, wrap64 (by omega) (by omega)]
def far (d : api_Distribution) (k : Int) (b : Nat) : Int := imax (rc d b * 12 - k * count d) (k * count d - rc d b * 12)
theorem kc_b (d : api_Distribution) (h : Sm d) (k : Int) (hk0 : 0 ≤ k) (hk : k ≤ 12) : 0 ≤ k * count d ∧ k * count d ≤ 12 * 2000 := by
  have := h.all
  exact ⟨Int.mul_nonneg hk0 this.1, Int.mul_le_mul hk this.2 this.1 (by omega)⟩
theorem f2_eq (d : api_Distribution) (h : Sm d) (k : Int) (hk0 : 0 ≤ k) (hk : k ≤ 12) (b : Nat) : law35_BoundaryShares_f2 (b : Int) k (count d) d = some (far d k b) := by
  have r := h.rc b
  have c := kc_b d h k hk0 hk
  unfold law35_BoundaryShares_f2
  rw [f1_eq d h b, sbn, sbn]
  try dsimp only
  unfold bindV far
  rw [wrap64 (n := rc d b * 12) (by omega) (by omega), wrap64 (n := k * count d) (by omega) (by omega), wrap64 (n := rc d b * 12 - k * count d) (by omega) (by omega), wrap64 (n := k * count d - rc d b * 12) (by omega) (by omega)]
theorem shares_l2 (d : api_Distribution) (h : Sm d) (n k : Int) (hkn : IntKind.i64.wrap (Int.tmod n 13) = k) (hk0 : 0 ≤ k) (hk : k ≤ 12) (x : Nat) (hn : ∀ y : Nat, y ≤ d.Counts.length → far d k x ≤ far d k y ∧ (far d k y = far d k x → x ≤ y)) : iter (law35_BoundaryShares_l2 n d (count d) (x : Int)) (0 : Int) = some (.inl ()) := by
  have hl := h.hi
  have key : ∀ (m j : Nat), d.Counts.length + 1 - j = m → j ≤ d.Counts.length + 1 → iter (law35_BoundaryShares_l2 n d (count d) (x : Int)) (j : Int) = some (.inl ()) := by
    intro m
    induction m with
    | zero =>
      intro j hm hj
      refine iter_inr ?_
      simp only [law35_BoundaryShares_l2]
      rw [show decide ((j : Int) ≤ (d.Counts.length : Int)) = false by simp only [decide_eq_false_iff_not]; omega, cond_false]
    | succ m ih =>
      intro j hm hj
      have hj' : j ≤ d.Counts.length := by omega
      obtain ⟨n1, n2⟩ := hn j hj'
      have st : law35_BoundaryShares_l2 n d (count d) (x : Int) (j : Int) = some (.inl ((j + 1 : Nat) : Int)) := by
        have e1 := f2_eq d h k hk0 hk j
        have e2 := f2_eq d h k hk0 hk x
        simp only [law35_BoundaryShares_l2, hkn]
        rw [show decide ((j : Int) ≤ (d.Counts.length : Int)) = true by simp only [decide_eq_true_eq]; omega, cond_true, e1, sbn, e2, sbn]
        try dsimp only
        rw [show (!(decide (far d k j < far d k x))) = true by simp only [Bool.not_eq_true', decide_eq_false_iff_not]; omega, cond_true, sbn, sbn]
        try dsimp only
        rw [show ((decide (far d k j < far d k x)) || ((far d k j == far d k x) && (decide ((j : Int) < (x : Int))))) = false by
          simp only [Bool.or_eq_false_iff, Bool.and_eq_false_iff, decide_eq_false_iff_not, beq_eq_false_iff_ne]
          refine ⟨by omega, ?_⟩
          by_cases g : far d k j = far d k x
          · exact .inr (by have := n2 g; omega)
          · exact .inl g, cond_false, i64_add1 j (by omega)]
      rw [iter_inl st]
      exact ih (j + 1) (by omega) (by omega)
  exact key _ 0 rfl (by omega)
theorem shares_l4 (d : api_Distribution) (h : Sm d) (n k : Int) (hkn : IntKind.i64.wrap (Int.tmod n 13) = k) (hk0 : 0 ≤ k) (hk : k ≤ 12) (x : Nat) (hn : ∀ y : Nat, y ≤ d.Counts.length → far d k x ≤ far d k y ∧ (far d k y = far d k x → x ≤ y)) : iter (law35_BoundaryShares_l4 n d (count d) (x : Int)) (0 : Int) = some (.inl ()) := by
  have hl := h.hi
  have key : ∀ (m j : Nat), d.Counts.length + 1 - j = m → j ≤ d.Counts.length + 1 → iter (law35_BoundaryShares_l4 n d (count d) (x : Int)) (j : Int) = some (.inl ()) := by
    intro m
    induction m with
    | zero =>
      intro j hm hj
      refine iter_inr ?_
      simp only [law35_BoundaryShares_l4]
      rw [show decide ((j : Int) ≤ (d.Counts.length : Int)) = false by simp only [decide_eq_false_iff_not]; omega, cond_false]
    | succ m ih =>
      intro j hm hj
      have hj' : j ≤ d.Counts.length := by omega
      obtain ⟨n1, n2⟩ := hn j hj'
      have st : law35_BoundaryShares_l4 n d (count d) (x : Int) (j : Int) = some (.inl ((j + 1 : Nat) : Int)) := by
        have e1 := f2_eq d h k hk0 hk j
        have e2 := f2_eq d h k hk0 hk x
        simp only [law35_BoundaryShares_l4, hkn]
        rw [show decide ((j : Int) ≤ (d.Counts.length : Int)) = true by simp only [decide_eq_true_eq]; omega, cond_true, e1, sbn, e2, sbn]
        try dsimp only
        rw [show (!(decide (far d k j < far d k x))) = true by simp only [Bool.not_eq_true', decide_eq_false_iff_not]; omega, cond_true, sbn, sbn]
        try dsimp only
        rw [show ((decide (far d k j < far d k x)) || ((far d k j == far d k x) && (decide ((j : Int) < (x : Int))))) = false by
          simp only [Bool.or_eq_false_iff, Bool.and_eq_false_iff, decide_eq_false_iff_not, beq_eq_false_iff_ne]
          refine ⟨by omega, ?_⟩
          by_cases g : far d k j = far d k x
          · exact .inr (by have := n2 g; omega)
          · exact .inl g, cond_false, i64_add1 j (by omega)]
      rw [iter_inl st]
      exact ih (j + 1) (by omega) (by omega)
  exact key _ 0 rfl (by omega)
theorem nr_ratio (Y : Nat → Int) (N D N' D' : Int) (hD : 0 < D) (hD' : 0 < D') (he : N * D' = N' * D) : ∀ k, nr Y N D k = nr Y N' D' k
  | 0 => rfl
  | k + 1 => by
    simp only [nr, nr_ratio Y N D N' D' hD hD' he k]
    generalize nr Y N' D' k = b
    have e2 : (N * (2 * Y 0) < (Y k + Y b) * D) ↔ (N' * (2 * Y 0) < (Y k + Y b) * D') := by
      have a1 : N * (2 * Y 0) * D' = N' * (2 * Y 0) * D := by
        rw [Int.mul_right_comm, he, Int.mul_right_comm]
      have a2 : (Y k + Y b) * D * D' = (Y k + Y b) * D' * D := Int.mul_right_comm _ _ _
      constructor
      · intro g
        have g1 := Int.mul_lt_mul_of_pos_right g hD'
        rw [a1, a2] at g1
        exact Int.lt_of_mul_lt_mul_right g1 (by omega)
      · intro g
        have g1 := Int.mul_lt_mul_of_pos_right g hD
        rw [← a1, ← a2] at g1
        exact Int.lt_of_mul_lt_mul_right g1 (by omega)
    simp only [e2]
def fa (s z : Int) : Int := imax (z * 12 - s) (s - z * 12)
theorem nr_far (Y : Nat → Int) (k : Int) (hY : ∀ i j, i ≤ j → Y j ≤ Y i) : ∀ m y, y < m → fa (k * Y 0) (Y (nr Y k 12 m)) ≤ fa (k * Y 0) (Y y) ∧ (fa (k * Y 0) (Y y) = fa (k * Y 0) (Y (nr Y k 12 m)) → nr Y k 12 m ≤ y)
  | 0 => by intro y hy; omega
  | m + 1 => by
    intro y hy
    have ih := nr_far Y k hY m
    have hle := nr_le Y k 12 m
    simp only [nr]
    revert ih hle
    generalize nr Y k 12 m = b
    intro ih hle
    have hs : k * (2 * Y 0) = 2 * (k * Y 0) := by rw [Int.mul_left_comm]
    rw [hs]
    generalize k * Y 0 = s at *
    have anti := hY b m (by omega)
    by_cases c : Y m < Y b ∧ 2 * s < (Y m + Y b) * 12
    · rw [if_pos c]
      have hlt : fa s (Y m) < fa s (Y b) := by unfold fa imax; split <;> split <;> omega
      rcases Nat.lt_or_ge y m with g | g
      · obtain ⟨i1, i2⟩ := ih y g
        exact ⟨by omega, fun e => by omega⟩
      · have : y = m := by omega
        subst this
        exact ⟨Int.le_refl _, fun _ => Nat.le_refl _⟩
    · rw [if_neg c]
      rcases Nat.lt_or_ge y m with g | g
      · exact ih y g
      · have : y = m := by omega
        subst this
        refine ⟨?_, fun _ => by omega⟩
        unfold fa imax
        split <;> split <;> omega
theorem bcheck (d : api_Distribution) (share : api_Ratio) (h : Sm d) (hv : vR share = true) (h0 : 0 ≤ share.Num) (h1 : share.Num ≤ share.Den) : boundary_check d share = some (if count d = 0 then 10 else 0) := by
  unfold boundary_check
  rw [dValid _ h, Valid_eq, hv]
  simp only [Option.bind]
  rw [req_pos (by simp), dCount _ h]
  simp only [Option.getD, Bool.not_true, Bool.or_self, cond_false]
  by_cases hc : count d = 0
  · rw [if_pos hc, show (count d == 0) = true by simpa using hc, cond_true]
  · rw [if_neg hc, show (count d == 0) = false by simpa using hc, cond_false, show (decide (share.Num < (0 : Int)) || decide (share.Den < share.Num)) = false by simp only [Bool.or_eq_false_iff, decide_eq_false_iff_not]; omega, cond_false]
theorem Share_ok (d : api_Distribution) (share : api_Ratio) (k : Int) (h : Sm d) (hc : 0 < count d) (hv : vR share = true) (h0 : 0 ≤ share.Num) (h1 : share.Num ≤ share.Den) (hd : 0 < share.Den) (hk0 : 0 ≤ k) (hk : k ≤ 12) (he : share.Num * 12 = k * share.Den) :
    ∃ b : Nat, boundary_Share d share = some ((b : Int), 0) ∧ b ≤ d.Counts.length ∧ k * count d ≤ rc d b * 12 ∧ (b < d.Counts.length → rc d (b + 1) * 12 < k * count d) := by
  have hl := RC_len d
  have hlo := h.lo; have hhi := h.hi
  have hd1 := (vR_iff share).1 hv
  have hc0 : 0 < rc d 0 := by rw [rc_0]; exact hc
  have hkc : k * count d ≤ 12 * count d := Int.mul_le_mul_of_nonneg_right hk (by omega)
  have cmp : ∀ b : Nat, (share.Num * rc d 0 ≤ rc d b * share.Den) ↔ (k * count d ≤ rc d b * 12) := by
    intro b
    rw [rc_0]
    have a1 : share.Num * count d * 12 = k * count d * share.Den := by rw [Int.mul_right_comm, he, Int.mul_right_comm]
    have a2 : rc d b * share.Den * 12 = rc d b * 12 * share.Den := Int.mul_right_comm _ _ _
    constructor
    · intro g
      have g1 := Int.mul_le_mul_of_nonneg_right g (show (0 : Int) ≤ 12 by omega)
      rw [a1, a2] at g1
      exact Int.le_of_mul_le_mul_right g1 hd
    · intro g
      have g1 := Int.mul_le_mul_of_nonneg_right g (show (0 : Int) ≤ share.Den by omega)
      rw [← a1, ← a2] at g1
      exact Int.le_of_mul_le_mul_right g1 (by omega)
  have key : ∀ (b : Nat), b ≤ d.Counts.length → (b < d.Counts.length → rc d (b + 1) * 12 < k * count d) →
      ∃ b' : Nat, (iter (boundary_Share_l2 share (RC d)) (b : Int)).bind (fun x_ => match x_ with | .inl () => boundary_Share_j1 | .inr t_ => some t_) = some ((b' : Int), 0) ∧ b' ≤ d.Counts.length ∧ k * count d ≤ rc d b' * 12 ∧ (b' < d.Counts.length → rc d (b' + 1) * 12 < k * count d) := by
    intro b
    induction b with
    | zero =>
      intro hb hn
      refine ⟨0, ?_, by omega, by rw [rc_0]; omega, hn⟩
      rw [show iter (boundary_Share_l2 share (RC d)) ((0 : Nat) : Int) = some (.inl ()) from iter_inr (by simp [boundary_Share_l2])]
      rfl
    | succ b ih =>
      intro hb hn
      have r := h.rc (b + 1); have r0 := h.rc 0
      obtain ⟨q, eq, vq, qq, dq⟩ := newOf_ok (rc d (b + 1)) (rc d 0) (by omega) (by omega) (by omega) (by omega)
      have ec : boundary_Share_l2 share (RC d) ((b + 1 : Nat) : Int) = bif decide ((0 : Int) ≤ cmpI (rc d (b + 1) * share.Den) (share.Num * rc d 0)) then some (.inr (.inr (((b + 1 : Nat) : Int), (0 : Int)))) else some (.inl (b : Int)) := by
        simp only [boundary_Share_l2]
        rw [show decide ((0 : Int) < ((b + 1 : Nat) : Int)) = true by simp only [decide_eq_true_eq]; omega, cond_true, req_pos (by rw [hl]; omega), RC_ix d (b + 1) hb, show ix (RC d) (0 : Int) = rc d 0 from RC_ix d 0 (by omega), cs_eq _ _ _ ⟨by omega, by omega⟩ ⟨by omega, by omega⟩, eq, sbn]
        try dsimp only
        rw [cmpR_new q share _ _ share.Num share.Den vq hv qq rfl dq hd (by omega) hd, show ((b + 1 : Nat) : Int) - 1 = (b : Int) by omega, wrap64 (n := (b : Int)) (by omega) (by omega)]
      by_cases g : k * count d ≤ rc d (b + 1) * 12
      · refine ⟨b + 1, ?_, hb, g, hn⟩
        rw [show decide ((0 : Int) ≤ cmpI (rc d (b + 1) * share.Den) (share.Num * rc d 0)) = true by simp only [decide_eq_true_eq]; exact (cmpI_ge _ _).2 ((cmp (b + 1)).2 g), cond_true] at ec
        rw [iter_inr ec]
        rfl
      · rw [show decide ((0 : Int) ≤ cmpI (rc d (b + 1) * share.Den) (share.Num * rc d 0)) = false by simp only [decide_eq_false_iff_not]; exact fun x => g ((cmp (b + 1)).1 ((cmpI_ge _ _).1 x)), cond_false] at ec
        rw [iter_inl ec]
        exact ih (by omega) (fun _ => by omega)
  obtain ⟨b, k1, k2⟩ := key d.Counts.length (Nat.le_refl _) (fun g => by omega)
  refine ⟨b, ?_, k2⟩
  unfold boundary_Share
  rw [bcheck d share h hv h0 h1, if_neg (by omega), sbn]
  rw [show ((0 : Int) != 0) = false by simp, cond_false, reach_eq d h, sbn, hl, show ((d.Counts.length + 1 : Nat) : Int) - 1 = (d.Counts.length : Int) by omega, wrap64 (n := (d.Counts.length : Int)) (by omega) (by omega)]
  exact k1
theorem pure_BoundaryShares (t : List Int) (n : Int) (hn : 0 ≤ n ∧ n < 256) : law35_BoundaryShares t n = some true := by
  unfold law35_BoundaryShares
  rw [light_eq, sbn]
  by_cases ht : (t.length : Int) ≤ 600
  · rw [show (!(decide ((t.length : Int) ≤ 600))) = false by simpa using ht, cond_false]
    obtain ⟨d0, r0, dk⟩ := dRoll t (by omega)
    rw [r0, sbn]
    obtain ⟨d, d1, r1, dk1, sm, len, cs⟩ := dDist d0 9 false dk (by omega) (by omega)
    rw [r1, sbn]
    try dsimp only
    rw [rCount d sm, sbn]
    have hk0 : 0 ≤ Int.tmod n 13 := Int.tmod_nonneg _ hn.1
    have hk1 : Int.tmod n 13 < 13 := Int.tmod_lt_of_pos _ (by decide)
    have hkn : IntKind.i64.wrap (Int.tmod n 13) = Int.tmod n 13 := wrap64 (n := Int.tmod n 13) (by omega) (by omega)
    rw [hkn]
    generalize hk_ : Int.tmod n 13 = k at hk0 hk1
    rw [hk_] at hkn
    have hkn : IntKind.i64.wrap (Int.tmod n 13) = k := by rw [hk_, hkn]
    rw [NewR_eq k 12 ⟨by omega, by omega⟩ ⟨by omega, by omega⟩]
    obtain ⟨share, e1, e2, e3, e4⟩ := newOf_ok k 12 (by omega) (by omega) (by omega) (by omega)
    rw [e1, sbn]
    try dsimp only
    have q0 : 0 ≤ share.Num := by
      rcases Int.lt_or_le share.Num 0 with g | g
      · have := Int.mul_nonneg hk0 (show 0 ≤ share.Den by omega); omega
      · exact g
    have q1 : share.Num ≤ share.Den := by
      have := Int.mul_le_mul_of_nonneg_right (show k ≤ 12 by omega) (show 0 ≤ share.Den by omega)
      omega
    have hcb := sm.all
    by_cases hc : count d = 0
    · rw [show boundary_Share d share = some (0, 10) by unfold boundary_Share; rw [bcheck d share sm e2 q0 q1, if_pos hc, sbn]; rfl, sbn]
      try dsimp only
      rw [show boundary_Nearest d share = some (0, 10) by unfold boundary_Nearest; rw [bcheck d share sm e2 q0 q1, if_pos hc, sbn]; rfl, sbn]
      try dsimp only
      rw [show ((0 : Int) != 0) = false by simp, cond_false, hc, show ((0 : Int) == 0) = true by rfl, cond_true, sane_eq]
      simp [req]
    · have hc' : 0 < count d := by unfold count at *; omega
      obtain ⟨b, s1, s2, s3, s4⟩ := Share_ok d share k sm hc' e2 q0 q1 e4 hk0 (by omega) e3
      rw [s1, sbn]
      try dsimp only
      have nq : boundary_Nearest d share = some (((nr (rc d) k 12 (d.Counts.length + 1) : Nat) : Int), (0 : Int)) := by
        unfold boundary_Nearest
        rw [bcheck d share sm e2 q0 q1, if_neg hc, sbn, show ((0 : Int) != 0) = false by simp, cond_false, Nearest_eq d share sm hc' e2, sbn, nr_ratio (rc d) share.Num share.Den k 12 e4 (by omega) e3]
      rw [nq, sbn]
      try dsimp only
      have hx := nr_far (rc d) k (rc_anti d sm) (d.Counts.length + 1)
      rw [rc_0] at hx
      generalize nr (rc d) k 12 (d.Counts.length + 1) = x at hx
      have hf : ∀ y : Nat, y ≤ d.Counts.length → far d k x ≤ far d k y ∧ (far d k y = far d k x → x ≤ y) := fun y hy => hx y (by omega)
      have L2 := shares_l2 d sm n k hkn hk0 (by omega) x hf
      have L4 := shares_l4 d sm n k hkn hk0 (by omega) x hf
      have c := kc_b d sm k hk0 (by omega)
      have rb := sm.rc b; have rb1 := sm.rc (b + 1)
      rw [show ((0 : Int) != 0) = false by simp, cond_false, show (count d == (0 : Int)) = false by simpa using hc, cond_false]
      rw [show (!(false || false)) = true by rfl, cond_true, f1_eq d sm b, sbn]
      try dsimp only
      rw [wrap64 (n := rc d b * 12) (by omega) (by omega), wrap64 (n := k * count d) (by omega) (by omega), show decide (rc d b * 12 < k * count d) = false by simp only [decide_eq_false_iff_not]; omega]
      by_cases hb : b < d.Counts.length
      · have := s4 hb
        rw [show decide ((b : Int) < (d.Counts.length : Int)) = true by simp only [decide_eq_true_eq]; omega]
        rw [show ((!((false || false) || false)) && true) = true by rfl, cond_true, i64_add1 b (by have := sm.hi; omega), f1_eq d sm (b + 1), sbn]
        try dsimp only
        rw [wrap64 (n := rc d (b + 1) * 12) (by omega) (by omega), show decide (k * count d ≤ rc d (b + 1) * 12) = false by simp only [decide_eq_false_iff_not]; omega]
        rw [show (((false || false) || false) || (true && false)) = false by rfl, cond_false, L2, sbn]
        show law35_BoundaryShares_j1 = _
        unfold law35_BoundaryShares_j1
        rw [sane_eq]; rfl
      · rw [show decide ((b : Int) < (d.Counts.length : Int)) = false by simp only [decide_eq_false_iff_not]; omega]
        rw [show ((!((false || false) || false)) && false) = false by rfl, cond_false, req_pos (fun _ g => absurd g (by decide))]
        rw [Bool.false_and, show (((false || false) || false) || false) = false by rfl, cond_false, L4, sbn]
        show law35_BoundaryShares_j3 = _
        unfold law35_BoundaryShares_j3
        rw [sane_eq]; rfl
  · rw [show (!(decide ((t.length : Int) ≤ 600))) = true by simpa using ht, cond_true, sane_eq]
    rfl
end Go.LS
