/-
  Boundaries: the law of the reference's method.
  Conditions: Sm (few scores, small counts), Bd (falling boundaries).
-/
import Derived.Test.YtamifffofclhkaaPZ3
namespace Go.LS
set_option linter.all false
set_option linter.unusedSimpArgs false
set_option linter.unusedVariables false
set_option maxRecDepth 20000

theorem OG_len (d ref : api_Distribution) (b : List Int) : (OG d ref b).length = b.length := by simp [OG]
theorem OG_get (d ref : api_Distribution) (b : List Int) (k : Nat) (h : k < (OG d ref b).length) : (OG d ref b)[k] = og d ref b k := by simp [OG]
theorem nn_le (d ref : api_Distribution) (x : Int) : nn d ref x ≤ d.Counts.length := by
  have := nr_le (rc d) (sh ref x).Num (sh ref x).Den (d.Counts.length + 1)
  unfold nn; omega
theorem og_rng (d ref : api_Distribution) (b : List Int) : ∀ k, 0 ≤ og d ref b k ∧ og d ref b k ≤ d.Counts.length
  | 0 => by simp only [og]; have := nn_le d ref (b.getD 0 0); omega
  | k + 1 => by simp only [og]; have := nn_le d ref (b.getD (k + 1) 0); have := og_rng d ref b k; omega
theorem og_dn (d ref : api_Distribution) (b : List Int) (i j : Nat) (h : i ≤ j) : og d ref b j ≤ og d ref b i := by
  induction h with
  | refl => exact Int.le_refl _
  | @step m hm ih =>
    show og d ref b (m + 1) ≤ og d ref b i
    simp only [og]; omega
theorem OG_Bd (d ref : api_Distribution) (b : List Int) (most : Int) (hb : Bd b most) : Bd (OG d ref b) ((d.Counts.length : Int) - 1) :=
  ⟨by rw [OG_len]; exact hb.lo, by rw [OG_len]; exact hb.hi, by
    intro x hx
    obtain ⟨k, hk, rfl⟩ := List.getElem_of_mem hx
    rw [OG_get]; have := og_rng d ref b k; omega, by
    intro i j hi hj hij
    rw [OG_get, OG_get]; exact og_dn d ref b i j hij⟩
/-- on its own distribution a boundary goes to the lowest score of its level -/
theorem nr_self (Y : Nat → Int) (N D t : Int) (L M : Nat) (hY : ∀ i j, i ≤ j → Y j ≤ Y i) (hL : Y L = t) (hlow : ∀ j, j < L → t < Y j) (hD : 0 < D) (hN : N * Y 0 = t * D) : ∀ k, (k ≤ L → Y (nr Y N D k) = Y (k - 1)) ∧ (L < k → nr Y N D k = L) := by
  have hcond : ∀ a b : Int, (N * (2 * Y 0) < (a + b) * D) ↔ 2 * t < a + b := by
    intro a b
    rw [show N * (2 * Y 0) = 2 * (N * Y 0) by grind, hN, show 2 * (t * D) = (2 * t) * D by grind]
    exact ⟨fun h => Int.lt_of_mul_lt_mul_right h (by omega), fun h => Int.mul_lt_mul_of_pos_right h hD⟩
  intro k
  induction k with
  | zero => exact ⟨fun _ => rfl, fun h => by omega⟩
  | succ k ih =>
    simp only [nr, hcond]
    have hble := nr_le Y N D k
    generalize nr Y N D k = b at *
    refine ⟨fun hk => ?_, fun hk => ?_⟩
    · have h1 := ih.1 (by omega)
      have h2 := hlow k (by omega)
      have h3 := hY (k - 1) k (by omega)
      show Y _ = Y (k + 1 - 1)
      rw [show k + 1 - 1 = k by omega]
      split
      · rfl
      · omega
    · rcases Nat.lt_or_ge L k with hlt | hge
      · have h1 := ih.2 hlt
        subst h1
        have := hY b k (by omega)
        rw [if_neg (by omega)]
      · have e : k = L := by omega
        subst e
        have h1 := ih.1 (by omega)
        rcases Nat.eq_zero_or_pos k with h0 | h0
        · subst h0
          have e0 : b = 0 := by omega
          subst e0
          rw [if_neg (by omega)]
        · have := hlow (k - 1) (by omega)
          rw [if_pos (by omega)]
theorem least_lev (Y : Nat → Int) (hY : ∀ i j, i ≤ j → Y j ≤ Y i) : ∀ x : Nat, ∃ L, L ≤ x ∧ Y L = Y x ∧ ∀ j, j < L → Y x < Y j
  | 0 => ⟨0, Nat.le_refl _, rfl, by omega⟩
  | x + 1 => by
    obtain ⟨L, h1, h2, h3⟩ := least_lev Y hY x
    by_cases e : Y (x + 1) = Y x
    · exact ⟨L, by omega, by omega, fun j hj => by rw [e]; exact h3 j hj⟩
    · refine ⟨x + 1, Nat.le_refl _, rfl, fun j hj => ?_⟩
      have := hY j x (by omega)
      have := hY x (x + 1) (by omega)
      omega
theorem nn_self (d : api_Distribution) (h : Sm d) (hc : 0 < count d) (x : Int) (h0 : 0 ≤ x) (h1 : x ≤ d.Counts.length) : ∃ L : Nat, nn d d x = L ∧ L ≤ x.toNat ∧ rc d L = rc d x.toNat ∧ ∀ j, j < L → rc d x.toNat < rc d j := by
  obtain ⟨L, l1, l2, l3⟩ := least_lev (rc d) (rc_anti d h) x.toNat
  have r1 := h.rc x.toNat; have r3 := h.rc 0
  have hc0 : 0 < rc d 0 := by rw [rc_0]; exact hc
  obtain ⟨r, er, vr, qr, dr⟩ := newOf_ok (rc d x.toNat) (rc d 0) (by omega) (by omega) (by omega) (by omega)
  have esh : sh d x = r := by simp [sh, er]
  have := (nr_self (rc d) r.Num r.Den (rc d x.toNat) L 0 (rc_anti d h) l2 l3 dr qr (d.Counts.length + 1)).2 (by omega)
  exact ⟨L, by unfold nn; rw [esh]; exact this, l1, l2, l3⟩
theorem og_self (d : api_Distribution) (h : Sm d) (hc : 0 < count d) (b : List Int) (hb : Bd b ((d.Counts.length : Int) - 1)) : ∀ k (hk : k < b.length), og d d b k = nn d d b[k] := by
  intro k
  induction k with
  | zero => intro hk; simp [og, List.getD, hk]
  | succ k ih =>
    intro hk
    have hk0 : k < b.length := by omega
    simp only [og]
    rw [ih hk0, show b.getD (k + 1) 0 = b[k + 1] by simp [List.getD, hk]]
    have a1 := hb.r _ (List.getElem_mem hk); have a2 := hb.r _ (List.getElem_mem hk0)
    have a3 := hb.dn k (k + 1) hk0 hk (by omega)
    obtain ⟨L, e1, e2, e3, e4⟩ := nn_self d h hc b[k + 1] (by omega) (by omega)
    obtain ⟨M, f1, f2, f3, f4⟩ := nn_self d h hc b[k] (by omega) (by omega)
    rw [e1, f1]
    have : L ≤ M := by
      rcases Nat.lt_or_ge M L with hlt | hge
      · have g1 := e4 M hlt
        have g2 := rc_anti d h b[k + 1].toNat b[k].toNat (by omega)
        omega
      · exact hge
    omega
theorem gr_congr (b c : List Int) (m : Int) (p q : Int) (hb : Bd b p) (hc : Bd c q) (hl : b.length = c.length) (h : ∀ v (h1 : v < b.length) (h2 : v < c.length), b[v] ≤ m ↔ c[v] ≤ m) : gr b m = gr c m := by
  have a1 := gr_le b m; have a2 := gr_le c m
  apply Nat.le_antisymm
  · rcases Nat.lt_or_ge (gr c m) c.length with hlt | hge
    · have := (gr_iff c m q hc (gr c m) hlt).2 (Nat.le_refl _)
      exact (gr_iff b m p hb (gr c m) (by omega)).1 ((h _ (by omega) hlt).2 this)
    · omega
  · rcases Nat.lt_or_ge (gr b m) b.length with hlt | hge
    · have := (gr_iff b m p hb (gr b m) hlt).2 (Nat.le_refl _)
      exact (gr_iff c m q hc (gr b m) (by omega)).1 ((h _ hlt (by omega)).1 this)
    · omega
theorem setI_self (w : List Int) (g : Nat) (h : g < w.length) : setI w (g : Int) (ix w (g : Int)) = w := by
  rw [ix_nat _ _ h]; simp [setI]
theorem tl_self (d : api_Distribution) (h : Sm d) (hc : 0 < count d) (b : List Int) (hb : Bd b ((d.Counts.length : Int) - 1)) : ∀ k, k ≤ d.Counts.length → tl d (OG d d b) k = tl d b k := by
  have hB := OG_Bd d d b _ hb
  have hlen := OG_len d d b
  intro k
  induction k with
  | zero => intro _; simp only [tl, hlen]
  | succ k ih =>
    intro hk
    have e := ih (by omega)
    simp only [tl]
    rw [e]
    have hk' : k < d.Counts.length := by omega
    have ec := ix_nat d.Counts k hk'
    by_cases hz : d.Counts[k] = 0
    · obtain ⟨i1, i2⟩ := tl_inv d b h k (by omega)
      have b4 := h.take k
      have sm : ∀ g : Nat, g ≤ b.length → setI (tl d b k) (g : Int) (IntKind.i64.wrap (ix (tl d b k) (g : Int) + 0)) = tl d b k := by
        intro g hg
        have hgl : g < (tl d b k).length := by rw [tl_len]; omega
        have m1 := List.getElem_mem hgl
        have b1 := i1 _ m1
        have b2 := le_sumI _ i1 _ m1
        have e1 := ix_nat (tl d b k) g hgl
        rw [wrap64 (by omega) (by omega), Int.add_zero]
        exact setI_self _ _ hgl
      rw [ec, hz, sm _ (by have := gr_le (OG d d b) k; omega), sm _ (gr_le b k)]
    · have : gr (OG d d b) (k : Int) = gr b (k : Int) := by
        apply gr_congr _ _ _ _ _ hB hb hlen
        intro v h1 h2
        rw [OG_get, og_self d h hc b hb v h2]
        have a1 := hb.r _ (List.getElem_mem h2)
        obtain ⟨L, e1, e2, e3, e4⟩ := nn_self d h hc b[v] (by omega) (by omega)
        rw [e1]
        constructor
        · intro hL
          rcases Int.lt_or_le (k : Int) b[v] with hlt | hge
          · exfalso
            have q1 := rc_anti d h L k (by omega)
            have q2 := rc_succ d k hk'
            have q3 := rc_anti d h (k + 1) b[v].toNat (by omega)
            have q4 := h.c _ (List.getElem_mem hk')
            omega
          · exact hge
        · intro hL; omega
      rw [this]
/-! ### scaling -/
theorem newOf_scale (a n c : Int) (hc : 0 < c) : newOf (c * a) (c * n) = newOf a n := by
  obtain ⟨k, rfl⟩ : ∃ k : Nat, c = (k : Int) := ⟨c.toNat, by omega⟩
  unfold newOf redOf
  by_cases hn : n = 0
  · simp [hn]
  · have : (k : Int) * n ≠ 0 := Int.mul_ne_zero (by omega) hn
    rw [if_neg this, if_neg hn]
    have s1 : ∀ x : Int, decide ((k : Int) * x < 0) = decide (x < 0) := by
      intro x
      have : ((k : Int) * x < 0) ↔ (x < 0) := ⟨fun h => by
        rcases Int.lt_or_le x 0 with h1 | h1
        · exact h1
        · have := Int.mul_nonneg (show 0 ≤ (k : Int) by omega) h1; omega, fun h => Int.mul_neg_of_pos_of_neg hc h⟩
      simp [this]
    rw [s1, s1, Int.natAbs_mul, Int.natAbs_mul, Int.natAbs_natCast, Nat.gcd_mul_left, Nat.mul_div_mul_left _ _ (by omega), Nat.mul_div_mul_left _ _ (by omega)]
def scl (d : api_Distribution) (c : Int) : api_Distribution := ⟨d.Counts.map (fun x => x * c)⟩
theorem sumI_scl (l : List Int) (c : Int) : sumI (l.map (fun x => x * c)) = c * sumI l := by
  induction l with
  | nil => simp [sumI]
  | cons a l ih => simp only [List.map_cons, sumI, ih]; grind
theorem rc_scl (d : api_Distribution) (c : Int) (j : Nat) : rc (scl d c) j = c * rc d j := by
  unfold rc scl; rw [← List.map_drop]; exact sumI_scl _ _
theorem count_scl (d : api_Distribution) (c : Int) : count (scl d c) = c * count d := by
  unfold count scl; exact sumI_scl _ _
theorem OG_sclD (d ref : api_Distribution) (b : List Int) (c : Int) (hc : 0 < c) : OG (scl d c) ref b = OG d ref b := by
  have e : ∀ x, nn (scl d c) ref x = nn d ref x := by
    intro x
    unfold nn
    rw [show rc (scl d c) = fun j => c * rc d j from funext (rc_scl d c), nr_scale _ _ _ c hc]
    simp [scl]
  have e2 : ∀ k, og (scl d c) ref b k = og d ref b k := by
    intro k
    induction k with
    | zero => simp only [og, e]
    | succ k ih => simp only [og, e, ih]
  unfold OG
  rw [show og (scl d c) ref b = og d ref b from funext e2]
theorem OG_sclR (d ref : api_Distribution) (b : List Int) (c : Int) (hc : 0 < c) : OG d (scl ref c) b = OG d ref b := by
  have e : ∀ x, nn d (scl ref c) x = nn d ref x := by
    intro x
    unfold nn sh
    rw [rc_scl, rc_scl, newOf_scale _ _ c hc]
  have e2 : ∀ k, og d (scl ref c) b k = og d ref b k := by
    intro k
    induction k with
    | zero => simp only [og, e]
    | succ k ih => simp only [og, e, ih]
  unfold OG
  rw [show og d (scl ref c) b = og d ref b from funext e2]
/-- a loop that appends what it makes of each element -/
theorem iter_map {ρ : Type} (l : List Int) (f : Int × List Int → Option ((Int × List Int) ⊕ ρ)) (g : Int → Int) (fin : List Int → ρ)
    (hstep : ∀ (k : Nat) (w : List Int) (hk : k < l.length), w.length = k → f ((k : Int), w) = some (.inl (((k + 1 : Nat) : Int), w ++ [g l[k]])))
    (hend : ∀ w : List Int, f ((l.length : Int), w) = some (.inr (fin w))) : iter f ((0 : Int), []) = some (fin (l.map g)) := by
  have key : ∀ (n k : Nat), l.length - k = n → k ≤ l.length → iter f ((k : Int), (l.take k).map g) = some (fin (l.map g)) := by
    intro n
    induction n with
    | zero =>
      intro k hn hk
      have : k = l.length := by omega
      subst this
      rw [iter_inr (hend _), List.take_length]
    | succ n ih =>
      intro k hn hk
      have hk' : k < l.length := by omega
      rw [iter_inl (hstep k _ hk' (by simp; omega))]
      have := ih (k + 1) (by omega) (by omega)
      rw [List.take_succ_eq_append_getElem hk', List.map_append] at this
      exact this
  have := key _ 0 rfl (by omega)
  simpa using this
theorem scl_Sm (d : api_Distribution) (c : Int) (h : Sm d) (h6 : ∀ x ∈ d.Counts, x ≤ 6) (h0 : 1 ≤ c) (h5 : c ≤ 5) : Sm (scl d c) := by
  refine ⟨by simp [scl]; exact h.lo, by simp [scl]; exact h.hi, ?_⟩
  intro x hx
  simp only [scl, List.mem_map] at hx
  obtain ⟨y, hy, rfl⟩ := hx
  have a1 := h.c y hy; have a2 := h6 y hy
  have m1 : y * c ≤ 6 * 5 := Int.mul_le_mul a2 h5 (by omega) (by omega)
  have m2 : 0 ≤ y * c := Int.mul_nonneg a1.1 (by omega)
  omega
theorem pure_BoundaryReference (t : List Int) (times : Int) (htm : 0 ≤ times ∧ times < 256) : law35_BoundaryReference t times = some true := by
  unfold law35_BoundaryReference
  rw [light_le]
  simp only [Option.bind]
  by_cases ht : (t.length : Int) ≤ 600
  · rw [show (!(decide ((t.length : Int) ≤ 600))) = false by simp; omega, cond_false]
    obtain ⟨d0, e0, k0⟩ := dRoll t (by omega)
    rw [e0]
    simp only []
    obtain ⟨d, t1, e1, k1, s1, l1, c1⟩ := dDist d0 9 false k0 (by decide) (by decide)
    rw [e1]
    simp only []
    obtain ⟨r, t2, e2, k2, s2, l2, c2⟩ := dDist t1 9 false k1 (by decide) (by decide)
    rw [e2]
    simp only []
    have hd0 := s1.lo; have hd1 := s1.hi; have hr0 := s2.lo; have hr1 := s2.hi
    have ca := s1.all; have cb := s2.all
    rw [rCount d s1, rCount r s2]
    simp only []
    rw [req_pos (by simp)]
    by_cases hz : count d = 0 ∨ count r = 0
    · rw [show ((count d == 0) || ((some (count r)).getD default == 0)) = true by simpa using hz, cond_true, sane_eq]
    · rw [show ((count d == 0) || ((some (count r)).getD default == 0)) = false by simpa using hz, cond_false]
      have hcd : 0 < count d := by unfold count at *; omega
      have hcr : 0 < count r := by unfold count at *; omega
      rw [wrap64 (n := (r.Counts.length : Int) - 1) (by omega) (by omega)]
      obtain ⟨b, t3, e3, k3, hb⟩ := dBounds t2 ((r.Counts.length : Int) - 1) k2 (by omega) (by omega)
      have hb1 := hb.lo; have hb2 := hb.hi
      rw [e3]
      simp only []
      rw [Ref_eq r r b s2 s2 hcr hcr hb]
      simp only []
      rw [Tally_eq r _ s2 (OG_Bd r r b _ hb), Tally_eq r b s2 hb, Ref_eq d r b s1 s2 hcd hcr hb]
      simp only []
      rw [tl_self r s2 hcr b hb _ (Nat.le_refl _), same_eq _ _ (by rw [tl_len]; omega), req_pos (by simp)]
      rw [show (((((0 : Int) != 0) || ((0 : Int) != 0)) || ((0 : Int) != 0)) || ((0 : Int) != 0) || !(some (decide (tl r b r.Counts.length = tl r b r.Counts.length))).getD default) = false by simp, cond_false]
      have hlen := OG_len d r b
      have e6 : iter (law35_BoundaryReference_l6 (OG d r b)) (1 : Int) = some (.inl ()) := by
        obtain ⟨x, e, hx⟩ := iter_inv (f := law35_BoundaryReference_l6 (OG d r b)) (fun s => 1 ≤ s ∧ s ≤ b.length) (fun s => b.length - s.toNat) (fun r => r = .inl ()) (by
          rintro s ⟨s0, s1⟩
          simp only [law35_BoundaryReference_l6]
          rw [hlen]
          rcases bcases (decide (s < (b.length : Int))) with hc | hc <;> rw [hc]
          · left
            have hc' : s < b.length := by simpa using hc
            obtain ⟨k, rfl⟩ : ∃ k : Nat, s = ((k + 1 : Nat) : Int) := ⟨(s - 1).toNat, by omega⟩
            rw [cond_true, show IntKind.i64.wrap (((k + 1 : Nat) : Int) - 1) = (k : Int) by rw [wrap64 (by omega) (by omega)]; omega, req_pos (by omega), wrap64 (n := ((k + 1 : Nat) : Int) + 1) (by omega) (by omega), ix_nat _ k (by omega), ix_nat _ (k + 1) (by omega), OG_get, OG_get]
            have := og_dn d r b k (k + 1) (by omega)
            rw [show decide (og d r b k < og d r b (k + 1)) = false by simp; omega, cond_false]
            exact ⟨_, rfl, by omega, by omega⟩
          · right
            exact ⟨_, rfl, rfl⟩) 1 (by omega)
        rw [e, hx]
      rw [e6]
      simp only [law35_BoundaryReference_j5, bindV]
      have hq : 0 ≤ times % 5 ∧ times % 5 < 5 := ⟨Int.emod_nonneg _ (by decide), Int.emod_lt_of_pos _ (by decide)⟩
      rw [Int.tmod_eq_emod_of_nonneg htm.1, wrap64 (n := times % 5) (by omega) (by omega), wrap64 (n := 1 + times % 5) (by omega) (by omega)]
      generalize hk : 1 + times % 5 = c
      have hc1 : 1 ≤ c := by omega
      have hc5 : c ≤ 5 := by omega
      have hm : ∀ x : Int, 0 ≤ x ∧ x ≤ 100 → IntKind.i64.wrap (x * c) = x * c := by
        intro x hx
        have m1 : x * c ≤ 100 * 5 := Int.mul_le_mul hx.2 hc5 (by omega) (by omega)
        have m2 : 0 ≤ x * c := Int.mul_nonneg hx.1 (by omega)
        exact wrap64 (by omega) (by omega)
      rw [iter_map d.Counts (law35_BoundaryReference_l4 d c) (fun x => x * c) (fun w => w) (by
        intro k w hk hw
        simp only [law35_BoundaryReference_l4]
        rw [show decide ((k : Int) < (d.Counts.length : Int)) = true by simp; omega, cond_true, req_pos (by omega), req_pos (by simp; omega), ix_nat _ _ hk, hm _ (s1.c _ (List.getElem_mem hk)), i64_add1 k (by omega)]) (by
        intro w
        simp [law35_BoundaryReference_l4])]
      simp only [Option.bind, law35_BoundaryReference_j3]
      rw [iter_map r.Counts (law35_BoundaryReference_l2 r c) (fun x => x * c) (fun w => w) (by
        intro k w hk hw
        simp only [law35_BoundaryReference_l2]
        rw [show decide ((k : Int) < (r.Counts.length : Int)) = true by simp; omega, cond_true, req_pos (by omega), req_pos (by simp; omega), ix_nat _ _ hk, hm _ (s2.c _ (List.getElem_mem hk)), i64_add1 k (by omega)]) (by
        intro w
        simp [law35_BoundaryReference_l2])]
      simp only [Option.bind, law35_BoundaryReference_j1]
      have q1 : 0 < count (scl d c) := by rw [count_scl]; exact Int.mul_pos (by omega) hcd
      have q2 : 0 < count (scl r c) := by rw [count_scl]; exact Int.mul_pos (by omega) hcr
      have f1 := Ref_eq (scl d c) r b (scl_Sm d c s1 c1 hc1 hc5) s2 q1 hcr hb
      have f2 := Ref_eq d (scl r c) b s1 (scl_Sm r c s2 c2 hc1 hc5) hcd q2 (by simpa [scl] using hb)
      rw [OG_sclD _ _ _ c (by omega)] at f1
      rw [OG_sclR _ _ _ c (by omega)] at f2
      rw [show (api_Distribution.mk (List.map (fun x => x * c) d.Counts)) = scl d c from rfl, show (api_Distribution.mk (List.map (fun x => x * c) r.Counts)) = scl r c from rfl, f1]
      simp only []
      rw [f2]
      simp only []
      rw [same_eq _ _ (by omega), sane_eq, req_pos (by simp)]
      simp
  · rw [show (!(decide ((t.length : Int) ≤ 600))) = true by simp; omega, cond_true, sane_eq]
end Go.LS
