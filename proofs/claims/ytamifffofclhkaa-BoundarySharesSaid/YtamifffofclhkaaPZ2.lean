/-
  Boundaries: the dice's boundaries, the reference's count, the law of the grades.
  Conditions: Sm (few scores, small counts), Bd (falling boundaries).
-/
import Derived.Test.YtamifffofclhkaaPZ1
namespace Go.LS
set_option linter.all false
set_option linter.unusedSimpArgs false
set_option linter.unusedVariables false
set_option maxRecDepth 20000

theorem dBounds (t : mark_Dice) (most : Int) (h : DOK t) (h0 : 0 ≤ most) (h1 : most ≤ 30) : ∃ b t', mark_Dice_Bounds t most = some (b, t') ∧ DOK t' ∧ Bd b most := by
  unfold mark_Dice_Bounds
  obtain ⟨y, t1, e1, h2, h3, h4⟩ := dNext t 4 h (by omega)
  have h5 := h4 (by omega)
  rw [e1]
  simp only [Option.bind]
  rw [wrap64 (n := most + 1) (by omega) (by omega), wrap64 (n := 1 + y) (by omega) (by omega)]
  obtain ⟨⟨L, A, w⟩, e2, g1, g2, g3, g4⟩ := iter_inv (f := mark_Dice_Bounds_l2) (fun s => 0 ≤ s.2.1 ∧ s.2.1 + s.2.2.2.2.length = 1 + y ∧ DOK ⟨s.2.2.1, s.2.2.2.1⟩ ∧ (0 ≤ s.1 ∧ s.1 ≤ most + 1) ∧ (∀ c ∈ s.2.2.2.2, s.1 ≤ c ∧ c ≤ most + 1) ∧ s.2.2.2.2.Pairwise (fun a b => b ≤ a)) (fun s => s.2.1.toNat)
    (fun r => DOK ⟨r.1, r.2.1⟩ ∧ (r.2.2.length : Int) = 1 + y ∧ (∀ c ∈ r.2.2, 0 ≤ c ∧ c ≤ most + 1) ∧ r.2.2.Pairwise (fun a b => b ≤ a)) (by
      rintro ⟨b, i, L, A, w⟩ ⟨k1, k2, k3, k4, k5, k6⟩
      simp only at k1 k2 k3 k4 k5 k6
      simp only [mark_Dice_Bounds_l2]
      rcases bcases (decide ((0 : Int) < i)) with hc | hc <;> rw [hc]
      · left
        have hi : 0 < i := by simpa using hc
        rw [Int.tdiv_eq_ediv_of_nonneg k4.1, wrap64 (n := b / 2) (by omega) (by omega), wrap64 (n := b / 2 + 1) (by omega) (by omega)]
        obtain ⟨a, ta, ea, ha, a1, a2⟩ := dNext ⟨L, A⟩ (b / 2 + 1) k3 (by omega)
        have a3 := a2 (by omega)
        simp only [cond_true, ea, Option.bind]
        rw [req_pos (by simp; omega), wrap64 (n := i - 1) (by omega) (by omega), wrap64 (n := b - a) (by omega) (by omega)]
        refine ⟨_, rfl, ⟨by show 0 ≤ i - 1; omega, by simp; omega, ha, ⟨by simp; omega, by simp; omega⟩, ?_, ?_⟩, ?_⟩
        · intro c hc
          rcases List.mem_append.1 hc with hc | hc
          · have := k5 c hc; simp only []; omega
          · simp at hc; simp only []; omega
        · simp only []
          rw [List.pairwise_append]
          refine ⟨k6, by simp, ?_⟩
          intro x hx z hz
          have := k5 x hx
          simp at hz
          omega
        · show (i - 1).toNat < i.toNat
          omega
      · right
        have hi : i = 0 := by simp at hc; omega
        exact ⟨_, rfl, k3, by show (w.length : Int) = 1 + y; omega, fun c hc => by have := k5 c hc; omega, k6⟩) (most + 1, 1 + y, t1.L, t1.At, []) ⟨by show 0 ≤ 1 + y; omega, by simp, h2, ⟨by simp; omega, by simp⟩, by simp, by simp⟩
  rw [e2]
  simp only at g2 g3 g4
  refine ⟨w, ⟨L, A⟩, rfl, g1, ⟨by omega, by omega, g3, ?_⟩⟩
  intro i j hi hj hij
  rcases Nat.lt_or_eq_of_le hij with hlt | rfl
  · exact List.pairwise_iff_getElem.1 g4 i j hi hj hlt
  · exact Int.le_refl _
/-! ### the reference's count -/
theorem rValid (d : api_Distribution) (h : Sm d) : ref32_Valid d = some true := by
  have h1 := h.lo; have h2 := h.hi
  unfold ref32_Valid
  rw [show ((decide ((d.Counts.length : Int) < (1 : Int))) || (decide ((201 : Int) < (d.Counts.length : Int)))) = false by simp; omega, cond_false]
  obtain ⟨r, e, hr⟩ := iter_inv (f := ref32_Valid_l2 d) (fun s => 0 ≤ s.2 ∧ s.2 ≤ d.Counts.length ∧ 0 ≤ s.1 ∧ s.1 ≤ 100 * s.2) (fun s => d.Counts.length - s.2.toNat) (fun r => r = .inl ()) (by
    rintro ⟨n, i⟩ ⟨s0, s1, s2, s3⟩
    simp only at s0 s1 s2 s3
    simp only [ref32_Valid_l2]
    rcases bcases (decide (i < (d.Counts.length : Int))) with hc | hc <;> rw [hc]
    · left
      have hc' : i < d.Counts.length := by simpa using hc
      have hm := h.c _ (ix_mem d.Counts i s0 hc')
      rw [cond_true, req_pos ⟨⟨s0, hc'⟩, fun _ => ⟨s0, hc'⟩⟩, wrap64 (n := 1048576 - n) (by omega) (by omega)]
      rw [show ((decide ((ix d.Counts i) < (0 : Int))) || (decide (1048576 - n < (ix d.Counts i)))) = false by simp; omega, cond_false, req_pos ⟨s0, hc'⟩, wrap64 (n := n + ix d.Counts i) (by omega) (by omega), wrap64 (n := i + 1) (by omega) (by omega)]
      exact ⟨_, rfl, by simp only []; omega, by simp only []; omega⟩
    · right
      exact ⟨_, rfl, rfl⟩) (0, 0) (by simp)
  rw [e, hr]; rfl
theorem rCount (d : api_Distribution) (h : Sm d) : ref32_Count d = some (count d) := by
  have h1 := h.lo; have h2 := h.hi
  unfold ref32_Count ref32_Below ref32_Below_j1
  rw [iter_foldR d.Counts (ref32_Below_l2 d d.Counts.length) (fun b a => b + a) (fun b => b) (fun k b => k ≤ d.Counts.length ∧ b = sumI (d.Counts.take k)) ?_ ?_ 0 (by simp [sumI])]
  · simp only [Option.bind]
    rw [foldl_sum]
    simp [count]
  · rintro k b hk ⟨hk1, rfl⟩
    have ht := h.take (k + 1)
    rw [sumI_take_succ _ _ hk] at ht
    refine ⟨?_, by omega, (sumI_take_succ _ _ hk).symm⟩
    simp only [ref32_Below_l2]
    rw [rValid d h, req_pos (by simp), show ((decide ((k : Int) < (d.Counts.length : Int)) && decide ((k : Int) < (d.Counts.length : Int))) && (some true).getD default) = true by simp; omega, cond_true, req_pos (by omega), ix_nat _ _ hk, i64_add1 k (by omega), wrap64 (by omega) (by omega)]
  · rintro b ⟨_, _⟩
    simp only [ref32_Below_l2]
    rw [rValid d h, req_pos (by simp)]
    simp
/-! ### grades -/
theorem gr_iff (b : List Int) (m : Int) (most : Int) (hb : Bd b most) (v : Nat) (hv : v < b.length) : b[v] ≤ m ↔ gr b m ≤ v := by
  constructor
  · intro h
    rcases Nat.lt_or_ge v (gr b m) with hlt | hge
    · exact absurd (List.not_of_lt_findIdx hlt) (by simp [h])
    · exact hge
  · intro h
    have hl : b.findIdx (fun x => decide (x ≤ m)) < b.length := Nat.lt_of_le_of_lt h hv
    have h1 := List.findIdx_getElem (w := hl)
    have h2 := hb.dn (gr b m) v hl hv h
    simp only [decide_eq_true_eq] at h1
    exact Int.le_trans h2 h1
theorem gr_anti (b : List Int) (most : Int) (hb : Bd b most) (m m' : Int) (h : m ≤ m') : gr b m' ≤ gr b m := by
  rcases Nat.lt_or_ge (gr b m) b.length with hlt | hge
  · have := (gr_iff b m most hb (gr b m) hlt).2 (Nat.le_refl _)
    exact (gr_iff b m' most hb (gr b m) hlt).1 (by omega)
  · have := gr_le b m'; omega
theorem sumI_set : ∀ (l : List Int) (k : Nat) (x : Int) (h : k < l.length), sumI (l.set k x) = sumI l - l[k] + x
  | a :: l, 0, x, h => by simp [sumI]; omega
  | a :: l, k + 1, x, h => by
    have := sumI_set l k x (by simpa using h)
    simp only [List.set_cons_succ, sumI, this, List.getElem_cons_succ]; omega
theorem le_sumI : ∀ (l : List Int), (∀ c ∈ l, 0 ≤ c) → ∀ x ∈ l, x ≤ sumI l
  | a :: l, h, x, hx => by
    have h0 := h a (by simp)
    have h1 : ∀ c ∈ l, 0 ≤ c := fun c hc => h c (by simp [hc])
    have h2 : 0 ≤ sumI l := by
      clear hx h h0
      induction l with
      | nil => simp [sumI]
      | cons c l ih => have := h1 c (by simp); have := ih (fun c hc => h1 c (by simp [hc])); simp only [sumI]; omega
    simp only [sumI]
    rcases List.mem_cons.1 hx with rfl | hx
    · omega
    · have := le_sumI l h1 x hx; omega
theorem tl_inv (d : api_Distribution) (b : List Int) (h : Sm d) : ∀ k, k ≤ d.Counts.length → (∀ x ∈ tl d b k, 0 ≤ x) ∧ sumI (tl d b k) = sumI (d.Counts.take k) := by
  intro k
  induction k with
  | zero =>
    intro _
    refine ⟨by simp [tl, rep], ?_⟩
    have : ∀ n : Nat, sumI (List.replicate n 0) = 0 := by
      intro n; induction n with
      | zero => rfl
      | succ n ih => simp [List.replicate_succ, sumI, ih]
    simp [tl, rep, this, sumI]
  | succ k ih =>
    intro hk
    obtain ⟨i1, i2⟩ := ih (by omega)
    have hl := tl_len d b k
    have hg := gr_le b k
    have e1 := ix_nat (tl d b k) (gr b k) (by omega)
    have e2 := ix_nat d.Counts k (by omega)
    have m1 := List.getElem_mem (l := tl d b k) (n := gr b k) (by omega)
    have b1 := i1 _ m1
    have b2 := le_sumI _ i1 _ m1
    have b3 := h.c _ (List.getElem_mem (l := d.Counts) (n := k) (by omega))
    have b4 := h.take k
    simp only [tl]
    rw [e1, e2, wrap64 (by omega) (by omega)]
    unfold setI
    rw [show ((gr b k : Nat) : Int).toNat = gr b k by omega]
    refine ⟨?_, ?_⟩
    · intro x hx
      rcases List.mem_or_eq_of_mem_set hx with hx | rfl
      · exact i1 x hx
      · omega
    · rw [sumI_set _ _ _ (by omega), sumI_take_succ _ _ (by omega)]; omega
theorem pure_BoundaryGrades (t : List Int) : law35_BoundaryGrades t = some true := by
  unfold law35_BoundaryGrades
  rw [light_le]
  simp only [Option.bind]
  by_cases ht : (t.length : Int) ≤ 600
  · rw [show (!(decide ((t.length : Int) ≤ 600))) = false by simp; omega, cond_false]
    obtain ⟨d0, e0, k0⟩ := dRoll t (by omega)
    rw [e0]
    simp only []
    obtain ⟨d, t1, e1, k1, s1, l1, c1⟩ := dDist d0 9 false k0 (by decide) (by decide)
    have hl0 := s1.lo; have hl1 := s1.hi
    rw [e1]
    simp only []
    rw [wrap64 (n := (d.Counts.length : Int) - 1) (by omega) (by omega)]
    obtain ⟨b, t2, e2, k2, hb⟩ := dBounds t1 ((d.Counts.length : Int) - 1) k1 (by omega) (by omega)
    have hb1 := hb.lo; have hb2 := hb.hi
    rw [e2]
    simp only []
    rw [Tally_eq d b s1 hb]
    simp only []
    have hlen := tl_len d b d.Counts.length
    rw [wrap64 (n := (b.length : Int) + 1) (by omega) (by omega), hlen, show (((0 : Int) != 0) || (((b.length + 1 : Nat) : Int) != (b.length : Int) + 1)) = false by simp, cond_false, req_pos (by omega)]
    have key : ∀ (n k : Nat) (last : Int), d.Counts.length - k = n → k ≤ d.Counts.length → (∀ m : Int, (k : Int) ≤ m → (gr b m : Int) ≤ last) → iter (law35_BoundaryGrades_l7 d b) (last, (k : Int), tl d b k) = some (.inl (tl d b d.Counts.length)) := by
      intro n
      induction n with
      | zero =>
        intro k last hn hk hlast
        have : k = d.Counts.length := by omega
        subst this
        exact iter_inr (by
          simp only [law35_BoundaryGrades_l7]
          rw [wrap64 (n := (d.Counts.length : Int) - 1) (by omega) (by omega), show decide ((d.Counts.length : Int) ≤ (d.Counts.length : Int) - 1) = false by simp; omega, cond_false])
      | succ n ih =>
        intro k last hn hk hlast
        have hgl := gr_le b k
        have hk' : k < d.Counts.length := by omega
        have hg := hlast k (Int.le_refl _)
        have e6 : iter (law35_BoundaryGrades_l6 b k (gr b k)) (0 : Int) = some (.inl ()) := by
          obtain ⟨r, e, hr⟩ := iter_inv (f := law35_BoundaryGrades_l6 b k (gr b k)) (fun s => 0 ≤ s ∧ s ≤ b.length) (fun s => b.length - s.toNat) (fun r => r = .inl ()) (by
            rintro s ⟨s0, s1⟩
            simp only [law35_BoundaryGrades_l6]
            rcases bcases (decide (s < (b.length : Int))) with hc | hc <;> rw [hc]
            · left
              have hc' : s < b.length := by simpa using hc
              obtain ⟨v, rfl⟩ : ∃ v : Nat, s = (v : Int) := ⟨s.toNat, by omega⟩
              have hgi := gr_iff b k _ hb v (by omega)
              rw [cond_true, req_pos (by omega), ix_nat _ v (by omega), i64_add1 v (by omega)]
              rw [show decide (b[v] ≤ (k : Int)) = decide ((gr b k : Int) ≤ (v : Int)) by simp [hgi], beq_self_eq_true, Bool.not_true, cond_false]
              exact ⟨_, rfl, by omega, by omega⟩
            · right
              exact ⟨_, rfl, rfl⟩) 0 (by omega)
          rw [e, hr]
        have step : law35_BoundaryGrades_l7 d b (last, (k : Int), tl d b k) = some (.inl ((gr b k : Int), ((k + 1 : Nat) : Int), tl d b (k + 1))) := by
          simp only [law35_BoundaryGrades_l7]
          rw [wrap64 (n := (d.Counts.length : Int) - 1) (by omega) (by omega), show decide ((k : Int) ≤ (d.Counts.length : Int) - 1) = true by simp; omega, cond_true, Grade_eq b k (by omega)]
          simp only [Option.bind]
          rw [show (decide (last < (gr b k : Int)) || decide ((gr b k : Int) < 0)) = false by simp; omega, cond_false, e6]
          simp only [law35_BoundaryGrades_j5, law35_BoundaryGrades_j4]
          rw [req_pos (by rw [tl_len]; omega), i64_add1 k (by omega)]
          rfl
        rw [iter_inl step]
        apply ih (k + 1) _ (by omega) (by omega)
        intro m hm
        have := gr_anti b _ hb k m (by omega)
        omega
    have it := key _ 0 (b.length : Int) rfl (by omega) (fun m _ => by have := gr_le b m; omega)
    rw [show ((0 : Nat) : Int) = 0 from rfl] at it
    rw [show rep ((b.length + 1 : Nat) : Int) (0 : Int) = tl d b 0 from rfl, it]
    simp only [law35_BoundaryGrades_j3]
    obtain ⟨v1, v2⟩ := tl_inv d b s1 d.Counts.length (Nat.le_refl _)
    rw [List.take_length] at v2
    have hall := s1.all
    rw [iter_foldR (tl d b d.Counts.length) (law35_BoundaryGrades_l2 (tl d b d.Counts.length)) (fun b a => b + a) (fun b => b) (fun k x => k ≤ (tl d b d.Counts.length).length ∧ x = sumI ((tl d b d.Counts.length).take k)) ?_ ?_ 0 (by simp [sumI])]
    · simp only [Option.bind, law35_BoundaryGrades_j1]
      rw [foldl_sum, same_eq _ _ (by omega), rCount d s1, sane_eq]
      simp only []
      rw [req_pos (by simp), v2]
      simp [count]
    · rintro k x hk ⟨hk1, rfl⟩
      have hm := sumI_mono _ v1 (k + 1) (tl d b d.Counts.length).length (by omega)
      rw [List.take_length, v2] at hm
      have hm0 := sumI_mono _ v1 0 (k + 1) (by omega)
      rw [sumI_take_succ _ _ hk] at hm hm0
      simp only [List.take_zero, sumI] at hm0
      refine ⟨?_, by omega, (sumI_take_succ _ _ hk).symm⟩
      simp only [law35_BoundaryGrades_l2]
      rw [show decide ((k : Int) < ((tl d b d.Counts.length).length : Int)) = true by simp; omega, cond_true, req_pos (by omega), ix_nat _ _ hk, i64_add1 k (by omega), wrap64 (by omega) (by omega)]
    · rintro x ⟨_, _⟩
      simp [law35_BoundaryGrades_l2]
  · rw [show (!(decide ((t.length : Int) ≤ 600))) = true by simp; omega, cond_true, sane_eq]
end Go.LS
