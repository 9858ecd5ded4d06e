/-
  Law 36: AggregateOrder and AggregateRises, in plain functions.
  Conditions: the numbers that a byte has.
-/
import Derived.Test.YtogfplnonlpmcaaPK2
namespace Go.LS
set_option linter.all false
set_option linter.unusedSimpArgs false
set_option linter.unusedVariables false
set_option maxRecDepth 20000

theorem light36 (t : List Int) : mark_Light t = some (decide ((t.length : Int) ≤ 600)) := rfl
theorem set_ok : ∀ {us : List api_Unit} {ms : List api_UnitMark} (k : Nat) (m' : api_UnitMark), PairOK us ms → ∀ (h1 : k < us.length) (h2 : k < ms.length), MOK us[k] m' → m'.Kind = ms[k].Kind → tOf us[k] ms[k] ≤ tOf us[k] m' →
    PairOK us (ms.set k m') ∧ wOf us (ms.set k m') = wOf us ms ∧ SS us ms ≤ SS us (ms.set k m') ∧ ∀ c : Int, ((ms.set k m').any fun m => m.Kind == c) = (ms.any fun m => m.Kind == c)
  | u :: us, m :: ms, 0, m', h, _, _, hm, hk, ht => by
    simp only [List.getElem_cons_zero] at hm hk ht
    simp only [List.set_cons_zero]
    have hc : counts m' = counts m := by unfold counts; rw [hk]
    refine ⟨⟨h.1, hm, h.2.2⟩, ?_, ?_, fun c => by simp only [List.any_cons, hk]⟩
    · simp only [wOf_cons, hc]
    · simp only [SS_cons, hc]
      split <;> omega
  | u :: us, m :: ms, k + 1, m', h, h1, h2, hm, hk, ht => by
    simp only [List.getElem_cons_succ] at hm hk ht
    obtain ⟨a1, a2, a3, a4⟩ := set_ok k m' h.2.2 (by simpa using h1) (by simpa using h2) hm hk ht
    simp only [List.set_cons_succ]
    refine ⟨⟨h.1, h.2.1, a1⟩, ?_, ?_, fun c => by simp only [List.any_cons, a4 c]⟩
    · simp only [wOf_cons, a2]
    · simp only [SS_cons]; omega
theorem tOf_le {u : api_Unit} {m : api_UnitMark} (hu : UOK u) (hm : MOK u m) (v : Int) (h : m.Value.Num ≤ v * m.Value.Den) (v0 : 0 ≤ v) : tOf u m ≤ tOf u ⟨m.Kind, ⟨v, 1⟩⟩ := by
  unfold tOf
  show m.Value.Num * u.Weight * (600 / (m.Value.Den * u.Max)) ≤ v * u.Weight * (600 / (1 * u.Max))
  have w0 := hu.w0
  have h2 := Int.mul_le_mul_of_nonneg_right h (show 0 ≤ u.Weight by omega)
  have e : v * 2 * u.Weight = 2 * (v * u.Weight) := by grind
  rcases hm.den with hd | hd <;> rw [hd] at h2 ⊢ <;> rcases hu.mx with hx | hx | hx | hx <;> rw [hx]
  · rw [Int.mul_one] at h2; show _ * (60 : Int) ≤ _ * (60 : Int); omega
  · rw [Int.mul_one] at h2; show _ * (50 : Int) ≤ _ * (50 : Int); omega
  · rw [Int.mul_one] at h2; show _ * (12 : Int) ≤ _ * (12 : Int); omega
  · rw [Int.mul_one] at h2; show _ * (6 : Int) ≤ _ * (6 : Int); omega
  · rw [e] at h2; show _ * (30 : Int) ≤ _ * (60 : Int); omega
  · rw [e] at h2; show _ * (25 : Int) ≤ _ * (50 : Int); omega
  · rw [e] at h2; show _ * (6 : Int) ≤ _ * (12 : Int); omega
  · rw [e] at h2; show _ * (3 : Int) ≤ _ * (6 : Int); omega
theorem PP_le {a : api_Award} {l m : List api_UnitMark} {s s' : Int} (ha : AOK a) (hl : PairOK a.Units l) (hw : wOf a.Units m = wOf a.Units l) (hS : SS a.Units l ≤ SS a.Units m) (hs : s ≤ s') : PP a l s * QQ a m ≤ PP a m s' * QQ a l := by
  have m0 := ha.m0
  obtain ⟨b1, _, _⟩ := wOf_b hl
  have hq : QQ a m = QQ a l := by unfold QQ; rw [hw]
  rw [hq]
  have q0 : 0 ≤ QQ a l := by unfold QQ; omega
  refine Int.mul_le_mul_of_nonneg_right ?_ q0
  unfold PP
  rw [hw]
  have h1 := Int.mul_le_mul_of_nonneg_right hS (show 0 ≤ a.Max by omega)
  have h2 := Int.mul_le_mul_of_nonneg_right (Int.mul_le_mul_of_nonneg_right hs (show 0 ≤ a.Max by omega)) (show 0 ≤ 600 * wOf a.Units l by omega)
  omega
theorem ceil_le {x : api_Ratio} (h : vR x = true) : x.Num ≤ ceilR x * x.Den ∧ (0 ≤ x.Num → 0 ≤ ceilR x) := by
  have v := vd_of h
  have r := v.rs
  have e := v.eq
  have d0 := v.d0
  have e2 : x.Den * flR x = flR x * x.Den := Int.mul_comm _ _
  have hf : 0 ≤ x.Num → 0 ≤ flR x := fun hn => Int.ediv_nonneg hn (by omega)
  unfold ceilR up
  by_cases hc : 0 < rsR x
  · rw [if_pos (by simpa using hc)]
    have e3 : (flR x + 1) * x.Den = flR x * x.Den + x.Den := by grind
    rw [e3]
    exact ⟨by omega, fun hn => by have := hf hn; omega⟩
  · rw [if_neg (by simpa using hc), Int.add_zero]
    exact ⟨by omega, hf⟩
theorem ceil_hi {x : api_Ratio} (h : vR x = true) (hn : x.Num ≤ 1000) (hn0 : 0 ≤ x.Num) : ceilR x ≤ 1001 := by
  have v := vd_of h
  have d0 := v.d0
  have : flR x ≤ 1000 := by
    have := Int.ediv_le_self x.Den hn0
    unfold flR; omega
  unfold ceilR up
  split <;> omega
theorem tail_rises (m : Int) (m0 : 0 ≤ m) (m1 : m < 256) (a : api_Award) (ha : AOK a) (l w : List api_UnitMark) (hl : PairOK a.Units l) (hw : PairOK a.Units w) (ww : wOf a.Units w = wOf a.Units l) (hS : SS a.Units l ≤ SS a.Units w) (hk : ∀ c : Int, (w.any fun m => m.Kind == c) = (l.any fun m => m.Kind == c))
    (y9 y10 y11 y12 : Int) (hd : aggregate_Decide a l 10 = some (y9, y10, y11, y12)) : y12 = 0 ∧ law36_AggregateRises_j1 m a l y9 y10 y11 w = some true := by
  have hm30 : IntKind.i64.wrap (10 + IntKind.i64.wrap (Int.tmod m 30)) = 10 + m % 30 := by
    rw [Int.tmod_eq_emod_of_nonneg m0, wrap64 (n := m % 30) (by omega) (by omega), wrap64 (by omega) (by omega)]
  have hp : isP w = isP l := hk 3
  have ht : isT w = isT l := hk 0
  have dl := Decide_eq a l 10 ha hl (by decide) (by decide)
  have dw := Decide_eq a w 10 ha hw (by decide) (by decide)
  have ds := Decide_eq a l (10 + m % 30) ha hl (by omega) (by omega)
  unfold law36_AggregateRises_j1
  rw [hm30]
  by_cases h1 : isP l = true
  · rw [dl.1 h1] at hd
    obtain ⟨rfl, rfl, rfl, rfl⟩ : 2 = y9 ∧ 0 = y10 ∧ 0 = y11 ∧ 0 = y12 := by simpa using hd
    refine ⟨rfl, ?_⟩
    rw [dw.1 (by rw [hp]; exact h1), ds.1 h1, sane36]
    simp only [some_bind]
    rw [show (((((0 : Int) != 0) || ((0 : Int) != 0)) || ((2 : Int) != 2)) || ((2 : Int) != 2)) = false by decide, cond_false, req_pos (by intro _; rfl)]
    congr 1
  · have h1' : isP l = false := by simpa using h1
    by_cases h2 : isT l = true
    · obtain ⟨x, tx, ex⟩ := dl.2.2 h1' h2
      obtain ⟨y, ty, ey⟩ := dw.2.2 (by rw [hp]; exact h1') (by rw [ht]; exact h2)
      obtain ⟨z, tz, ez⟩ := ds.2.2 h1' h2
      rw [ex] at hd
      obtain ⟨rfl, rfl, rfl, rfl⟩ : 0 = y9 ∧ (gr a.Bounds (roundR x) : Int) = y10 ∧ roundR x = y11 ∧ 0 = y12 := by simpa using hd
      refine ⟨rfl, ?_⟩
      rw [ey, ez, sane36]
      simp only [some_bind]
      have r := tx.range ha hl (by decide)
      have xy := round_mono tx.v ty.v (tx.le ty rfl (PP_le ha hl ww hS (Int.le_refl _)))
      have xz := round_mono tx.v tz.v (tx.le tz rfl (PP_le ha hl rfl (Int.le_refl _) (by omega)))
      have gy := gr_anti a.Bounds a.Max ha.b _ _ xy
      have gz := gr_anti a.Bounds a.Max ha.b _ _ xz
      rw [show (((((0 : Int) != 0) || ((0 : Int) != 0)) || ((0 : Int) != 0)) || ((0 : Int) != 0)) = false by decide, cond_false, req_pos (by intro _; rfl)]
      rw [show (decide ((0 : Int) ≤ roundR x)) = true by simpa using r.1, show (decide (roundR x ≤ a.Max)) = true by simpa using r.2, show (decide (roundR x ≤ roundR y)) = true by simpa using xy, show (decide (roundR x ≤ roundR z)) = true by simpa using xz,
        show (decide (((gr a.Bounds (roundR y) : Nat) : Int) ≤ ((gr a.Bounds (roundR x) : Nat) : Int))) = true by simp; omega, show (decide (((gr a.Bounds (roundR z) : Nat) : Int) ≤ ((gr a.Bounds (roundR x) : Nat) : Int))) = true by simp; omega]
      rfl
    · have h2' : isT l = false := by simpa using h2
      rw [dl.2.1 h1' h2'] at hd
      obtain ⟨rfl, rfl, rfl, rfl⟩ : 1 = y9 ∧ 0 = y10 ∧ 0 = y11 ∧ 0 = y12 := by simpa using hd
      refine ⟨rfl, ?_⟩
      rw [dw.2.1 (by rw [hp]; exact h1') (by rw [ht]; exact h2'), ds.2.1 h1' h2', sane36]
      simp only [some_bind]
      rw [show (((((0 : Int) != 0) || ((0 : Int) != 0)) || ((1 : Int) != 1)) || ((1 : Int) != 1)) = false by decide, cond_false, req_pos (by intro _; rfl)]
      congr 1
theorem head36 (t : List Int) (ht : ¬ (t.length : Int) ≤ 600 → False) : ∃ y3 y4 a t2 l t3, mark_Dice_Next ⟨t, 0⟩ 4 = some (y3, y4) ∧ mark_Dice_Award y4 (IntKind.i64.wrap (1 + y3)) = some (a, t2) ∧ mark_Dice_Marks t2 a = some (l, t3) ∧ AOK a ∧ PairOK a.Units l ∧ (∀ u ∈ a.Units, u.Weight ≤ 60) ∧ 1 ≤ l.length ∧ l.length ≤ 4 ∧ a.Units.length = l.length := by
  have hlen : t.length ≤ 600 := by
    rcases Nat.lt_or_ge 600 t.length with h | h
    · exact absurd (by omega) ht
    · exact h
  have d0 : DOK ⟨t, 0⟩ := ⟨hlen, by show (0 : Int) ≤ 0; omega, by show (0 : Int) ≤ _; omega⟩
  obtain ⟨y3, y4, e1, h1, h2, h3⟩ := dNext ⟨t, 0⟩ 4 d0 (by omega)
  have h4 := h3 (by omega)
  obtain ⟨a, t2, e2, h5, ha, hn, hw⟩ := dAward y4 (1 + y3) h1 (by omega) (by omega)
  obtain ⟨l, t3, e3, h6, hp⟩ := dMarks t2 a h5 ha
  have hl := (terms_len hp).2
  have := ha.l0; have := ha.l1
  exact ⟨y3, y4, a, t2, l, t3, e1, by rw [wrap64 (by omega) (by omega)]; exact e2, e3, ha, hp, hw, by omega, by omega, hl⟩
theorem pure_AggregateRises (t : List Int) (n m : Int) (n0 : 0 ≤ n ∧ n < 256) (m0 : 0 ≤ m ∧ m < 256) : law36_AggregateRises t n m = some true := by
  unfold law36_AggregateRises
  rw [light36, some_bind]
  by_cases ht : (t.length : Int) ≤ 600
  · rw [show (!(decide ((t.length : Int) ≤ 600))) = false by simpa using ht, cond_false]
    show (some (mark_Dice.mk t 0)).bind _ = _
    rw [some_bind]
    obtain ⟨y3, y4, a, t2, l, t3, e1, e2, e3, ha, hp, hw, l0, l1, hul⟩ := head36 t (fun h => absurd ht h)
    rw [e1, some_bind]
    dsimp only
    rw [e2, some_bind]
    dsimp only
    rw [e3, some_bind]
    dsimp only
    obtain ⟨⟨y9, y10, y11, y12⟩, hd⟩ : ∃ r, aggregate_Decide a l 10 = some r := by
      have dl := Decide_eq a l 10 ha hp (by decide) (by decide)
      by_cases h1 : isP l = true
      · exact ⟨_, dl.1 h1⟩
      · have h1' : isP l = false := by simpa using h1
        by_cases h2 : isT l = true
        · obtain ⟨x, _, ex⟩ := dl.2.2 h1' h2; exact ⟨_, ex⟩
        · exact ⟨_, dl.2.1 h1' (by simpa using h2)⟩
    rw [hd, some_bind]
    dsimp only
    have hy12 := (tail_rises m m0.1 m0.2 a ha l l hp hp rfl (Int.le_refl _) (fun _ => rfl) y9 y10 y11 y12 hd).1
    subst hy12
    rw [show ((0 : Int) != 0) = false by decide, cond_false, req_pos (by omega), req_pos (by omega)]
    rw [wrap64 (n := n) (by omega) (by omega), Int.tmod_eq_emod_of_nonneg n0.1]
    have k0 := Int.emod_nonneg n (show (l.length : Int) ≠ 0 by omega)
    have k1 := Int.emod_lt_of_pos n (show (0 : Int) < (l.length : Int) by omega)
    generalize hkk : n % (l.length : Int) = kk at k0 k1
    obtain ⟨k, rfl⟩ : ∃ k : Nat, kk = (k : Int) := ⟨kk.toNat, by omega⟩
    have hk : k < l.length := by omega
    have hku : k < a.Units.length := by omega
    rw [req_pos (by omega), ix_nat l k hk, ix_nat a.Units k hku]
    obtain ⟨hu, hm, _⟩ := pair_at hp k hku hk
    by_cases hkind : l[k].Kind = 0
    · rw [show (l[k].Kind == 0) = true by simpa using hkind, cond_true, req_pos (by omega), CeilR_eq, if_pos hm.v, some_bind]
      have hmx : 10 ≤ a.Units[k].Max ∧ a.Units[k].Max ≤ 100 := by rcases hu.mx with h | h | h | h <;> omega
      obtain ⟨c1, c2⟩ := ceil_le hm.v
      have c3 := c2 hm.n0
      have hle := hm.le
      have hn200 : l[k].Value.Num ≤ 200 := by rcases hm.den with h | h <;> rw [h] at hle <;> omega
      have c4 := ceil_hi hm.v (by omega) hm.n0
      rw [Int.tmod_eq_emod_of_nonneg m0.1, wrap64 (n := m % 5) (by omega) (by omega), wrap64 (n := ceilR l[k].Value + m % 5) (by omega) (by omega)]
      have hvv : ∃ v, imin a.Units[k].Max (ceilR l[k].Value + m % 5) = v ∧ 0 ≤ v ∧ v ≤ a.Units[k].Max ∧ l[k].Value.Num ≤ v * l[k].Value.Den := by
        refine ⟨_, rfl, ?_⟩
        have hd : 1 ≤ l[k].Value.Den := by rcases hm.den with h | h <;> omega
        unfold imin
        split
        · rename_i hlt
          refine ⟨by omega, by omega, ?_⟩
          have := Int.mul_le_mul_of_nonneg_right (show ceilR l[k].Value ≤ ceilR l[k].Value + m % 5 by omega) (show 0 ≤ l[k].Value.Den by omega)
          omega
        · exact ⟨by omega, by omega, hle⟩
      obtain ⟨v, ev, v0, v1, v2⟩ := hvv
      rw [ev, whole_eq, some_bind, req_pos (by omega)]
      unfold bindV
      have hm' : MOK a.Units[k] ⟨l[k].Kind, ⟨v, 1⟩⟩ := ⟨hm.k0, hm.k1, v_whole v v0 (by omega), v0, .inl rfl, by show v ≤ a.Units[k].Max * 1; omega, fun h => absurd hkind h⟩
      obtain ⟨s1, s2, s3, s4⟩ := set_ok k _ hp hku hk hm' rfl (tOf_le hu hm v v2 v0)
      have hset : setI l (k : Int) ⟨l[k].Kind, ⟨v, 1⟩⟩ = l.set k ⟨l[k].Kind, ⟨v, 1⟩⟩ := by unfold setI; rw [Int.toNat_natCast]
      rw [hset]
      exact (tail_rises m m0.1 m0.2 a ha l _ hp s1 s2 s3 s4 y9 y10 y11 0 hd).2
    · rw [show (l[k].Kind == 0) = false by simpa using hkind, cond_false]
      exact (tail_rises m m0.1 m0.2 a ha l l hp hp rfl (Int.le_refl _) (fun _ => rfl) y9 y10 y11 0 hd).2
  · rw [show (!(decide ((t.length : Int) ≤ 600))) = true by simpa using ht, cond_true, sane36]
    rfl
/-! ### AggregateOrder -/
theorem loop36d (a : api_Award) (l : List api_UnitMark) (hu : a.Units.length = l.length) (hl : l.length ≤ 6) : ∀ (j : Nat) (hj : j ≤ l.length), iter (law36_AggregateOrder_l4 a l) ((j : Int) - 1, (l.drop j).reverse, named 0 (a.Units.drop j).reverse) = some (l.reverse, named 0 a.Units.reverse)
  | 0, _ => by
    refine iter_inr ?_
    simp [law36_AggregateOrder_l4]
  | j + 1, hj => by
    have hjl : j < l.length := by omega
    have hju : j < a.Units.length := by omega
    have e1 : l.drop j = l[j] :: l.drop (j + 1) := List.drop_eq_getElem_cons hjl
    have e2 : a.Units.drop j = a.Units[j] :: a.Units.drop (j + 1) := List.drop_eq_getElem_cons hju
    have hlen : (named 0 (a.Units.drop (j + 1)).reverse).length = a.Units.length - (j + 1) := by rw [named_len]; simp
    have hf : law36_AggregateOrder_l4 a l (((j + 1 : Nat) : Int) - 1, (l.drop (j + 1)).reverse, named 0 (a.Units.drop (j + 1)).reverse) = some (.inl ((j : Int) - 1, (l.drop j).reverse, named 0 (a.Units.drop j).reverse)) := by
      rw [show ((j + 1 : Nat) : Int) - 1 = (j : Int) by omega]
      simp only [law36_AggregateOrder_l4, hlen]
      rw [show decide ((0 : Int) ≤ (j : Int)) = true by simp, cond_true, req_pos (by omega), ix_nat l j hjl, ix_nat a.Units j hju]
      rw [req_pos (by simp only [List.length_cons, List.length_nil, List.length_reverse, List.length_drop]; omega)]
      unfold bindV
      rw [wrap64 (n := (j : Int) - 1) (by omega) (by omega), wrap64 (n := 10 + ((a.Units.length - (j + 1) : Nat) : Int)) (by omega) (by omega)]
      rw [e1, e2, List.reverse_cons, List.reverse_cons, named_append]
      simp
    rw [iter_inl hf]
    exact loop36d a l hu hl j (by omega)
theorem loop36b (k c : Int) (a : api_Award) (hl : a.Units.length ≤ 6) (hc : IntKind.i64.wrap (1 + IntKind.i64.wrap (Int.tmod k 10)) = c) (c0 : 1 ≤ c) (c1 : c ≤ 10) (hw : ∀ u ∈ a.Units, 1 ≤ u.Weight ∧ u.Weight ≤ 60) : ∀ (n j : Nat), a.Units.length - j = n → j ≤ a.Units.length →
    iter (law36_AggregateOrder_l2 k a) ((j : Int), scaledU c (a.Units.take j)) = some (scaledU c a.Units)
  | 0, j, hn, hj => by
    have : j = a.Units.length := by omega
    subst this
    refine iter_inr ?_
    simp [law36_AggregateOrder_l2]
  | n + 1, j, hn, hj => by
    have hj' : j < a.Units.length := by omega
    have hf : law36_AggregateOrder_l2 k a ((j : Int), scaledU c (a.Units.take j)) = some (.inl (((j + 1 : Nat) : Int), scaledU c (a.Units.take (j + 1)))) := by
      simp only [law36_AggregateOrder_l2]
      rw [show decide ((j : Int) < (a.Units.length : Int)) = true by simp; exact hj', cond_true, req_pos (by omega), ix_nat a.Units j hj']
      unfold bindV
      obtain ⟨w0, w1⟩ := hw _ (List.getElem_mem hj')
      have p1 : 1 * 1 ≤ a.Units[j].Weight * c := Int.mul_le_mul w0 c0 (by decide) (by omega)
      have p2 : a.Units[j].Weight * c ≤ 60 * 10 := Int.mul_le_mul w1 c1 (by omega) (by decide)
      rw [hc, wrap64 (n := a.Units[j].Weight * c) (by omega) (by omega)]
      dsimp only
      rw [req_pos (by simp [scaledU]; omega), i64_add1 j (by omega), List.take_succ_eq_append_getElem hj']
      unfold scaledU
      rw [List.map_append]
      rfl
    rw [iter_inl hf]
    exact loop36b k c a hl hc c0 c1 hw n (j + 1) (by omega) (by omega)
theorem pure_AggregateOrder (t : List Int) (k : Int) (hk : 0 ≤ k ∧ k < 256) : law36_AggregateOrder t k = some true := by
  unfold law36_AggregateOrder
  rw [light36, some_bind]
  by_cases ht : (t.length : Int) ≤ 600
  · rw [show (!(decide ((t.length : Int) ≤ 600))) = false by simpa using ht, cond_false]
    show (some (mark_Dice.mk t 0)).bind _ = _
    rw [some_bind]
    obtain ⟨y3, y4, a, t2, l, t3, e1, e2, e3, ha, hp, hw, l0, l1, hul⟩ := head36 t (fun h => absurd ht h)
    rw [e1, some_bind]
    dsimp only
    rw [e2, some_bind]
    dsimp only
    rw [e3, some_bind]
    dsimp only
    have h4 := loop36d a l hul (by omega) l.length (Nat.le_refl _)
    rw [List.drop_length, ← hul, List.drop_length, hul] at h4
    rw [wrap64 (n := (l.length : Int) - 1) (by omega) (by omega)]
    have h4' : iter (law36_AggregateOrder_l4 a l) ((l.length : Int) - 1, ([] : List api_UnitMark), ([] : List api_Unit)) = some (l.reverse, named 0 a.Units.reverse) := h4
    rw [h4', some_bind]
    dsimp only
    unfold law36_AggregateOrder_j3
    have hc : IntKind.i64.wrap (1 + IntKind.i64.wrap (Int.tmod k 10)) = 1 + k % 10 := by
      rw [Int.tmod_eq_emod_of_nonneg hk.1, wrap64 (n := k % 10) (by omega) (by omega), wrap64 (by omega) (by omega)]
    have hw' : ∀ u ∈ a.Units, 1 ≤ u.Weight ∧ u.Weight ≤ 60 := fun u hu => ⟨(ha.u u hu).1.w0, hw u hu⟩
    have h2 := loop36b k (1 + k % 10) a (by omega) hc (by omega) (by omega) hw' a.Units.length 0 (by omega) (by omega)
    have h2' : iter (law36_AggregateOrder_l2 k a) ((0 : Int), ([] : List api_Unit)) = some (scaledU (1 + k % 10) a.Units) := h2
    rw [h2', some_bind]
    unfold law36_AggregateOrder_j1
    -- the three awards
    obtain ⟨n1, n2, n3⟩ := named_ok 0 (PairOK.rev hp)
    obtain ⟨r1, r2⟩ := SS_rev hp
    obtain ⟨s1, s2, s3⟩ := scaled_ok (1 + k % 10) (by omega) (by omega) hp hw
    have hb : AOK ⟨named 0 a.Units.reverse, a.Bounds, a.Max⟩ := by
      refine ⟨by show 1 ≤ (named 0 a.Units.reverse).length; rw [named_len]; simp; omega, by show (named 0 a.Units.reverse).length ≤ 4; rw [named_len]; simp; omega, ?_, ?_, ha.m0, ha.m1, ha.b⟩
      · intro u hu
        obtain ⟨⟨v, hv, q1, q2⟩, q3, q4⟩ := named_mem 0 _ u hu
        have := (ha.u v (by simpa using hv)).1
        simp only [List.length_reverse] at q4
        exact ⟨this.of q1 q2, by omega, by omega⟩
      · intro i hi
        have hi' : i + 1 < (named 0 a.Units.reverse).length := hi
        show (named 0 a.Units.reverse)[i].Paper < (named 0 a.Units.reverse)[i + 1].Paper
        rw [named_at, named_at]; omega
    have hs : AOK ⟨scaledU (1 + k % 10) a.Units, a.Bounds, a.Max⟩ := by
      refine ⟨by show 1 ≤ (scaledU (1 + k % 10) a.Units).length; simp [scaledU]; omega, by show (scaledU (1 + k % 10) a.Units).length ≤ 4; simp [scaledU]; omega, ?_, ?_, ha.m0, ha.m1, ha.b⟩
      · intro u hu
        obtain ⟨v, hv, rfl⟩ := List.mem_map.1 hu
        obtain ⟨q1, q2, q3⟩ := ha.u v hv
        obtain ⟨w0, w1⟩ := hw' v hv
        have p1 : 1 * 1 ≤ v.Weight * (1 + k % 10) := Int.mul_le_mul w0 (by omega) (by decide) (by omega)
        have p2 : v.Weight * (1 + k % 10) ≤ 60 * 10 := Int.mul_le_mul w1 (by omega) (by omega) (by decide)
        exact ⟨⟨by show 1 ≤ v.Weight * (1 + k % 10); omega, by show v.Weight * (1 + k % 10) ≤ 600; omega, q1.mx⟩, q2, q3⟩
      · intro i hi
        have hi' : i + 1 < a.Units.length := by simpa [scaledU] using hi
        have := ha.up i hi'
        simpa [scaledU] using this
    have x1 := Exact_eq a l 20 ha hp (by decide) (by decide)
    have x2 := Exact_eq ⟨named 0 a.Units.reverse, a.Bounds, a.Max⟩ l.reverse 20 hb n1 (by decide) (by decide)
    have x3 := Exact_eq ⟨scaledU (1 + k % 10) a.Units, a.Bounds, a.Max⟩ l 20 hs s1 (by decide) (by decide)
    have hp2 : isP l.reverse = isP l := by unfold isP; rw [List.any_reverse]
    have hc2 : isC l.reverse = isC l := by unfold isC; rw [List.any_reverse]
    rw [sane36]
    by_cases hP : isP l = true
    · rw [x1.1 hP, x2.1 (by rw [hp2]; exact hP), x3.1 hP]
      simp only [some_bind]
      rw [req_pos (by intro _; rfl)]
      rfl
    · have hP' : isP l = false := by simpa using hP
      by_cases hC : isC l = true
      · obtain ⟨u, eu, tu⟩ := x1.2.2 hP' hC
        obtain ⟨v, ev, tv⟩ := x2.2.2 (by rw [hp2]; exact hP') (by rw [hc2]; exact hC)
        obtain ⟨w, ew, tw⟩ := x3.2.2 hP' hC
        have huv : u = v := by
          refine tu.same tv rfl ?_
          unfold PP QQ
          show _ * (600 * wOf (named 0 a.Units.reverse) l.reverse * 1000) = (SS (named 0 a.Units.reverse) l.reverse * a.Max * 1000 + 20 * a.Max * (600 * wOf (named 0 a.Units.reverse) l.reverse)) * _
          rw [n2, n3, r1, r2]
        have huw : u = w := by
          refine tu.same tw rfl ?_
          unfold PP QQ
          show _ * (600 * wOf (scaledU (1 + k % 10) a.Units) l * 1000) = (SS (scaledU (1 + k % 10) a.Units) l * a.Max * 1000 + 20 * a.Max * (600 * wOf (scaledU (1 + k % 10) a.Units) l)) * _
          rw [s2, s3]
          generalize SS a.Units l = S
          generalize wOf a.Units l = W
          generalize (1 + k % 10) = c
          generalize a.Max = M
          grind
        subst huv
        subst huw
        rw [eu, ev, ew]
        simp only [some_bind, beq_self_eq_true, Bool.and_self, Bool.true_and]
        rw [req_pos (by intro _; rfl)]
        rfl
      · have hC' : isC l = false := by simpa using hC
        rw [x1.2.1 hP' hC', x2.2.1 (by rw [hp2]; exact hP') (by rw [hc2]; exact hC'), x3.2.1 hP' hC']
        simp only [some_bind]
        rw [req_pos (by intro _; rfl)]
        rfl
  · rw [show (!(decide ((t.length : Int) ≤ 600))) = true by simpa using ht, cond_true, sane36]
    rfl
end Go.LS
