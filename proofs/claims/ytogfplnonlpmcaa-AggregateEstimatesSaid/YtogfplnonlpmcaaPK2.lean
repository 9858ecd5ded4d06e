/-
  Law 36: AggregateOrder and AggregateRises, in plain functions.
  Conditions: the numbers that a byte has.
-/
import Derived.Test.YtogfplnonlpmcaaPK1
namespace Go.LS
set_option linter.all false
set_option linter.unusedSimpArgs false
set_option linter.unusedVariables false
set_option maxRecDepth 20000

/-! ### rounding -/
theorem round_b {x : api_Ratio} (h : vR x = true) : (2 * roundR x - 1) * x.Den ≤ 2 * x.Num ∧ 2 * x.Num < (2 * roundR x + 1) * x.Den := by
  have v := vd_of h
  have r := v.rs
  have e := v.eq
  have d0 := v.d0
  unfold roundR up
  have e2 : x.Den * flR x = flR x * x.Den := Int.mul_comm _ _
  by_cases hc : x.Den ≤ 2 * rsR x
  · rw [if_pos (by simpa using hc)]
    have e3 : (2 * (flR x + 1) - 1) * x.Den = 2 * (flR x * x.Den) + x.Den := by grind
    have e4 : (2 * (flR x + 1) + 1) * x.Den = 2 * (flR x * x.Den) + 3 * x.Den := by grind
    rw [e3, e4]; omega
  · rw [if_neg (by simpa using hc)]
    have e3 : (2 * (flR x + 0) - 1) * x.Den = 2 * (flR x * x.Den) - x.Den := by grind
    have e4 : (2 * (flR x + 0) + 1) * x.Den = 2 * (flR x * x.Den) + x.Den := by grind
    rw [e3, e4]; omega
theorem round_mono {x y : api_Ratio} (hx : vR x = true) (hy : vR y = true) (h : x.Num * y.Den ≤ y.Num * x.Den) : roundR x ≤ roundR y := by
  have bx := (round_b hx).1
  have by' := (round_b hy).2
  have dx : 0 < x.Den := by have := (vd_of hx).d0; omega
  have dy : 0 < y.Den := by have := (vd_of hy).d0; omega
  have h1 := Int.mul_le_mul_of_nonneg_right bx (show 0 ≤ y.Den by omega)
  have h2 := Int.mul_lt_mul_of_pos_right by' dx
  have h3 : (2 * roundR x - 1) * (x.Den * y.Den) < (2 * roundR y + 1) * (x.Den * y.Den) := by
    have e1 : (2 * roundR x - 1) * (x.Den * y.Den) = (2 * roundR x - 1) * x.Den * y.Den := by grind
    have e2 : (2 * roundR y + 1) * (x.Den * y.Den) = (2 * roundR y + 1) * y.Den * x.Den := by grind
    have e3 : 2 * x.Num * y.Den = 2 * (x.Num * y.Den) := by grind
    have e4 : 2 * y.Num * x.Den = 2 * (y.Num * x.Den) := by grind
    rw [e1, e2]; omega
  have := Int.lt_of_mul_lt_mul_right h3 (Int.le_of_lt (Int.mul_pos dx dy))
  omega
theorem round_one (n : Int) : roundR ⟨n, 1⟩ = n := by
  simp only [roundR, flR, rsR, up]
  simp
theorem TOf.le {a b : api_Award} {l m : List api_UnitMark} {s s' : Int} {x y : api_Ratio} (hx : TOf a l s x) (hy : TOf b m s' y) (hM : a.Max = b.Max) (he : PP a l s * QQ b m ≤ PP b m s' * QQ a l) : x.Num * y.Den ≤ y.Num * x.Den := by
  have q1 := hx.q; have q2 := hy.q
  have dx : 0 < x.Den := by have := (vd_of hx.v).d0; omega
  have dy : 0 < y.Den := by have := (vd_of hy.v).d0; omega
  by_cases h : b.Max * QQ b m < PP b m s'
  · rw [hy.hi h]
    show x.Num * 1 ≤ b.Max * x.Den
    by_cases h' : a.Max * QQ a l < PP a l s
    · rw [hx.hi h', hM]; show b.Max * 1 ≤ b.Max * 1; omega
    · have e1 := hx.lo h'
      refine Int.le_of_mul_le_mul_right (a := QQ a l) ?_ q1
      rw [Int.mul_one, e1]
      have h2 := Int.mul_le_mul_of_nonneg_right (show PP a l s ≤ a.Max * QQ a l by omega) (show 0 ≤ x.Den by omega)
      rw [hM] at h2
      have e : b.Max * x.Den * QQ a l = b.Max * QQ a l * x.Den := by grind
      rw [e]; exact h2
  · have h' : ¬ a.Max * QQ a l < PP a l s := by
      intro h2
      have h3 := Int.mul_lt_mul_of_pos_right h2 q2
      have h4 := Int.mul_le_mul_of_nonneg_right (show PP b m s' ≤ b.Max * QQ b m by omega) (show 0 ≤ QQ a l by omega)
      have e : a.Max * QQ a l * QQ b m = b.Max * QQ b m * QQ a l := by rw [hM]; grind
      omega
    have e1 := hx.lo h'
    have e2 := hy.lo h
    have qq := Int.mul_pos q1 q2
    refine Int.le_of_mul_le_mul_right (a := QQ a l * QQ b m) ?_ qq
    have e3 : x.Num * y.Den * (QQ a l * QQ b m) = (PP a l s * QQ b m) * (x.Den * y.Den) := by
      have : x.Num * y.Den * (QQ a l * QQ b m) = (x.Num * QQ a l) * y.Den * QQ b m := by grind
      rw [this, e1]; grind
    have e4 : y.Num * x.Den * (QQ a l * QQ b m) = (PP b m s' * QQ a l) * (x.Den * y.Den) := by
      have : y.Num * x.Den * (QQ a l * QQ b m) = (y.Num * QQ b m) * x.Den * QQ a l := by grind
      rw [this, e2]; grind
    rw [e3, e4]
    exact Int.mul_le_mul_of_nonneg_right he (Int.le_of_lt (Int.mul_pos dx dy))
theorem SS_nn : ∀ {us : List api_Unit} {ms : List api_UnitMark}, PairOK us ms → 0 ≤ SS us ms
  | [], [], _ => by simp [SS, tsOf, sumL]
  | u :: us, m :: ms, h => by
    have ih := SS_nn h.2.2
    unfold SS at ih ⊢
    simp only [tsOf]
    split
    · simp only [sumL]
      have : 0 ≤ tOf u m := by
        unfold tOf
        refine Int.mul_nonneg (Int.mul_nonneg h.2.1.n0 (by have := h.1.w0; omega)) ?_
        refine Int.ediv_nonneg (by decide) (Int.mul_nonneg ?_ ?_)
        · rcases h.2.1.den with h | h <;> omega
        · rcases h.1.mx with h | h | h | h <;> omega
      omega
    · exact ih
theorem PP_nn {a : api_Award} {l : List api_UnitMark} {s : Int} (ha : AOK a) (h : PairOK a.Units l) (s0 : 0 ≤ s) : 0 ≤ PP a l s := by
  have m0 := ha.m0
  obtain ⟨b1, _, _⟩ := wOf_b h
  have h1 := Int.mul_nonneg (SS_nn h) (show 0 ≤ a.Max by omega)
  have h2 := Int.mul_nonneg (Int.mul_nonneg s0 (show 0 ≤ a.Max by omega)) (show 0 ≤ 600 * wOf a.Units l by omega)
  unfold PP
  omega
theorem TOf.range {a : api_Award} {l : List api_UnitMark} {s : Int} {x : api_Ratio} (hx : TOf a l s x) (ha : AOK a) (h : PairOK a.Units l) (s0 : 0 ≤ s) : 0 ≤ roundR x ∧ roundR x ≤ a.Max := by
  have q := hx.q
  have m0 := ha.m0; have m1 := ha.m1
  have dx : 0 < x.Den := by have := (vd_of hx.v).d0; omega
  have pn := PP_nn (s := s) ha h s0
  have hn : 0 ≤ x.Num ∧ x.Num ≤ a.Max * x.Den := by
    by_cases h' : a.Max * QQ a l < PP a l s
    · rw [hx.hi h']; show 0 ≤ a.Max ∧ a.Max ≤ a.Max * 1; omega
    · have e1 := hx.lo h'
      constructor
      · refine Int.le_of_mul_le_mul_right (a := QQ a l) ?_ q
        rw [e1, Int.zero_mul]
        exact Int.mul_nonneg pn (by omega)
      · refine Int.le_of_mul_le_mul_right (a := QQ a l) ?_ q
        rw [e1]
        have h2 := Int.mul_le_mul_of_nonneg_right (show PP a l s ≤ a.Max * QQ a l by omega) (show 0 ≤ x.Den by omega)
        have e : a.Max * x.Den * QQ a l = a.Max * QQ a l * x.Den := by grind
        rw [e]; exact h2
  constructor
  · have := round_mono (x := ⟨0, 1⟩) (v_whole 0 (by decide) (by decide)) hx.v (by show 0 * x.Den ≤ x.Num * 1; omega)
    rw [round_one] at this; exact this
  · have := round_mono (y := ⟨a.Max, 1⟩) hx.v (v_whole a.Max (by omega) (by omega)) (by show x.Num * 1 ≤ a.Max * x.Den; omega)
    rw [round_one] at this; exact this
def isT (l : List api_UnitMark) : Bool := l.any fun m => m.Kind == 0
theorem isC_of {l : List api_UnitMark} (h : isT l = true) : isC l = true := by
  unfold isC isT at *
  rw [← any_counts, h, Bool.true_or]
theorem Total_eq (a : api_Award) (l : List api_UnitMark) (s : Int) (ha : AOK a) (h : PairOK a.Units l) (s0 : 0 ≤ s) (s1 : s ≤ 50) (hp : isP l = false) (hc : isC l = true) : ∃ x, aggregate_Total a l s = some (roundR x, 0) ∧ TOf a l s x := by
  obtain ⟨x, e, t⟩ := (Exact_eq a l s ha h s0 s1).2.2 hp hc
  refine ⟨x, ?_, t⟩
  unfold aggregate_Total
  rw [e, some_bind]
  dsimp only
  rw [show ((0 : Int) != 0) = false by decide, cond_false, Round_eq, if_pos t.v, some_bind]
theorem Decide_eq (a : api_Award) (l : List api_UnitMark) (s : Int) (ha : AOK a) (h : PairOK a.Units l) (s0 : 0 ≤ s) (s1 : s ≤ 50) :
    (isP l = true → aggregate_Decide a l s = some (2, 0, 0, 0)) ∧ (isP l = false → isT l = false → aggregate_Decide a l s = some (1, 0, 0, 0)) ∧
    (isP l = false → isT l = true → ∃ x, TOf a l s x ∧ aggregate_Decide a l s = some (0, (gr a.Bounds (roundR x) : Int), roundR x, 0)) := by
  have hul := (terms_len h).2
  have l1 := ha.l1
  unfold aggregate_Decide
  rw [checkMarks_eq a l s ha h s0 s1, some_bind, show ((0 : Int) != 0) = false by decide, cond_false]
  simp only [has_loop l _ (show l.length ≤ 1000 by omega), some_bind]
  refine ⟨fun hp => ?_, fun hp hc => ?_, fun hp hc => ?_⟩
  · unfold isP at hp; rw [hp]; rfl
  · unfold isP at hp; unfold isT at hc; rw [hp, hc]; rfl
  · obtain ⟨x, e, t⟩ := Total_eq a l s ha h s0 s1 hp (isC_of hc)
    refine ⟨x, t, ?_⟩
    unfold isP at hp; unfold isT at hc
    rw [hp, hc, e]
    simp only [Bool.not_true, cond_false, some_bind]
    rw [show ((0 : Int) != 0) = false by decide, cond_false, Grade_eq _ _ (by have := ha.b.hi; omega), some_bind]
/-! ### lists -/
theorem PairOK.append : ∀ {us vs : List api_Unit} {ms ns : List api_UnitMark}, PairOK us ms → PairOK vs ns → PairOK (us ++ vs) (ms ++ ns)
  | [], vs, [], ns, _, h => h
  | u :: us, vs, m :: ms, ns, h, h2 => ⟨h.1, h.2.1, PairOK.append h.2.2 h2⟩
theorem PairOK.one {u : api_Unit} {m : api_UnitMark} (h1 : UOK u) (h2 : MOK u m) : PairOK [u] [m] := ⟨h1, h2, trivial⟩
theorem PairOK.rev : ∀ {us : List api_Unit} {ms : List api_UnitMark}, PairOK us ms → PairOK us.reverse ms.reverse
  | [], [], _ => trivial
  | u :: us, m :: ms, h => by
    rw [List.reverse_cons, List.reverse_cons]
    exact PairOK.append (PairOK.rev h.2.2) (PairOK.one h.1 h.2.1)
theorem SS_cons (u : api_Unit) (us : List api_Unit) (m : api_UnitMark) (ms : List api_UnitMark) : SS (u :: us) (m :: ms) = (if counts m = true then tOf u m else 0) + SS us ms := by
  unfold SS
  simp only [tsOf]
  split <;> simp [sumL]
theorem wOf_cons (u : api_Unit) (us : List api_Unit) (m : api_UnitMark) (ms : List api_UnitMark) : wOf (u :: us) (m :: ms) = (if counts m = true then u.Weight else 0) + wOf us ms := by
  simp only [wOf]
  split <;> simp
theorem SS_append : ∀ {us : List api_Unit} {ms : List api_UnitMark} (vs : List api_Unit) (ns : List api_UnitMark), us.length = ms.length → SS (us ++ vs) (ms ++ ns) = SS us ms + SS vs ns ∧ wOf (us ++ vs) (ms ++ ns) = wOf us ms + wOf vs ns
  | [], [], _, _, _ => by simp [SS, tsOf, sumL, wOf]
  | u :: us, m :: ms, vs, ns, h => by
    obtain ⟨h1, h2⟩ := SS_append (us := us) (ms := ms) vs ns (by simpa using h)
    simp only [List.cons_append, SS_cons, wOf_cons, h1, h2]
    omega
  | [], m :: ms, _, _, h => by simp at h
  | u :: us, [], _, _, h => by simp at h
theorem SS_rev : ∀ {us : List api_Unit} {ms : List api_UnitMark}, PairOK us ms → SS us.reverse ms.reverse = SS us ms ∧ wOf us.reverse ms.reverse = wOf us ms
  | [], [], _ => ⟨rfl, rfl⟩
  | u :: us, m :: ms, h => by
    obtain ⟨h1, h2⟩ := SS_rev h.2.2
    have hl := (terms_len h.2.2).2
    rw [List.reverse_cons, List.reverse_cons, (SS_append [u] [m] (by simp [hl])).1, (SS_append [u] [m] (by simp [hl])).2, h1, h2, SS_cons, wOf_cons, SS_cons, wOf_cons]
    simp only [SS, tsOf, sumL, wOf]
    omega
def named : Nat → List api_Unit → List api_Unit
  | _, [] => []
  | k, u :: us => ⟨10 + (k : Int), u.Weight, u.Max⟩ :: named (k + 1) us
theorem named_len : ∀ (k : Nat) (us : List api_Unit), (named k us).length = us.length
  | _, [] => rfl
  | k, u :: us => by simp [named, named_len (k + 1) us]
theorem named_append : ∀ (k : Nat) (us : List api_Unit) (u : api_Unit), named k (us ++ [u]) = named k us ++ [⟨10 + ((k + us.length : Nat) : Int), u.Weight, u.Max⟩]
  | k, [], u => by simp [named]
  | k, v :: us, u => by
    simp only [List.cons_append, named]
    rw [named_append (k + 1) us u, List.length_cons, show k + 1 + us.length = k + (us.length + 1) by omega]
theorem named_at : ∀ (k : Nat) (us : List api_Unit) (j : Nat) (h : j < (named k us).length), (named k us)[j].Paper = 10 + ((k + j : Nat) : Int)
  | k, u :: us, 0, _ => by simp [named]
  | k, u :: us, j + 1, h => by
    simp only [named, List.getElem_cons_succ]
    rw [named_at (k + 1) us j (by simpa [named] using h)]
    omega
theorem named_mem : ∀ (k : Nat) (us : List api_Unit) (v : api_Unit), v ∈ named k us → (∃ u ∈ us, v.Weight = u.Weight ∧ v.Max = u.Max) ∧ 10 + (k : Int) ≤ v.Paper ∧ v.Paper < 10 + ((k + us.length : Nat) : Int)
  | k, u :: us, v, h => by
    rcases List.mem_cons.1 h with rfl | h
    · refine ⟨⟨u, by simp, rfl, rfl⟩, ?_, ?_⟩
      · show 10 + (k : Int) ≤ 10 + (k : Int); omega
      · show 10 + (k : Int) < _; simp only [List.length_cons]; omega
    · obtain ⟨⟨u', h1, h2⟩, h3, h4⟩ := named_mem (k + 1) us v h
      refine ⟨⟨u', by simp [h1], h2⟩, by omega, ?_⟩
      simp only [List.length_cons]; omega
theorem UOK.of {u v : api_Unit} (h : UOK u) (h1 : v.Weight = u.Weight) (h2 : v.Max = u.Max) : UOK v := ⟨by rw [h1]; exact h.w0, by rw [h1]; exact h.w1, by rw [h2]; exact h.mx⟩
theorem MOK.of {u v : api_Unit} {m : api_UnitMark} (h : MOK u m) (h2 : v.Max = u.Max) : MOK v m := ⟨h.k0, h.k1, h.v, h.n0, h.den, by rw [h2]; exact h.le, h.z⟩
theorem named_ok : ∀ (k : Nat) {us : List api_Unit} {ms : List api_UnitMark}, PairOK us ms → PairOK (named k us) ms ∧ SS (named k us) ms = SS us ms ∧ wOf (named k us) ms = wOf us ms
  | _, [], [], _ => ⟨trivial, rfl, rfl⟩
  | k, u :: us, m :: ms, h => by
    obtain ⟨h1, h2, h3⟩ := named_ok (k + 1) h.2.2
    refine ⟨⟨h.1.of rfl rfl, h.2.1.of rfl, h1⟩, ?_, ?_⟩
    · simp only [named, SS_cons, h2]; rfl
    · simp only [named, wOf_cons, h3]
def scaledU (c : Int) (us : List api_Unit) : List api_Unit := us.map fun u => ⟨u.Paper, u.Weight * c, u.Max⟩
theorem scaled_ok (c : Int) (c0 : 1 ≤ c) (c1 : c ≤ 10) : ∀ {us : List api_Unit} {ms : List api_UnitMark}, PairOK us ms → (∀ u ∈ us, u.Weight ≤ 60) → PairOK (scaledU c us) ms ∧ SS (scaledU c us) ms = SS us ms * c ∧ wOf (scaledU c us) ms = wOf us ms * c
  | [], [], _, _ => ⟨trivial, by simp [scaledU, SS, tsOf, sumL], by simp [scaledU, wOf]⟩
  | u :: us, m :: ms, h, hw => by
    obtain ⟨h1, h2, h3⟩ := scaled_ok c c0 c1 h.2.2 (fun v hv => hw v (by simp [hv]))
    have w0 := h.1.w0
    have w1 := hw u (by simp)
    have p1 : 1 * 1 ≤ u.Weight * c := Int.mul_le_mul w0 c0 (by decide) (by omega)
    have p2 : u.Weight * c ≤ 60 * 10 := Int.mul_le_mul w1 c1 (by omega) (by decide)
    unfold scaledU at *
    refine ⟨⟨⟨by show 1 ≤ u.Weight * c; omega, by show u.Weight * c ≤ 600; omega, h.1.mx⟩, h.2.1.of rfl, h1⟩, ?_, ?_⟩
    · simp only [List.map_cons, SS_cons, h2]
      split
      · simp only [tOf]; grind
      · grind
    · simp only [List.map_cons, wOf_cons, h3]
      split
      · grind
      · grind
/-! ### dice -/
theorem dAward (d : mark_Dice) (n : Int) (h : DOK d) (n0 : 1 ≤ n) (n1 : n ≤ 4) : ∃ a t', mark_Dice_Award d n = some (a, t') ∧ DOK t' ∧ AOK a ∧ (a.Units.length : Int) = n ∧ (∀ u ∈ a.Units, u.Weight ≤ 60) := by
  unfold mark_Dice_Award
  obtain ⟨y, t1, e1, h1, hy⟩ := dPick d [100, 20, 60] h (by simp) (by simp)
  have hy' : 1 ≤ y ∧ y ≤ 200 := by simp at hy; omega
  rw [e1, some_bind]
  dsimp only
  obtain ⟨⟨L, A, w⟩, e2, g1, g2, g3⟩ := iter_inv (f := mark_Dice_Award_l2 n) (fun s => 0 ≤ s.1 ∧ s.1 ≤ n ∧ (s.2.2.2.length : Int) = s.1 ∧ DOK ⟨s.2.1, s.2.2.1⟩ ∧ (∀ j (hj : j < s.2.2.2.length), s.2.2.2[j].Paper = (j : Int) ∧ UOK s.2.2.2[j] ∧ s.2.2.2[j].Weight ≤ 60)) (fun s => (n - s.1).toNat)
    (fun r => DOK ⟨r.1, r.2.1⟩ ∧ (r.2.2.length : Int) = n ∧ (∀ j (hj : j < r.2.2.length), r.2.2[j].Paper = (j : Int) ∧ UOK r.2.2[j] ∧ r.2.2[j].Weight ≤ 60)) (by
      rintro ⟨i, L, A, w⟩ ⟨k1, k2, k3, k4, k5⟩
      simp only at k1 k2 k3 k4 k5
      simp only [mark_Dice_Award_l2]
      rcases bcases (decide (i < n)) with hc | hc <;> rw [hc]
      · left
        have hi : i < n := by simpa using hc
        obtain ⟨a, ta, ea, ha, a1⟩ := dPick ⟨L, A⟩ [1, 2, 60, 40] k4 (by simp) (by simp)
        obtain ⟨b, tb, eb, hb, b1⟩ := dPick ta [10, 12, 50] ha (by simp) (by simp)
        rw [cond_true, ea, some_bind]
        dsimp only
        rw [eb, some_bind]
        dsimp only
        rw [req_pos (by simp; omega), wrap64 (n := i + 1) (by omega) (by omega)]
        have hu : UOK ⟨i, a, b⟩ ∧ a ≤ 60 := by
          simp at a1 b1
          refine ⟨⟨by show 1 ≤ a; omega, by show a ≤ 600; omega, ?_⟩, by omega⟩
          show okMax b
          unfold okMax; omega
        refine ⟨_, rfl, ⟨by show 0 ≤ i + 1; omega, by show i + 1 ≤ n; omega, by simp; omega, hb, ?_⟩, by show (n - (i + 1)).toNat < (n - i).toNat; omega⟩
        intro j hj
        simp only [List.length_append, List.length_cons, List.length_nil] at hj
        by_cases hj2 : j < w.length
        · simp only [List.getElem_append_left hj2]
          exact k5 j hj2
        · have : j = w.length := by omega
          subst this
          simp only [List.getElem_append_right (Nat.le_refl _), Nat.sub_self, List.getElem_cons_zero]
          exact ⟨by omega, hu.1, hu.2⟩
      · right
        have hi : i = n := by simp at hc; omega
        exact ⟨_, rfl, k4, by show (w.length : Int) = n; omega, k5⟩) (0, t1.L, t1.At, []) ⟨by show (0 : Int) ≤ 0; omega, by show (0 : Int) ≤ n; omega, by simp, h1, by intro j hj; simp at hj⟩
  simp only at g1 g2 g3
  rw [e2, some_bind]
  dsimp only
  unfold mark_Dice_Award_j1
  obtain ⟨b, t', e3, h3, hb⟩ := dBounds ⟨L, A⟩ y g1 (by omega) (by omega)
  rw [e3, some_bind]
  refine ⟨_, t', rfl, h3, ⟨by show 1 ≤ w.length; omega, by show w.length ≤ 4; omega, ?_, ?_, hy'.1, hy'.2, hb⟩, g2, ?_⟩
  · intro u hu
    obtain ⟨j, hj, rfl⟩ := List.getElem_of_mem hu
    obtain ⟨q1, q2, q3⟩ := g3 j hj
    exact ⟨q2, by rw [q1]; omega, by rw [q1]; have : j < w.length := hj; omega⟩
  · intro i hi
    have hi' : i + 1 < w.length := hi
    show w[i].Paper < w[i + 1].Paper
    rw [(g3 i (by omega)).1, (g3 (i + 1) hi').1]; omega
  · intro u hu
    obtain ⟨j, hj, rfl⟩ := List.getElem_of_mem hu
    exact (g3 j hj).2.2
theorem v_half (n : Int) (h0 : 0 ≤ n) (h1 : n ≤ 1000) (h : n % 2 = 1) : vR ⟨n, 2⟩ = true := by
  rw [vR_iff]
  refine ⟨by show (1 : Int) ≤ 2; omega, by show (2 : Int) ≤ _; omega, by show _ ≤ n; omega, by show n ≤ _; omega, ?_⟩
  show Nat.gcd n.natAbs 2 = 1
  rw [Nat.gcd_comm, Nat.gcd_rec, show n.natAbs % 2 = 1 by omega]
  rfl
theorem dMarks (d : mark_Dice) (a : api_Award) (h : DOK d) (ha : AOK a) : ∃ l t', mark_Dice_Marks d a = some (l, t') ∧ DOK t' ∧ PairOK a.Units l := by
  have l1 := ha.l1
  unfold mark_Dice_Marks
  obtain ⟨⟨L, A, w⟩, e2, g1, g2⟩ := iter_inv (f := mark_Dice_Marks_l3 a) (fun s => 0 ≤ s.1 ∧ s.1 ≤ a.Units.length ∧ (s.2.2.2.length : Int) = s.1 ∧ DOK ⟨s.2.1, s.2.2.1⟩ ∧ PairOK (a.Units.take s.1.toNat) s.2.2.2) (fun s => (a.Units.length - s.1).toNat)
    (fun r => DOK ⟨r.1, r.2.1⟩ ∧ PairOK a.Units r.2.2) (by
      rintro ⟨i, L, A, w⟩ ⟨k1, k2, k3, k4, k5⟩
      simp only at k1 k2 k3 k4 k5
      simp only [mark_Dice_Marks_l3]
      rcases bcases (decide (i < (a.Units.length : Int))) with hc | hc <;> rw [hc]
      · left
        have hi : i < a.Units.length := by simpa using hc
        obtain ⟨k, rfl⟩ : ∃ k : Nat, i = (k : Int) := ⟨i.toNat, by omega⟩
        have hk : k < a.Units.length := by omega
        obtain ⟨hu, p0, p1⟩ := ha.u a.Units[k] (List.getElem_mem hk)
        have hmx : 10 ≤ a.Units[k].Max ∧ a.Units[k].Max ≤ 100 := by rcases hu.mx with h | h | h | h <;> omega
        have fin : ∀ (y : Int) (t : mark_Dice) (x x1 : Int), DOK t → MOK a.Units[k] ⟨y, ⟨x, x1⟩⟩ → ∃ s', mark_Dice_Marks_j2 (k : Int) w y t.L t.At x x1 = some (.inl s') ∧ (0 ≤ s'.1 ∧ s'.1 ≤ a.Units.length ∧ (s'.2.2.2.length : Int) = s'.1 ∧ DOK ⟨s'.2.1, s'.2.2.1⟩ ∧ PairOK (a.Units.take s'.1.toNat) s'.2.2.2) ∧ (a.Units.length - s'.1).toNat < (a.Units.length - (k : Int)).toNat := by
          intro y t x x1 ht hm
          unfold mark_Dice_Marks_j2
          rw [req_pos (by simp; omega), i64_add1 k (by omega)]
          refine ⟨_, rfl, ⟨by show (0 : Int) ≤ ((k + 1 : Nat) : Int); omega, by show ((k + 1 : Nat) : Int) ≤ _; omega, by simp; omega, ht, ?_⟩, by show (_ - ((k + 1 : Nat) : Int)).toNat < _; omega⟩
          show PairOK (a.Units.take (((k + 1 : Nat) : Int)).toNat) (w ++ [_])
          rw [Int.toNat_natCast, List.take_succ_eq_append_getElem hk]
          rw [Int.toNat_natCast] at k5
          exact PairOK.append k5 (PairOK.one hu hm)
        obtain ⟨y, t1, e1, h1, hy⟩ := dPick ⟨L, A⟩ [0, 0, 0, 1, 2, 3, 0, 0] k4 (by simp) (by simp)
        have hy' : 0 ≤ y ∧ y ≤ 3 := by simp at hy; omega
        rw [cond_true, e1, some_bind]
        dsimp only
        by_cases hy0 : y = 0
        · subst hy0
          rw [show ((0 : Int) == 0) = true by decide, cond_true, req_pos (by omega), ix_nat _ _ hk, wrap64 (n := a.Units[k].Max + 1) (by omega) (by omega)]
          obtain ⟨y2, t2, e2, h2, b1, b2⟩ := dNext t1 (a.Units[k].Max + 1) h1 (by omega)
          have b3 := b2 (by omega)
          have hone : MOK a.Units[k] ⟨0, ⟨y2, 1⟩⟩ := ⟨by show (0 : Int) ≤ 0; omega, by show (0 : Int) ≤ 3; omega, v_whole y2 b1 (by omega), b1, .inl rfl, by show y2 ≤ a.Units[k].Max * 1; omega, fun hh => absurd rfl hh⟩
          rw [e2, some_bind]
          dsimp only
          rcases bcases (((Int.tmod y2 (2 : Int)) == (1 : Int)) && (decide (y2 < a.Units[k].Max))) with hd | hd <;> rw [hd]
          · simp only [Bool.and_eq_true, beq_iff_eq, decide_eq_true_eq] at hd
            have hodd : y2 % 2 = 1 := by rw [Int.tmod_eq_emod_of_nonneg b1] at hd; exact hd.1
            rw [cond_true, req_pos (by intro _; omega)]
            obtain ⟨z, t3, e3, h3, z1, z2⟩ := dNext t2 3 h2 (by omega)
            unfold mark_Dice_Bool
            rw [e3, some_bind]
            dsimp only
            rw [some_bind]
            dsimp only
            cases z == IntKind.i64.wrap (3 - 1)
            · rw [cond_false]; exact fin 0 t3 y2 1 h3 hone
            · rw [cond_true]
              exact fin 0 t3 y2 2 h3 ⟨by show (0 : Int) ≤ 0; omega, by show (0 : Int) ≤ 3; omega, v_half y2 b1 (by omega) hodd, b1, .inr rfl, by show y2 ≤ a.Units[k].Max * 2; omega, fun hh => absurd rfl hh⟩
          · rw [cond_false, req_pos (by intro _; omega)]
            exact fin 0 t2 y2 1 h2 hone
        · rw [show (y == 0) = false by simpa using hy0, cond_false]
          exact fin y t1 0 1 h1 ⟨hy'.1, hy'.2, v_whole 0 (by decide) (by decide), by show (0 : Int) ≤ 0; omega, .inl rfl, by show 0 ≤ a.Units[k].Max * 1; omega, fun _ => rfl⟩
      · right
        have hi : i = a.Units.length := by simp at hc; omega
        refine ⟨_, rfl, k4, ?_⟩
        rw [hi, Int.toNat_natCast, List.take_length] at k5
        exact k5) (0, d.L, d.At, []) ⟨by show (0 : Int) ≤ 0; omega, by show (0 : Int) ≤ _; omega, by simp, h, trivial⟩
  simp only at g1 g2
  rw [e2, some_bind]
  exact ⟨w, ⟨L, A⟩, rfl, g1, g2⟩
/-! ### the examples -/
def a36 : api_Award := ⟨[⟨0, 60, 50⟩, ⟨1, 40, 100⟩], [60, 50], 100⟩
theorem aok36 : AOK a36 := by
  refine ⟨by decide, by decide, ?_, ?_, by decide, by decide, ⟨by decide, by decide, ?_, ?_⟩⟩
  · intro u hu
    simp only [a36, List.mem_cons, List.not_mem_nil, or_false] at hu
    rcases hu with rfl | rfl <;> exact ⟨⟨by decide, by decide, by simp [okMax]⟩, by decide, by decide⟩
  · intro i hi
    have : i = 0 := by simp [a36] at hi; omega
    subst this
    show (0 : Int) < 1
    decide
  · decide
  · intro i j hi hj hij
    have h1 : i < 2 := hi
    have h2 : j < 2 := hj
    match i, j, h1, h2 with
    | 0, 0, _, _ => exact Int.le_refl _
    | 0, 1, _, _ => show (50 : Int) ≤ 60; decide
    | 1, 1, _, _ => exact Int.le_refl _
    | 1, 0, _, _ => omega
def l36 : List api_UnitMark := [⟨0, ⟨25, 1⟩⟩, ⟨0, ⟨80, 1⟩⟩]
def x36 : List api_UnitMark := [⟨0, ⟨25, 1⟩⟩, ⟨2, ⟨0, 1⟩⟩]
theorem pair36 : PairOK a36.Units l36 :=
  ⟨⟨by decide, by decide, by simp [okMax]⟩, ⟨by decide, by decide, by decide, by decide, .inl rfl, by decide, fun h => absurd rfl h⟩,
   ⟨by decide, by decide, by simp [okMax]⟩, ⟨by decide, by decide, by decide, by decide, .inl rfl, by decide, fun h => absurd rfl h⟩, trivial⟩
theorem pairx36 : PairOK a36.Units x36 :=
  ⟨⟨by decide, by decide, by simp [okMax]⟩, ⟨by decide, by decide, by decide, by decide, .inl rfl, by decide, fun h => absurd rfl h⟩,
   ⟨by decide, by decide, by simp [okMax]⟩, ⟨by decide, by decide, by decide, by decide, .inl rfl, by decide, fun _ => rfl⟩, trivial⟩
theorem round_of {x : api_Ratio} {n : Int} (h : vR x = true) (he : x.Num = n * x.Den) (h0 : 0 ≤ n) (h1 : n ≤ 1000) : roundR x = n := by
  have a1 := round_mono h (v_whole n h0 h1) (by show x.Num * 1 ≤ n * x.Den; omega)
  have a2 := round_mono (v_whole n h0 h1) h (by show n * x.Den ≤ x.Num * 1; omega)
  rw [round_one] at a1 a2
  omega
theorem whole_eq (n : Int) : law36_whole n = some ⟨n, 1⟩ := rfl
theorem sane36 : law36_sane = some true := by
  unfold law36_sane
  simp only [whole_eq, some_bind]
  obtain ⟨x, t1, t2⟩ := Total_eq a36 l36 0 aok36 pair36 (by decide) (by decide) (by decide) (by decide)
  have hx : roundR x = 62 := by
    have q : QQ a36 l36 = 60000000 := by decide
    have p : PP a36 l36 0 = 3720000000 := by decide
    have := t2.lo (by rw [q, p]; decide)
    rw [q, p] at this
    exact round_of t2.v (by omega) (by decide) (by decide)
  obtain ⟨y, d1, d2⟩ := (Decide_eq a36 x36 0 aok36 pairx36 (by decide) (by decide)).2.2 (by decide) (by decide)
  have hy : roundR y = 50 := by
    have q : QQ a36 x36 = 36000000 := by decide
    have p : PP a36 x36 0 = 1800000000 := by decide
    have := d1.lo (by rw [q, p]; decide)
    rw [q, p] at this
    exact round_of d1.v (by omega) (by decide) (by decide)
  have hest : aggregate_Estimate a36 x36 1 = some (⟨50, 1⟩, 0) := by
    obtain ⟨z, z1, z2⟩ := (Exact_eq a36 x36 0 aok36 pairx36 (by decide) (by decide)).2.2 (by decide) (by decide)
    obtain ⟨u, u1, u2⟩ := scaled_eq a36 x36 100 pairx36 (by decide) (by decide) (by decide) (by decide)
    have hu : u = ⟨50, 1⟩ := by
      have vb : ValB ⟨50, 1⟩ 50 1 50 1 := ⟨by decide, by decide, rfl, by decide, by decide⟩
      exact u2.eq vb (by decide)
    unfold aggregate_Estimate
    rw [z1, some_bind, show (decide ((1 : Int) < 0) || decide ((a36.Units.length : Int) ≤ 1)) = false by decide, cond_false]
    dsimp only
    rw [show ((0 : Int) != 0) = false by decide, cond_false, req_pos (by decide), show (ix a36.Units 1).Max = 100 by decide, u1, hu, some_bind]
  have e1 : aggregate_Total ⟨[⟨0, 60, 50⟩, ⟨1, 40, 100⟩], [60, 50], 100⟩ [⟨0, ⟨25, 1⟩⟩, ⟨0, ⟨80, 1⟩⟩] 0 = _ := t1
  have e2 : aggregate_Decide ⟨[⟨0, 60, 50⟩, ⟨1, 40, 100⟩], [60, 50], 100⟩ [⟨0, ⟨25, 1⟩⟩, ⟨2, ⟨0, 1⟩⟩] 0 = _ := d2
  have e3 : aggregate_Estimate ⟨[⟨0, 60, 50⟩, ⟨1, 40, 100⟩], [60, 50], 100⟩ [⟨0, ⟨25, 1⟩⟩, ⟨2, ⟨0, 1⟩⟩] 1 = _ := hest
  rw [e1, hx, some_bind]
  dsimp only
  rw [req_pos (by decide), e2, hy, some_bind]
  dsimp only
  rw [req_pos (by decide), e3, some_bind]
  dsimp only
  rw [req_pos (by intro _; rfl)]
  rw [show gr a36.Bounds 50 = 1 by decide]
  rfl
end Go.LS
