/-
  BoundaryTransfers, first part: curves, and what Convert returns. Conditions: the curves that the dice make.
-/
import Derived.Test.YtamifffofclhkaaPBT
namespace Go.LS
set_option linter.all false
set_option linter.unusedSimpArgs false
set_option linter.unusedVariables false
set_option maxRecDepth 20000

theorem sbt {α β : Type} (x : α) (f : α → Option β) : (some x).bind f = f x := rfl
def pt (p : Int × Int) : api_Point := ⟨⟨p.1, 1⟩, ⟨p.2, 1⟩⟩
def cv (ps : List (Int × Int)) : api_Curve := ⟨ps.map pt⟩
structure CO (ps : List (Int × Int)) : Prop where
  l0 : 2 ≤ ps.length
  l1 : ps.length ≤ 10
  up : ∀ i (h : i + 1 < ps.length), ps[i].1 < ps[i + 1].1 ∧ ps[i].2 < ps[i + 1].2
  b : ∀ p ∈ ps, -100 ≤ p.1 ∧ p.1 ≤ 100 ∧ -100 ≤ p.2 ∧ p.2 ≤ 100
/-! ### the dice's curves -/
structure CI (ps : List (Int × Int)) (x y : Int) : Prop where
  l0 : 1 ≤ ps.length
  last : ps[ps.length - 1]? = some (x, y)
  up : ∀ i (h : i + 1 < ps.length), ps[i].1 < ps[i + 1].1 ∧ ps[i].2 < ps[i + 1].2
  b : ∀ p ∈ ps, -4 ≤ p.1 ∧ p.1 ≤ x ∧ -4 ≤ p.2 ∧ p.2 ≤ y
theorem CI.snoc {ps : List (Int × Int)} {x y x' y' : Int} (h : CI ps x y) (hx : x < x') (hy : y < y') : CI (ps ++ [(x', y')]) x' y' := by
  have l0 := h.l0
  refine ⟨by simp, by simp, fun i hi => ?_, fun p hp => ?_⟩
  · simp only [List.length_append, List.length_cons, List.length_nil] at hi
    by_cases h1 : i + 1 < ps.length
    · rw [List.getElem_append_left (by omega), List.getElem_append_left h1]
      exact h.up i h1
    · have e : i = ps.length - 1 := by omega
      subst e
      have hl := h.last
      rw [List.getElem?_eq_getElem (by omega)] at hl
      have hl := Option.some.inj hl
      rw [List.getElem_append_left (by omega), hl, List.getElem_append_right (by omega)]
      simp
      exact ⟨hx, hy⟩
  · rcases List.mem_append.1 hp with hp | hp
    · have := h.b p hp; omega
    · simp at hp; subst hp
      have hm : (x, y) ∈ ps := by
        have := h.last
        exact List.mem_of_getElem? this
      have := h.b _ hm
      simp at this ⊢
      omega
theorem curve_loop : ∀ (n : Nat) (ps : List (Int × Int)) (x y : Int) (d : mark_Dice), DOK d → CI ps x y → x ≤ 100 - 3 * n → y ≤ 100 - 4 * n → x ≤ 100 → y ≤ 100 → ps.length + n ≤ 10 → n ≤ 8 →
    ∃ qs d' x' y', iter mark_Dice_Curve_l2 (x, y, (n : Int), d.L, d.At, ps.map pt) = some (d'.L, d'.At, qs.map pt) ∧ DOK d' ∧ CI qs x' y' ∧ x' ≤ 100 ∧ y' ≤ 100 ∧ qs.length = ps.length + n := by
  intro n
  induction n with
  | zero =>
    intro ps x y d hd hc h1 h2 h3 h4 h5 h6
    exact ⟨ps, d, x, y, iter_inr (by simp [mark_Dice_Curve_l2]), hd, hc, h3, h4, by omega⟩
  | succ n ih =>
    intro ps x y d hd hc h1 h2 h3 h4 h5 h6
    have hxl : -4 ≤ x ∧ -4 ≤ y := by
      have hm : (x, y) ∈ ps := List.mem_of_getElem? hc.last
      have := hc.b _ hm
      simp at this; omega
    obtain ⟨a, d1, e1, k1, a0, a1⟩ := dNext d 3 hd (by omega)
    have a1 := a1 (by omega)
    obtain ⟨b, d2, e2, k2, b0, b1⟩ := dNext d1 4 k1 (by omega)
    have b1 := b1 (by omega)
    have hs : mark_Dice_Curve_l2 (x, y, ((n + 1 : Nat) : Int), d.L, d.At, ps.map pt) = some (.inl (x + 1 + a, y + 1 + b, (n : Int), d2.L, d2.At, (ps ++ [(x + 1 + a, y + 1 + b)]).map pt)) := by
      simp only [mark_Dice_Curve_l2]
      rw [show decide ((0 : Int) < ((n + 1 : Nat) : Int)) = true by simp <;> omega, cond_true, show mark_Dice.mk d.L d.At = d from rfl, e1, sbt]
      dsimp only
      rw [e2, sbt]
      dsimp only
      rw [req_pos (by simp; omega)]
      unfold bindV
      rw [wrap64 (n := x + 1) (by omega) (by omega), wrap64 (n := y + 1) (by omega) (by omega), wrap64 (n := x + 1 + a) (by omega) (by omega), wrap64 (n := y + 1 + b) (by omega) (by omega), wrap64 (n := ((n + 1 : Nat) : Int) - 1) (by omega) (by omega)]
      rw [List.map_append, show (((n + 1 : Nat) : Int) - 1) = (n : Int) by omega]
      rfl
    rw [iter_inl hs]
    obtain ⟨qs, d', x', y', g1, g2, g3, g4, g5, g6⟩ := ih (ps ++ [(x + 1 + a, y + 1 + b)]) (x + 1 + a) (y + 1 + b) d2 k2 (hc.snoc (by omega) (by omega)) (by omega) (by omega) (by omega) (by omega) (by simp; omega) (by omega)
    exact ⟨qs, d', x', y', g1, g2, g3, g4, g5, by simp at g6; omega⟩
theorem dCurve (d : mark_Dice) (hd : DOK d) : ∃ ps d', mark_Dice_Curve d = some (cv ps, d') ∧ DOK d' ∧ CO ps := by
  unfold mark_Dice_Curve mark_Dice_Curve_j1
  obtain ⟨x, d1, e1, k1, x0, x1⟩ := dNext d 9 hd (by omega)
  have x1 := x1 (by omega)
  obtain ⟨y, d2, e2, k2, y0, y1⟩ := dNext d1 9 k1 (by omega)
  have y1 := y1 (by omega)
  obtain ⟨n, d3, e3, k3, n0, n1⟩ := dNext d2 4 k2 (by omega)
  have n1 := n1 (by omega)
  rw [e1, sbt]
  dsimp only
  rw [e2, sbt]
  dsimp only
  rw [e3, sbt]
  dsimp only
  rw [wrap64 (n := (1 : Int) + n) (by omega) (by omega), show decide ((0 : Int) < 1 + n) = true by simp; omega, cond_true]
  obtain ⟨a, d4, e4, k4, a0, a1⟩ := dNext d3 3 k3 (by omega)
  have a1 := a1 (by omega)
  obtain ⟨b, d5, e5, k5, b0, b1⟩ := dNext d4 4 k4 (by omega)
  have b1 := b1 (by omega)
  rw [e4, sbt]
  dsimp only
  rw [e5, sbt]
  dsimp only
  unfold bindV
  dsimp only
  rw [req_pos (by simp)]
  rw [wrap64 (n := x - 4) (by omega) (by omega), wrap64 (n := y - 4) (by omega) (by omega), wrap64 (n := x - 4 + 1) (by omega) (by omega), wrap64 (n := y - 4 + 1) (by omega) (by omega), wrap64 (n := x - 4 + 1 + a) (by omega) (by omega), wrap64 (n := y - 4 + 1 + b) (by omega) (by omega), wrap64 (n := (1 : Int) + n - 1) (by omega) (by omega)]
  have c1 : CI [(x - 4, y - 4)] (x - 4) (y - 4) := ⟨by simp, by simp, fun i h => absurd h (by simp), fun p hp => by simp at hp; subst hp; simp; omega⟩
  have c2 := c1.snoc (show x - 4 < x - 4 + 1 + a by omega) (show y - 4 < y - 4 + 1 + b by omega)
  obtain ⟨k, hk⟩ : ∃ k : Nat, (1 : Int) + n - 1 = k := ⟨n.toNat, by omega⟩
  obtain ⟨qs, d', x', y', g1, g2, g3, g4, g5, g6⟩ := curve_loop k _ _ _ d5 k5 c2 (by omega) (by omega) (by omega) (by omega) (by simp; omega) (by omega)
  rw [hk]
  have g1' : iter mark_Dice_Curve_l2 (x - 4 + 1 + a, y - 4 + 1 + b, (k : Int), d5.L, d5.At, [(api_Point.mk (api_Ratio.mk (x - 4) (1 : Int)) (api_Ratio.mk (y - 4) (1 : Int)))] ++ [(api_Point.mk (api_Ratio.mk (x - 4 + 1 + a) (1 : Int)) (api_Ratio.mk (y - 4 + 1 + b) (1 : Int)))]) = _ := g1
  rw [g1', sbt]
  simp at g6
  exact ⟨qs, d', rfl, g2, by omega, by omega, g3.up, fun p hp => by have := g3.b p hp; omega⟩
/-! ### the curve is valid -/
theorem less1 (a b : Int) (ha : -1000 ≤ a ∧ a ≤ 1000) (hb : -1000 ≤ b ∧ b ≤ 1000) : ratio_Less ⟨a, 1⟩ ⟨b, 1⟩ = some (decide (a < b)) := by
  rw [Less_eq, less_v (v_one a (by omega) (by omega)) (v_one b (by omega) (by omega))]
  simp
theorem ixp (ps : List (Int × Int)) (k : Nat) (h : k < ps.length) : ix (ps.map pt) (k : Int) = pt ps[k] := by
  rw [ix_nat _ k (by simpa using h)]; simp
theorem asc_ok (ps : List (Int × Int)) (h : CO ps) : conversion_ascending (ps.map pt) = some true := by
  have hl := h.l1
  unfold conversion_ascending
  have key : ∀ (n k : Nat), ps.length - k = n → k ≤ ps.length → iter (conversion_ascending_l2 (ps.map pt)) (k : Int) = some (.inl ()) := by
    intro n
    induction n with
    | zero =>
      intro k h1 h2
      have : k = ps.length := by omega
      subst this
      exact iter_inr (by simp [conversion_ascending_l2])
    | succ n ih =>
      intro k h1 h2
      have hk : k < ps.length := by omega
      have hb := h.b ps[k] (List.getElem_mem hk)
      have hs : conversion_ascending_l2 (ps.map pt) (k : Int) = some (.inl ((k + 1 : Nat) : Int)) := by
        simp only [conversion_ascending_l2, List.length_map]
        rw [show decide ((k : Int) < (ps.length : Int)) = true by simp; exact hk, cond_true, req_pos (by omega), ixp ps k hk]
        rw [show (pt ps[k]).X = ⟨ps[k].1, 1⟩ from rfl, show (pt ps[k]).Y = ⟨ps[k].2, 1⟩ from rfl, Valid_eq, Valid_eq, v_one _ (by omega) (by omega), v_one _ (by omega) (by omega), sbt]
        simp only [Option.isSome_some, implies_true, req_true, Option.getD_some, Bool.not_true, Bool.or_self, cond_false]
        by_cases hk0 : k = 0
        · subst hk0
          simp [req_true, i64_add1]
          rfl
        · obtain ⟨j, rfl⟩ : ∃ j, k = j + 1 := ⟨k - 1, by omega⟩
          have hj : j < ps.length := by omega
          have hbj := h.b ps[j] (List.getElem_mem hj)
          have hu := h.up j hk
          rw [wrap64 (n := ((j + 1 : Nat) : Int) - 1) (by omega) (by omega), show ((j + 1 : Nat) : Int) - 1 = (j : Int) by omega, ixp ps j hj]
          rw [show (pt ps[j]).X = ⟨ps[j].1, 1⟩ from rfl, show (pt ps[j]).Y = ⟨ps[j].2, 1⟩ from rfl, less1 _ _ (by omega) (by omega), less1 _ _ (by omega) (by omega)]
          simp only [Option.isSome_some, implies_true, Option.getD_some, and_true]
          rw [req_pos ⟨fun _ => by omega, trivial, fun _ => by omega⟩, show decide (ps[j].1 < ps[j + 1].1) = true by simp; exact hu.1, show decide (ps[j].2 < ps[j + 1].2) = true by simp; exact hu.2, i64_add1 (j + 1) (by omega)]
          simp
      rw [iter_inl hs]
      exact ih (k + 1) (by omega) (by omega)
  have h0 : iter (conversion_ascending_l2 (ps.map pt)) (0 : Int) = _ := key _ 0 rfl (by omega)
  rw [h0]
  rfl
theorem cvalid (ps : List (Int × Int)) (h : CO ps) : conversion_Valid (cv ps) = some true := by
  have h0 := h.l0; have h1 := h.l1
  unfold conversion_Valid cv
  dsimp only
  rw [asc_ok ps h, List.length_map, show (decide ((2 : Int) ≤ (ps.length : Int)) && decide ((ps.length : Int) ≤ (410 : Int))) = true by simp; omega, req_pos (show true = true → (some true).isSome = true from fun _ => rfl)]
  rfl
/-! ### the search -/
theorem shr1 (x : Nat) : bShr .u64 (x : Int) 1 = ((x / 2 : Nat) : Int) := by
  unfold bShr
  rw [show (2 : Int) ^ (min (Int.toNat 1) (IntKind.bits .u64)) = 2 by decide, Int.fdiv_eq_ediv_of_nonneg _ (by omega)]
  omega
theorem f1_at (ps : List (Int × Int)) (h : CO ps) (m : Int) (hm : -1000 ≤ m ∧ m ≤ 1000) (k : Nat) (hk : k + 1 < ps.length) : conversion_eval_f1 (k : Int) ⟨m, 1⟩ (ps.map pt) = some (decide (m ≤ ps[k + 1].1)) := by
  have hl := h.l1
  have hb := h.b ps[k + 1] (List.getElem_mem hk)
  unfold conversion_eval_f1
  rw [i64_add1 k (by omega), req_pos (by rw [List.length_map]; omega), ixp ps (k + 1) hk]
  rw [show (pt ps[k + 1]).X = ⟨ps[k + 1].1, 1⟩ from rfl, Compare_eq, sbt, cmpR_v (v_one _ (by omega) (by omega)) (v_one _ (by omega) (by omega))]
  congr 1
  unfold cmpI
  rw [Bool.eq_iff_iff, decide_eq_true_eq, decide_eq_true_eq]
  simp only [Int.mul_one]
  split <;> (try split) <;> omega
theorem search_ok (ps : List (Int × Int)) (h : CO ps) (m : Int) (hm : -1000 ≤ m ∧ m ≤ 1000) :
    ∃ s : Nat, sort_Search_conversion_eval_f1 ((ps.length : Int) - 2) ⟨m, 1⟩ (ps.map pt) = some (s : Int) ∧ ∃ h2 : s + 1 < ps.length, (0 < s → (ps[s]'(by omega)).1 < m) ∧ (s + 2 < ps.length → m ≤ ps[s + 1].1) := by
  have h0 := h.l0; have h1 := h.l1
  unfold sort_Search_conversion_eval_f1 sort_Search_conversion_eval_f1_j1
  have key : ∀ (n i j : Nat), j - i = n → i ≤ j → j + 2 ≤ ps.length → (∀ (hi : 0 < i) (hi2 : i < ps.length), ps[i].1 < m) → (∀ hj : j + 2 < ps.length, m ≤ (ps[j + 1]'(by omega)).1) →
      ∃ s : Nat, iter (sort_Search_conversion_eval_f1_l2 ⟨m, 1⟩ (ps.map pt)) ((i : Int), (j : Int)) = some (s : Int) ∧ ∃ h2 : s + 1 < ps.length, (0 < s → (ps[s]'(by omega)).1 < m) ∧ (s + 2 < ps.length → m ≤ ps[s + 1].1) := by
    intro n
    induction n using Nat.strongRecOn with
    | _ n ih =>
      intro i j hn hij hj hlo hhi
      by_cases hlt : i < j
      · have hh : sort_Search_conversion_eval_f1_l2 ⟨m, 1⟩ (ps.map pt) ((i : Int), (j : Int)) = bif (!(decide (m ≤ (ps[(i + j) / 2 + 1]'(by omega)).1))) then some (.inl ((((i + j) / 2 + 1 : Nat) : Int), (j : Int))) else some (.inl ((i : Int), (((i + j) / 2 : Nat) : Int))) := by
          simp only [sort_Search_conversion_eval_f1_l2]
          rw [show decide ((i : Int) < (j : Int)) = true by simp; exact hlt, cond_true]
          unfold bindV
          rw [wrap64 (n := (i : Int) + (j : Int)) (by omega) (by omega), ← Int.natCast_add, wrapU_nat (i + j) (by omega), shr1, wrap64 (n := (((i + j) / 2 : Nat) : Int)) (by omega) (by omega)]
          dsimp only
          rw [f1_at ps h m hm ((i + j) / 2) (by omega), sbt, i64_add1 ((i + j) / 2) (by omega)]
        rcases bcases (decide (m ≤ (ps[(i + j) / 2 + 1]'(by omega)).1)) with hc | hc
        · rw [hc] at hh
          rw [iter_inl (s' := ((i : Int), (((i + j) / 2 : Nat) : Int))) (by rw [hh]; rfl)]
          exact ih _ (by omega) i ((i + j) / 2) rfl (by omega) (by omega) hlo (fun _ => by simpa using hc)
        · rw [hc] at hh
          rw [iter_inl (s' := ((((i + j) / 2 + 1 : Nat) : Int), (j : Int))) (by rw [hh]; rfl)]
          exact ih _ (by omega) ((i + j) / 2 + 1) j rfl (by omega) hj (fun _ _ => by simpa using hc) hhi
      · have e : i = j := by omega
        subst e
        refine ⟨i, iter_inr ?_, by omega, fun hi => hlo hi (by omega), fun hj => hhi hj⟩
        simp [sort_Search_conversion_eval_f1_l2]
  obtain ⟨s, k1, k2⟩ := key _ 0 (ps.length - 2) rfl (by omega) (by omega) (fun hi _ => absurd hi (by omega)) (fun hj => absurd hj (by omega))
  have k1' : iter (sort_Search_conversion_eval_f1_l2 ⟨m, 1⟩ (ps.map pt)) ((0 : Int), ((ps.length - 2 : Nat) : Int)) = _ := k1
  refine ⟨s, ?_, k2⟩
  rw [show (ps.length : Int) - 2 = ((ps.length - 2 : Nat) : Int) by omega, k1']
  rfl
end Go.LS
