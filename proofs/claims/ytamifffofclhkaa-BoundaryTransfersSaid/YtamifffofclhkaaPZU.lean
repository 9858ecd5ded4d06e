/-
  BoundaryTransfers: a mark reaches a boundary that was transferred exactly if its converted mark reaches the boundary.
  Conditions: the number is a byte.
-/
import Derived.Test.YtamifffofclhkaaPZT
namespace Go.LS
set_option linter.all false
set_option linter.unusedSimpArgs false
set_option linter.unusedVariables false
set_option maxRecDepth 20000

/-! ### one value of a curve -/
theorem vb1 (a : Int) (N : Nat) (h : a.natAbs ≤ N) (hN : N ≤ 100000) : ValB ⟨a, 1⟩ a 1 N 1 :=
  ⟨v_one a (by omega) (by omega), by decide, rfl, h, by decide⟩
theorem sub1 (a b : Int) (ha : a.natAbs ≤ 1000) (hb : b.natAbs ≤ 1000) : ratio_Sub ⟨a, 1⟩ ⟨b, 1⟩ = some (⟨a - b, 1⟩, 0) := by
  rw [Sub_eq]
  obtain ⟨x, e, hx⟩ := sub_go (vb1 a 1000 ha (by decide)) (vb1 b 1000 hb (by decide)) (by unfold MX; decide) (by unfold MX; decide)
  have hy : ValB ⟨a - b, 1⟩ (a - b) 1 2000 1 := vb1 (a - b) 2000 (by omega) (by decide)
  rw [e, ValB.eq hx hy (by omega)]
theorem div1 (a b : Int) (ha : a.natAbs ≤ 2000) (hb : b.natAbs ≤ 2000) (h0 : 0 < b) : ∃ r, ratio_Div ⟨a, 1⟩ ⟨b, 1⟩ = some (r, 0) ∧ ValB r a b 2000 2000 := by
  obtain ⟨r, e, v, q, d⟩ := newOf_ok' a b (by omega) (by omega) h0 (by omega)
  refine ⟨r, ?_, v, h0, q, ha, hb⟩
  rw [Div_eq, ← e]
  congr 1
  unfold divOf newOf sgn
  rw [if_pos ⟨v_one a (by omega) (by omega), v_one b (by omega) (by omega)⟩, if_neg (show ¬ (api_Ratio.mk b 1).Num = 0 by show ¬ b = 0; omega), if_neg (show ¬ b = 0 by omega)]
  show redOf _ (a.natAbs * (1 : Int).natAbs) ((1 : Int).natAbs * b.natAbs) = _
  rw [show (1 : Int).natAbs = 1 from rfl, Nat.mul_one, Nat.one_mul]
def dX (ps : List (Int × Int)) (s : Nat) (h : s + 1 < ps.length) : Int := ps[s + 1].1 - ps[s].1
def dY (ps : List (Int × Int)) (s : Nat) (h : s + 1 < ps.length) : Int := ps[s + 1].2 - ps[s].2
structure Ev (ps : List (Int × Int)) (m : Int) (z : api_Ratio) (s : Nat) (h : s + 1 < ps.length) : Prop where
  v : vR z = true
  lo : 0 < s → ps[s].1 < m
  hi : s + 2 < ps.length → m ≤ ps[s + 1].1
  e : z.Num * dX ps s h = (ps[s].2 * dX ps s h + (m - ps[s].1) * dY ps s h) * z.Den
theorem eval_ok (ps : List (Int × Int)) (h : CO ps) (m : Int) (m0 : 0 ≤ m) (m1 : m ≤ 200) : ∃ z s, ∃ hs : s + 1 < ps.length, conversion_eval (ps.map pt) ⟨m, 1⟩ = some (z, 0) ∧ Ev ps m z s hs := by
  have l0 := h.l0; have l1 := h.l1
  obtain ⟨s, e1, hs, hlo, hhi⟩ := search_ok ps h m (by omega)
  have hs0 : s < ps.length := by omega
  have bp := h.b ps[s] (List.getElem_mem hs0)
  have bq := h.b ps[s + 1] (List.getElem_mem hs)
  have hu := h.up s hs
  obtain ⟨r, e2, vr⟩ := div1 (ps[s + 1].2 - ps[s].2) (ps[s + 1].1 - ps[s].1) (by omega) (by omega) (by omega)
  obtain ⟨x, e3, vx⟩ := mul_go (vb1 (m - ps[s].1) 2000 (by omega) (by decide)) vr (by unfold MX; decide) (by unfold MX; decide)
  obtain ⟨z, e4, vz⟩ := add_go (vb1 ps[s].2 2000 (by omega) (by decide)) vx (by unfold MX; decide) (by unfold MX; decide)
  refine ⟨z, s, hs, ?_, vz.v, hlo, hhi, ?_⟩
  · unfold conversion_eval
    rw [List.length_map, wrap64 (n := (ps.length : Int) - 1) (by omega) (by omega), wrap64 (n := (ps.length : Int) - 1 - 1) (by omega) (by omega), show (ps.length : Int) - 1 - 1 = (ps.length : Int) - 2 by omega, e1, sbt]
    rw [wrap64 (n := (1 : Int) + (s : Int)) (by omega) (by omega), wrap64 (n := (1 : Int) + (s : Int) - 1) (by omega) (by omega), show (1 : Int) + (s : Int) - 1 = (s : Int) by omega, show (1 : Int) + (s : Int) = ((s + 1 : Nat) : Int) by omega, req_pos (by omega), ixp ps s hs0, ixp ps (s + 1) hs]
    unfold bindV conversion_steps_slope conversion_steps_do_ratio_Sub conversion_steps_do_ratio_Div conversion_steps_do_ratio_Mul conversion_steps_do_ratio_Add
    simp only [pt]
    rw [show ((0 : Int) != 0) = false by decide]
    simp only [cond_false]
    rw [sub1 ps[s + 1].2 ps[s].2 (by omega) (by omega)]
    simp only [sbt]
    rw [show ((0 : Int) != 0) = false by decide]
    simp only [cond_false]
    rw [sub1 ps[s + 1].1 ps[s].1 (by omega) (by omega)]
    simp only [sbt]
    rw [show ((0 : Int) != 0) = false by decide]
    simp only [cond_false]
    rw [e2]
    simp only [sbt]
    rw [show ((0 : Int) != 0) = false by decide]
    simp only [cond_false]
    rw [sub1 m ps[s].1 (by omega) (by omega)]
    simp only [sbt]
    rw [show ((0 : Int) != 0) = false by decide]
    simp only [cond_false]
    rw [Mul_eq, e3]
    simp only [sbt]
    rw [show ((0 : Int) != 0) = false by decide]
    simp only [cond_false]
    rw [Add_eq, e4]
    simp only [sbt]
  · have := vz.e
    unfold dX dY
    simp only [Int.one_mul, Int.mul_one] at this
    exact this
theorem conv_ok (ps : List (Int × Int)) (h : CO ps) (m : Int) (m0 : 0 ≤ m) (m1 : m ≤ 200) : ∃ z s, ∃ hs : s + 1 < ps.length, conversion_Convert (cv ps) m 200 = some (imin (imax (roundR z) 0) 200, 0) ∧ Ev ps m z s hs := by
  obtain ⟨z, s, hs, e, he⟩ := eval_ok ps h m m0 m1
  refine ⟨z, s, hs, ?_, he⟩
  unfold conversion_Convert conversion_whole conversion_Eval
  rw [show ((((decide (m < (0 : Int))) || (decide ((200 : Int) < m))) || (decide ((200 : Int) < (0 : Int)))) || (decide ((200 : Int) < 200))) = false by simp; omega, cond_false, sbt, cvalid ps h, sbt, Valid_eq, v_one m (by omega) (by omega)]
  simp only [Option.isSome_some, implies_true, req_true, Option.getD_some, Bool.not_true, Bool.or_self, cond_false]
  unfold cv
  dsimp only
  rw [e, sbt, sbt]
  dsimp only
  rw [show ((0 : Int) != 0) = false by decide, cond_false, Round_eq, he.v]
  rfl
theorem up_le (ps : List (Int × Int)) (h : CO ps) : ∀ (n i j : Nat), j - i = n → i ≤ j → ∀ (hj : j < ps.length) (hi : i < ps.length), ps[i].1 ≤ ps[j].1 ∧ ps[i].2 ≤ ps[j].2 := by
  intro n
  induction n with
  | zero => intro i j h1 h2 hj hi; have : i = j := by omega
            subst this; exact ⟨Int.le_refl _, Int.le_refl _⟩
  | succ n ih =>
    intro i j h1 h2 hj hi
    obtain ⟨k, rfl⟩ : ∃ k, j = k + 1 := ⟨j - 1, by omega⟩
    have := ih i k (by omega) (by omega) (by omega) hi
    have := h.up k hj
    omega
theorem ev_mono (ps : List (Int × Int)) (h : CO ps) (m m' : Int) (hm : m ≤ m') (z z' : api_Ratio) (s s' : Nat) (hs : s + 1 < ps.length) (hs' : s' + 1 < ps.length) (e : Ev ps m z s hs) (e' : Ev ps m' z' s' hs') : z.Num * z'.Den ≤ z'.Num * z.Den := by
  have d0 : 0 < z.Den := by have := (vd_of e.v).d0; omega
  have d0' : 0 < z'.Den := by have := (vd_of e'.v).d0; omega
  have hu := h.up s hs
  have hu' := h.up s' hs'
  have x0 : 0 < dX ps s hs := by unfold dX; omega
  have x0' : 0 < dX ps s' hs' := by unfold dX; omega
  have y0 : 0 < dY ps s hs := by unfold dY; omega
  have y0' : 0 < dY ps s' hs' := by unfold dY; omega
  rcases Nat.lt_trichotomy s s' with hlt | heq | hgt
  · have a1 := e.hi (by omega)
    have a2 := e'.lo (by omega)
    have a3 := (up_le ps h _ (s + 1) s' rfl (by omega) (by omega) hs).2
    -- below: z ≤ Y
    have b1 : z.Num ≤ ps[s + 1].2 * z.Den := by
      refine Int.le_of_mul_le_mul_right (a := dX ps s hs) ?_ x0
      rw [e.e, Int.mul_right_comm]
      refine Int.mul_le_mul_of_nonneg_right ?_ (by omega)
      have c1 : (m - ps[s].1) * dY ps s hs ≤ dX ps s hs * dY ps s hs := Int.mul_le_mul_of_nonneg_right (by unfold dX; omega) (by omega)
      have c2 : ps[s + 1].2 * dX ps s hs = ps[s].2 * dX ps s hs + dX ps s hs * dY ps s hs := by
        rw [show ps[s + 1].2 = ps[s].2 + dY ps s hs by unfold dY; omega, Int.add_mul, Int.mul_comm (dY ps s hs)]
      omega
    have b2 : ps[s'].2 * z'.Den ≤ z'.Num := by
      refine Int.le_of_mul_le_mul_right (a := dX ps s' hs') ?_ x0'
      rw [e'.e, Int.mul_right_comm]
      refine Int.mul_le_mul_of_nonneg_right ?_ (by omega)
      have c1 : 0 ≤ (m' - ps[s'].1) * dY ps s' hs' := Int.mul_nonneg (by omega) (by omega)
      omega
    have b3 := Int.mul_le_mul_of_nonneg_right b1 (show 0 ≤ z'.Den by omega)
    have b4 := Int.mul_le_mul_of_nonneg_right b2 (show 0 ≤ z.Den by omega)
    have b5 : ps[s + 1].2 * z.Den * z'.Den ≤ ps[s'].2 * z.Den * z'.Den := Int.mul_le_mul_of_nonneg_right (Int.mul_le_mul_of_nonneg_right a3 (by omega)) (by omega)
    rw [Int.mul_right_comm ps[s'].2 z'.Den z.Den] at b4
    omega
  · subst heq
    refine Int.le_of_mul_le_mul_right (a := dX ps s hs) ?_ x0
    have c1 : z.Num * z'.Den * dX ps s hs = (ps[s].2 * dX ps s hs + (m - ps[s].1) * dY ps s hs) * z.Den * z'.Den := by
      rw [Int.mul_right_comm, e.e]
    have c2 : z'.Num * z.Den * dX ps s hs = (ps[s].2 * dX ps s hs + (m' - ps[s].1) * dY ps s hs) * z.Den * z'.Den := by
      rw [Int.mul_right_comm, e'.e, Int.mul_right_comm]
    rw [c1, c2]
    refine Int.mul_le_mul_of_nonneg_right (Int.mul_le_mul_of_nonneg_right ?_ (by omega)) (by omega)
    have := Int.mul_le_mul_of_nonneg_right (show m - ps[s].1 ≤ m' - ps[s].1 by omega) (show 0 ≤ dY ps s hs by omega)
    omega
  · exfalso
    have a1 := e.lo (by omega)
    have a2 := e'.hi (by omega)
    have a3 := (up_le ps h _ (s' + 1) s rfl (by omega) (by omega) hs').1
    omega
noncomputable def cf (ps : List (Int × Int)) (m : Nat) : Int := ((conversion_Convert (cv ps) (m : Int) 200).getD default).1
theorem cf_eq (ps : List (Int × Int)) (h : CO ps) (m : Nat) (hm : m ≤ 200) : conversion_Convert (cv ps) (m : Int) 200 = some (cf ps m, 0) ∧ 0 ≤ cf ps m ∧ cf ps m ≤ 200 := by
  obtain ⟨z, s, hs, e, _⟩ := conv_ok ps h m (by omega) (by omega)
  unfold cf
  rw [e]
  refine ⟨rfl, ?_, ?_⟩
  · show 0 ≤ imin (imax (roundR z) 0) 200
    unfold imin imax; split <;> (try split) <;> omega
  · show imin (imax (roundR z) 0) 200 ≤ 200
    unfold imin imax; split <;> (try split) <;> omega
theorem cf_mono (ps : List (Int × Int)) (h : CO ps) (m m' : Nat) (hm : m ≤ m') (h2 : m' ≤ 200) : cf ps m ≤ cf ps m' := by
  obtain ⟨z, s, hs, e, he⟩ := conv_ok ps h m (by omega) (by omega)
  obtain ⟨z', s', hs', e', he'⟩ := conv_ok ps h m' (by omega) (by omega)
  have := round_mono he.v he'.v (ev_mono ps h m m' (by omega) z z' s s' hs hs' he he')
  unfold cf
  rw [e, e']
  show imin (imax (roundR z) 0) 200 ≤ imin (imax (roundR z') 0) 200
  unfold imin imax
  (repeat' split) <;> omega
/-! ### Transfer -/
theorem rep_len (n : Nat) (x : Int) : (rep (n : Int) x).length = n := by simp [rep]
theorem l6_ok (ps : List (Int × Int)) (h : CO ps) (top : Nat) (ht : top ≤ 200) : ∀ (n k : Nat) (W : List Int), top + 1 - k = n → k ≤ top + 1 → W.length = top + 1 → (∀ i (hi : i < W.length), i < k → W[i] = cf ps i) →
    ∃ R : List Int, iter (boundary_Transfer_l6 (cv ps) (top : Int)) ((k : Int), W) = some (.inl R) ∧ R.length = top + 1 ∧ ∀ i (hi : i < R.length), R[i] = cf ps i := by
  intro n
  induction n with
  | zero =>
    intro k W h1 h2 h3 h4
    have : k = top + 1 := by omega
    subst this
    refine ⟨W, iter_inr ?_, h3, fun i hi => h4 i hi (by omega)⟩
    simp only [boundary_Transfer_l6]
    rw [i64_add1 top (by omega), rep_len, show decide (((top + 1 : Nat) : Int) < ((top + 1 : Nat) : Int)) = false by simp, cond_false]
  | succ n ih =>
    intro k W h1 h2 h3 h4
    have hs : boundary_Transfer_l6 (cv ps) (top : Int) ((k : Int), W) = some (.inl (((k + 1 : Nat) : Int), setI W (k : Int) (cf ps k))) := by
      simp only [boundary_Transfer_l6]
      rw [i64_add1 top (by omega), rep_len, show decide ((k : Int) < ((top + 1 : Nat) : Int)) = true by simp only [decide_eq_true_eq]; omega, cond_true, (cf_eq ps h k (by omega)).1, sbt]
      dsimp only
      rw [show ((0 : Int) != 0) = false by decide, cond_false, req_pos (by omega), i64_add1 k (by omega)]
    rw [iter_inl hs]
    refine ih (k + 1) _ (by omega) (by omega) (by rw [setI_len]; exact h3) (fun i hi hik => ?_)
    rw [setI_get]
    split
    · rename_i e; subst e; rfl
    · exact h4 i (by rw [setI_len] at hi; exact hi) (by omega)
def fx (R : List Int) (x : Int) : Nat := R.findIdx (fun c => decide (x ≤ c))
theorem l3_ok (b : List Int) (top : Nat) (R : List Int) (hR : R.length = top + 1) (ht : top ≤ 200) (v : Nat) (hv : v < b.length) : ∀ (n j : Nat) (W : List Int), fx R b[v] - j = n → j ≤ fx R b[v] → W.length = b.length → (∀ hw : v < W.length, W[v] = j) →
    ∃ W' : List Int, iter (boundary_Transfer_l3 b (top : Int) R (v : Int)) W = some W' ∧ W'.length = b.length ∧ (∀ i (hi : i < W'.length) (hi2 : i < W.length), i ≠ v → W'[i] = W[i]) ∧ ∀ hw : v < W'.length, W'[v] = (fx R b[v] : Int) := by
  have hfl : fx R b[v] ≤ top + 1 := by rw [← hR]; exact List.findIdx_le_length
  intro n
  induction n with
  | zero =>
    intro j W h1 h2 h3 h4
    have hj : j = fx R b[v] := by omega
    have hw : v < W.length := by omega
    refine ⟨W, iter_inr ?_, h3, fun _ _ _ _ => rfl, fun _ => by rw [h4 hw, hj]⟩
    simp only [boundary_Transfer_l3]
    rw [ix_nat W v hw, h4 hw, req_pos ⟨by omega, fun _ => by omega, fun hh => by
      have : (j : Int) ≤ (top : Int) := by simpa using hh
      omega⟩]
    by_cases hc : j ≤ top
    · have hjl : j < R.length := by omega
      have : b[v] ≤ R[j] := by
        have := List.findIdx_getElem (w := by show fx R b[v] < R.length; omega) (p := fun c => decide (b[v] ≤ c)) (xs := R)
        have h5 : decide (b[v] ≤ R[fx R b[v]]'(by omega)) = true := this
        simp only [← hj] at h5
        simpa using h5
      rw [ix_nat b v hv, ix_nat R j hjl, show decide (R[j] < b[v]) = false by simp only [decide_eq_false_iff_not]; omega, Bool.and_false, cond_false]
    · rw [show decide ((j : Int) ≤ (top : Int)) = false by simp only [decide_eq_false_iff_not]; omega, Bool.false_and, cond_false]
  | succ n ih =>
    intro j W h1 h2 h3 h4
    have hw : v < W.length := by omega
    have hjl : j < R.length := by omega
    have hlt : R[j] < b[v] := by
      have : j < R.findIdx (fun c => decide (b[v] ≤ c)) := by show j < fx R b[v]; omega
      have := List.not_of_lt_findIdx this
      simp at this; exact this
    have hs : boundary_Transfer_l3 b (top : Int) R (v : Int) W = some (.inl (setI W (v : Int) ((j + 1 : Nat) : Int))) := by
      simp only [boundary_Transfer_l3]
      rw [ix_nat W v hw, h4 hw, req_pos ⟨by omega, fun _ => by omega, fun _ => by omega⟩, ix_nat b v hv, ix_nat R j hjl, show decide ((j : Int) ≤ (top : Int)) = true by simp only [decide_eq_true_eq]; omega, show decide (R[j] < b[v]) = true by simpa using hlt, Bool.and_self, cond_true, req_pos (by omega), i64_add1 j (by omega)]
    rw [iter_inl hs]
    obtain ⟨W', g1, g2, g3, g4⟩ := ih (j + 1) (setI W (v : Int) ((j + 1 : Nat) : Int)) (by omega) (by omega) (by rw [setI_len]; exact h3) (fun hw => by rw [setI_get, if_pos rfl])
    refine ⟨W', g1, g2, fun i hi hi2 hne => ?_, g4⟩
    rw [g3 i hi (by rw [setI_len]; exact hi2) hne, setI_get, if_neg (fun e => hne e.symm)]
theorem l4_ok (b : List Int) (top : Nat) (R : List Int) (hR : R.length = top + 1) (ht : top ≤ 200) (hb : b.length ≤ 1000) : ∀ (n v : Nat) (W : List Int), b.length - v = n → v ≤ b.length → W.length = b.length → (∀ i (hi : i < W.length) (hb : i < b.length), i < v → W[i] = (fx R b[i] : Int)) → (∀ i (hi : i < W.length), v ≤ i → W[i] = 0) →
    iter (boundary_Transfer_l4 b (top : Int) R) ((v : Int), W) = some (b.map fun x => (fx R x : Int)) := by
  intro n
  induction n with
  | zero =>
    intro v W h1 h2 h3 h4 h5
    have : v = b.length := by omega
    subst this
    have hW : W = b.map fun x => (fx R x : Int) := by
      refine List.ext_getElem (by simp [h3]) (fun i hi hi2 => ?_)
      rw [List.getElem_map]
      exact h4 i hi (by omega) (by omega)
    rw [← hW]
    exact iter_inr (by simp [boundary_Transfer_l4])
  | succ n ih =>
    intro v W h1 h2 h3 h4 h5
    have hv : v < b.length := by omega
    obtain ⟨W', g1, g2, g3, g4⟩ := l3_ok b top R hR ht v hv _ 0 W rfl (by omega) h3 (fun hw => h5 v hw (Nat.le_refl _))
    have hs : boundary_Transfer_l4 b (top : Int) R ((v : Int), W) = some (.inl (((v + 1 : Nat) : Int), W')) := by
      simp only [boundary_Transfer_l4, boundary_Transfer_j2]
      rw [show decide ((v : Int) < (b.length : Int)) = true by simp; exact hv, cond_true, req_pos (by omega), g1, sbt, i64_add1 v (by omega)]
    rw [iter_inl hs]
    refine ih (v + 1) W' (by omega) (by omega) g2 (fun i hi hi2 hlt => ?_) (fun i hi hle => ?_)
    · by_cases e : i = v
      · subst e; exact g4 hi
      · rw [g3 i hi (by omega) e]; exact h4 i (by omega) hi2 (by omega)
    · rw [g3 i hi (by omega) (by omega)]; exact h5 i (by omega) (by omega)
theorem transfer_ok (ps : List (Int × Int)) (h : CO ps) (b : List Int) (hb : Bd b 200) (top : Nat) (ht : top ≤ 200) :
    ∃ R : List Int, R.length = top + 1 ∧ (∀ i (hi : i < R.length), R[i] = cf ps i) ∧ boundary_Transfer b (cv ps) (top : Int) = some (b.map (fun x => (fx R x : Int)), 0) := by
  have b1 := hb.hi
  obtain ⟨R, g1, g2, g3⟩ := l6_ok ps h top ht _ 0 (rep ((top + 1 : Nat) : Int) 0) rfl (by omega) (by rw [rep_len]) (fun i _ hi => absurd hi (by omega))
  refine ⟨R, g2, g3, ?_⟩
  unfold boundary_Transfer
  rw [show boundary_isScore (top : Int) = some (decide (0 ≤ (top : Int)) && decide ((top : Int) ≤ 200)) from rfl, sbt, show (!(decide (0 ≤ (top : Int)) && decide ((top : Int) ≤ 200))) = false by simp; omega, cond_false, Check_eq b 200 hb (by decide) (by decide), sbt, show ((0 : Int) != 0) = false by decide, cond_false, i64_add1 top (by omega), req_pos (by omega)]
  have g1' : iter (boundary_Transfer_l6 (cv ps) (top : Int)) ((0 : Int), (rep ((top + 1 : Nat) : Int) (0 : Int))) = _ := g1
  rw [g1', sbt]
  dsimp only
  unfold boundary_Transfer_j5 boundary_Transfer_j1
  rw [req_pos (by omega)]
  have h4 := l4_ok b top R g2 ht (by omega) _ 0 (rep (b.length : Int) 0) rfl (by omega) (by rw [rep_len]) (fun i _ _ hi => absurd hi (by omega)) (fun i hi _ => by simp [rep])
  have h4' : iter (boundary_Transfer_l4 b (top : Int) R) ((0 : Int), (rep (b.length : Int) (0 : Int))) = _ := h4
  rw [h4', sbt]
theorem fx_le (R : List Int) (x y : Int) (h : x ≤ y) : fx R x ≤ fx R y := by
  unfold fx
  rcases Nat.lt_or_ge (R.findIdx fun c => decide (y ≤ c)) (R.findIdx fun c => decide (x ≤ c)) with g | g
  · exfalso
    have hl : (R.findIdx fun c => decide (y ≤ c)) < R.length := Nat.lt_of_lt_of_le g List.findIdx_le_length
    have h1 := List.not_of_lt_findIdx g
    have h2 := List.findIdx_getElem (w := hl) (p := fun c => decide (y ≤ c)) (xs := R)
    simp at h1 h2
    omega
  · exact g
theorem pure_BoundaryTransfers (t : List Int) (most : Int) (hm : 0 ≤ most ∧ most < 256) : law35_BoundaryTransfers t most = some true := by
  unfold law35_BoundaryTransfers
  rw [light_eq, sbt]
  by_cases ht : (t.length : Int) ≤ 600
  · rw [show (!(decide ((t.length : Int) ≤ 600))) = false by simpa using ht, cond_false]
    obtain ⟨d0, r0, k0⟩ := dRoll t (by omega)
    rw [r0, sbt]
    obtain ⟨ps, d1, r1, k1, hc⟩ := dCurve d0 k0
    rw [r1, sbt]
    dsimp only
    obtain ⟨b, d2, r2, k2, hb⟩ := dBounds d1 40 k1 (by decide) (by decide)
    rw [r2, sbt]
    dsimp only
    have hk0 : 0 ≤ Int.tmod most 30 := Int.tmod_nonneg _ hm.1
    have hk1 : Int.tmod most 30 < 30 := Int.tmod_lt_of_pos _ (by decide)
    obtain ⟨top, htop⟩ : ∃ top : Nat, IntKind.i64.wrap (Int.tmod most 30) = (top : Int) ∧ top < 30 := ⟨(Int.tmod most 30).toNat, by rw [wrap64 (by omega) (by omega)]; omega, by omega⟩
    obtain ⟨htop, ht30⟩ := htop
    have hb2 : Bd b 200 := ⟨hb.lo, hb.hi, fun x hx => by have := hb.r x hx; omega, hb.dn⟩
    obtain ⟨R, hR, hRc, hT⟩ := transfer_ok ps hc b hb2 top (by omega)
    rw [htop, hT, sbt]
    dsimp only
    have b0 := hb.lo; have b1 := hb.hi
    have hl : Bd (b.map fun x => (fx R x : Int)) (top : Int) := by
      refine ⟨by simpa using b0, by simpa using b1, fun x hx => ?_, fun i j hi hj hij => ?_⟩
      · obtain ⟨y, _, rfl⟩ := List.mem_map.1 hx
        have : fx R y ≤ R.length := List.findIdx_le_length
        omega
      · simp only [List.getElem_map]
        have := fx_le R _ _ (hb.dn i j (by simpa using hi) (by simpa using hj) hij)
        omega
    rw [Check_eq _ (top : Int) hl (by omega) (by omega)]
    simp only [Option.isSome_some, implies_true, req_true, Option.getD_some, List.length_map]
    rw [show ((((0 : Int) != 0) || ((b.length : Int) != (b.length : Int))) || ((0 : Int) != 0)) = false by simp, cond_false]
    have hgr : ∀ m : Nat, m ≤ top → gr (b.map fun x => (fx R x : Int)) (m : Int) = gr b (cf ps m) := by
      intro m hmt
      unfold gr
      rw [List.findIdx_map]
      congr 1
      funext x
      show decide ((fx R x : Int) ≤ (m : Int)) = decide (x ≤ cf ps m)
      rw [Bool.eq_iff_iff, decide_eq_true_eq, decide_eq_true_eq]
      have hml : m < R.length := by omega
      constructor
      · intro hle
        have hfl : fx R x < R.length := by omega
        have h2 := List.findIdx_getElem (w := hfl) (p := fun c => decide (x ≤ c)) (xs := R)
        have h2' : decide (x ≤ R[fx R x]) = true := h2
        have h3 : x ≤ R[fx R x] := by simpa using h2'
        rw [hRc] at h3
        have := cf_mono ps hc (fx R x) m (by omega) (by omega)
        omega
      · intro hle
        rcases Nat.lt_or_ge m (fx R x) with g | g
        · exfalso
          have h5 := List.not_of_lt_findIdx (p := fun c => decide (x ≤ c)) (xs := R) g
          simp at h5
          rw [hRc m hml] at h5
          omega
        · omega
    have key : ∀ (n m : Nat), top + 1 - m = n → m ≤ top + 1 → iter (law35_BoundaryTransfers_l2 most (cv ps) b (b.map fun x => (fx R x : Int))) (m : Int) = some (.inl ()) := by
      intro n
      induction n with
      | zero =>
        intro m h1 h2
        refine iter_inr ?_
        simp only [law35_BoundaryTransfers_l2]
        rw [htop, show decide ((m : Int) ≤ (top : Int)) = false by simp only [decide_eq_false_iff_not]; omega, cond_false]
      | succ n ih =>
        intro m h1 h2
        have hs : law35_BoundaryTransfers_l2 most (cv ps) b (b.map fun x => (fx R x : Int)) (m : Int) = some (.inl ((m + 1 : Nat) : Int)) := by
          simp only [law35_BoundaryTransfers_l2]
          rw [htop, show decide ((m : Int) ≤ (top : Int)) = true by simp only [decide_eq_true_eq]; omega, cond_true, (cf_eq ps hc m (by omega)).1, sbt]
          dsimp only
          rw [Grade_eq _ _ (by rw [List.length_map]; omega), Grade_eq _ _ (by omega), hgr m (by omega)]
          simp only [Option.isSome_some, implies_true, and_self, req_true, Option.getD_some]
          rw [show (((0 : Int) != 0) || (((gr b (cf ps m) : Nat) : Int) != ((gr b (cf ps m) : Nat) : Int))) = false by simp, cond_false, i64_add1 m (by omega)]
        rw [iter_inl hs]
        exact ih (m + 1) (by omega) (by omega)
    have h0 : iter (law35_BoundaryTransfers_l2 most (cv ps) b (b.map fun x => (fx R x : Int))) (0 : Int) = _ := key _ 0 rfl (by omega)
    rw [h0, sbt]
    dsimp only
    unfold law35_BoundaryTransfers_j1
    rw [sane_eq]; rfl
  · rw [show (!(decide ((t.length : Int) ≤ 600))) = true by simpa using ht, cond_true, sane_eq]
    rfl
end Go.LS
