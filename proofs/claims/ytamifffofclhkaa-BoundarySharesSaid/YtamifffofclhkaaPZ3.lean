/-
  Boundaries: the reference's method in closed form.
  Conditions: Sm (few scores, small counts), Bd (falling boundaries).
-/
import Derived.Test.YtamifffofclhkaaPZ2
namespace Go.LS
set_option linter.all false
set_option linter.unusedSimpArgs false
set_option linter.unusedVariables false
set_option maxRecDepth 20000

/-- the score that is nearest from below, over the first k scores -/
def nr (Y : Nat → Int) (N D : Int) : Nat → Nat
  | 0 => 0
  | k + 1 => if Y k < Y (nr Y N D k) ∧ N * (2 * Y 0) < (Y k + Y (nr Y N D k)) * D then k else nr Y N D k
theorem nr_le (Y : Nat → Int) (N D : Int) : ∀ k, nr Y N D k ≤ k - 1
  | 0 => by simp [nr]
  | k + 1 => by
    have := nr_le Y N D k
    simp only [nr]
    split <;> omega
theorem nr_scale (Y : Nat → Int) (N D c : Int) (hc : 0 < c) : ∀ k, nr (fun j => c * Y j) N D k = nr Y N D k
  | 0 => rfl
  | k + 1 => by
    simp only [nr, nr_scale Y N D c hc k]
    have e1 : (c * Y k < c * Y (nr Y N D k)) ↔ (Y k < Y (nr Y N D k)) := ⟨fun h => Int.lt_of_mul_lt_mul_left h (by omega), fun h => Int.mul_lt_mul_of_pos_left h hc⟩
    have e2 : (N * (2 * (c * Y 0)) < (c * Y k + c * Y (nr Y N D k)) * D) ↔ (N * (2 * Y 0) < (Y k + Y (nr Y N D k)) * D) := by
      rw [show N * (2 * (c * Y 0)) = c * (N * (2 * Y 0)) by grind, show (c * Y k + c * Y (nr Y N D k)) * D = c * ((Y k + Y (nr Y N D k)) * D) by grind]
      exact ⟨fun h => Int.lt_of_mul_lt_mul_left h (by omega), fun h => Int.mul_lt_mul_of_pos_left h hc⟩
    simp only [e1, e2]
theorem rc_anti (d : api_Distribution) (h : Sm d) (i j : Nat) (hij : i ≤ j) : rc d j ≤ rc d i := by
  induction hij with
  | refl => exact Int.le_refl _
  | @step m hm ih =>
    show rc d (m + 1) ≤ rc d i
    rcases Nat.lt_or_ge m d.Counts.length with hlt | hge
    · have := rc_succ d m hlt
      have := h.c _ (List.getElem_mem hlt)
      omega
    · have e : rc d (m + 1) = rc d m := by unfold rc; rw [List.drop_eq_nil_of_le (by omega), List.drop_eq_nil_of_le (by omega)]
      omega
theorem rc_0 (d : api_Distribution) : rc d 0 = count d := by simp [rc, count]
theorem cmpI_pos (x y : Int) : (0 < cmpI x y) ↔ y < x := by unfold cmpI; split <;> (try split) <;> omega
theorem Nearest_eq (d : api_Distribution) (share : api_Ratio) (h : Sm d) (hc : 0 < count d) (hv : vR share = true) : boundary_nearest d share = some (nr (rc d) share.Num share.Den (d.Counts.length + 1) : Int) := by
  have h1 := h.lo; have h2 := h.hi
  unfold boundary_nearest boundary_nearest_j1
  rw [reach_eq d h]
  simp only [Option.bind]
  have hl := RC_len d
  have hd := (vR_iff share).1 hv
  have key : ∀ (n k : Nat), d.Counts.length + 1 - k = n → k ≤ d.Counts.length + 1 → iter (boundary_nearest_l3 share (RC d)) ((nr (rc d) share.Num share.Den k : Int), (k : Int)) = some (nr (rc d) share.Num share.Den (d.Counts.length + 1) : Int) := by
    intro n
    induction n with
    | zero =>
      intro k hn hk
      have : k = d.Counts.length + 1 := by omega
      subst this
      exact iter_inr (by
        simp only [boundary_nearest_l3]
        rw [show decide (((d.Counts.length + 1 : Nat) : Int) < ((RC d).length : Int)) = false by simp [hl], cond_false])
    | succ n ih =>
      intro k hn hk
      have hb := nr_le (rc d) share.Num share.Den k
      have hk' : k ≤ d.Counts.length := by omega
      have step : boundary_nearest_l3 share (RC d) ((nr (rc d) share.Num share.Den k : Int), (k : Int)) = some (.inl ((nr (rc d) share.Num share.Den (k + 1) : Int), ((k + 1 : Nat) : Int))) := by
        simp only [boundary_nearest_l3, boundary_nearest_j2, nr]
        generalize nr (rc d) share.Num share.Den k = b at *
        have r1 := h.rc k; have r2 := h.rc b; have r3 := h.rc 0
        have hc0 : 0 < rc d 0 := by rw [rc_0]; exact hc
        rw [show decide ((k : Int) < ((RC d).length : Int)) = true by simp [hl]; omega, cond_true, req_pos (by omega), RC_ix d k hk', RC_ix d b (by omega), show ix (RC d) (0 : Int) = rc d 0 from RC_ix d 0 (by omega), wrap64 (n := rc d k + rc d b) (by omega) (by omega), wrap64 (n := 2 * rc d 0) (by omega) (by omega), cs_eq _ _ _ ⟨by omega, by omega⟩ ⟨by omega, by omega⟩]
        obtain ⟨r, er, vr, qr, dr⟩ := newOf_ok (rc d k + rc d b) (2 * rc d 0) (by omega) (by omega) (by omega) (by omega)
        rw [er]
        simp only [Option.getD, Option.isSome]
        rw [cmpR_new r share _ _ share.Num share.Den vr hv qr rfl dr (by omega) (by omega) (by omega)]
        rw [req_pos (by rw [hl]; simp; omega), i64_add1 k (by omega)]
        by_cases c1 : rc d k < rc d b
        · by_cases c2 : share.Num * (2 * rc d 0) < (rc d k + rc d b) * share.Den
          · rw [if_pos ⟨c1, c2⟩, show decide (rc d k < rc d b) = true by simpa using c1, show decide ((0 : Int) < cmpI ((rc d k + rc d b) * share.Den) (share.Num * (2 * rc d 0))) = true by simp only [decide_eq_true_eq]; exact (cmpI_pos _ _).2 c2]; rfl
          · rw [if_neg (fun x => c2 x.2), show decide ((0 : Int) < cmpI ((rc d k + rc d b) * share.Den) (share.Num * (2 * rc d 0))) = false by simp only [decide_eq_false_iff_not]; exact fun x => c2 ((cmpI_pos _ _).1 x), Bool.and_false]; rfl
        · rw [if_neg (fun x => c1 x.1), show decide (rc d k < rc d b) = false by simpa using c1, Bool.false_and]; rfl
      rw [iter_inl step, ih (k + 1) (by omega) (by omega)]
  have := key _ 0 rfl (by omega)
  rw [show ((nr (rc d) share.Num share.Den 0 : Nat) : Int) = 0 from rfl, show ((0 : Nat) : Int) = 0 from rfl] at this
  rw [this]
/-- the share that a boundary has in the reference -/
def sh (ref : api_Distribution) (x : Int) : api_Ratio := (newOf (rc ref x.toNat) (rc ref 0)).1
def nn (d ref : api_Distribution) (x : Int) : Nat := nr (rc d) (sh ref x).Num (sh ref x).Den (d.Counts.length + 1)
def og (d ref : api_Distribution) (b : List Int) : Nat → Int
  | 0 => nn d ref (b.getD 0 0)
  | v + 1 => min (nn d ref (b.getD (v + 1) 0) : Int) (og d ref b v)
def OG (d ref : api_Distribution) (b : List Int) : List Int := (List.range b.length).map (og d ref b)
theorem setI_setI (w : List Int) (v : Int) (x z : Int) : setI (setI w v x) v z = setI w v z := by simp [setI, List.set_set]
theorem Ref_eq (d ref : api_Distribution) (b : List Int) (h : Sm d) (hr : Sm ref) (hc : 0 < count d) (hcr : 0 < count ref) (hb : Bd b ((ref.Counts.length : Int) - 1)) : boundary_Reference d ref b = some (OG d ref b, 0) := by
  have h1 := hr.lo; have h2 := hr.hi; have h3 := hb.lo; have h4 := hb.hi; have h5 := h.hi
  unfold boundary_Reference
  rw [dValid d h, dValid ref hr]
  simp only [Option.bind]
  rw [req_pos (by simp)]
  simp only [Option.getD, Bool.not_true, Bool.or_self, cond_false]
  rw [dCount d h, dCount ref hr]
  simp only []
  rw [req_pos (by simp), show ((count d == 0) || (count ref == 0)) = false by simp; omega, cond_false, greatest_eq ref hr]
  simp only []
  rw [Check_eq b _ hb (by omega) (by omega)]
  simp only []
  rw [show ((0 : Int) != 0) = false by simp, cond_false, reach_eq ref hr]
  simp only []
  rw [req_pos (by omega)]
  have hl := RC_len ref
  rw [iter_fill b.length (boundary_Reference_l3 d b (RC ref)) (og d ref b) (fun w => .inl w) ?_ ?_]
  · rfl
  · intro k w hk hlw hw
    simp only [boundary_Reference_l3, boundary_Reference_j2, bindV]
    have eb : ix b (k : Int) = b[k] := ix_nat _ _ hk
    have ebd : b.getD k 0 = b[k] := by simp [List.getD, hk]
    have hr1 := hb.r _ (List.getElem_mem hk)
    have ey : ix (RC ref) b[k] = rc ref b[k].toNat := by
      have := RC_ix ref b[k].toNat (by omega)
      rwa [show ((b[k].toNat : Nat) : Int) = b[k] by omega] at this
    have r1 := hr.rc b[k].toNat; have r3 := hr.rc 0
    have hc0 : 0 < rc ref 0 := by rw [rc_0]; exact hcr
    obtain ⟨r, er, vr, qr, dr⟩ := newOf_ok (rc ref b[k].toNat) (rc ref 0) (by omega) (by omega) (by omega) (by omega)
    have esh : sh ref b[k] = r := by simp [sh, er]
    rw [show decide ((k : Int) < (b.length : Int)) = true by simp; omega, cond_true, req_pos (by omega), eb, req_pos (by omega), ey, show ix (RC ref) (0 : Int) = rc ref 0 from RC_ix ref 0 (by omega), New_eq _ _ ⟨by omega, by omega⟩ ⟨by omega, by omega⟩, er]
    simp only [Option.bind]
    rw [show ((0 : Int) != 0) = false by simp, cond_false, Nearest_eq d r h hc vr]
    simp only []
    rw [req_pos (by omega), i64_add1 k (by omega)]
    have enn : nr (rc d) r.Num r.Den (d.Counts.length + 1) = nn d ref b[k] := by simp [nn, esh]
    rw [enn]
    cases k with
    | zero =>
      rw [show decide ((0 : Int) < ((0 : Nat) : Int)) = false by simp, cond_false]
      simp only [og, ebd]
    | succ k =>
      rw [show decide ((0 : Int) < ((k + 1 : Nat) : Int)) = true from decide_eq_true (by omega), cond_true, show IntKind.i64.wrap (((k + 1 : Nat) : Int) - 1) = (k : Int) by rw [wrap64 (by omega) (by omega)]; omega]
      rw [req_pos (by omega), setI_setI]
      have x1 : ix (setI w ((k + 1 : Nat) : Int) (nn d ref b[k + 1] : Int)) ((k + 1 : Nat) : Int) = nn d ref b[k + 1] := by
        rw [ix_nat _ _ (by rw [setI_len]; omega), setI_get, if_pos rfl]
      have x2 : ix (setI w ((k + 1 : Nat) : Int) (nn d ref b[k + 1] : Int)) (k : Int) = og d ref b k := by
        rw [ix_nat _ _ (by rw [setI_len]; omega), setI_get, if_neg (by omega)]
        exact hw k (by omega) (by omega)
      rw [x1, x2]
      simp only [og, ebd, imin]
      rw [show (if og d ref b k < (nn d ref b[k + 1] : Int) then og d ref b k else (nn d ref b[k + 1] : Int)) = min (nn d ref b[k + 1] : Int) (og d ref b k) by split <;> omega]
  · intro w hlw
    simp [boundary_Reference_l3]
end Go.LS
