/-
  Boundaries: grades, checks, the sane examples, and the law of the interpolated boundaries.
  Conditions: Sm (few scores, small counts).
-/
import Derived.Test.YtamifffofclhkaaPY
namespace Go.LS
set_option linter.all false
set_option linter.unusedSimpArgs false
set_option linter.unusedVariables false
set_option maxRecDepth 20000

/-- a loop over a list that looks for the first place where p holds -/
theorem iter_scanI {α ρ : Type} (l : List α) (f : Int → Option (Int ⊕ ρ)) (p : α → Bool) (hit : Nat → ρ) (miss : ρ)
    (hstep : ∀ (k : Nat) (hk : k < l.length), f (k : Int) = some (if p l[k] = true then .inr (hit k) else .inl ((k + 1 : Nat) : Int)))
    (hend : f (l.length : Int) = some (.inr miss)) : iter f (0 : Int) = some (if l.findIdx p < l.length then hit (l.findIdx p) else miss) := by
  have key : ∀ (n k : Nat), l.length - k = n → k ≤ l.findIdx p → iter f (k : Int) = some (if l.findIdx p < l.length then hit (l.findIdx p) else miss) := by
    intro n
    induction n with
    | zero =>
      intro k hn hk
      have h1 : l.findIdx p ≤ l.length := List.findIdx_le_length
      have : k = l.length := by omega
      subst this
      rw [iter_inr hend, if_neg (by omega)]
    | succ n ih =>
      intro k hn hk
      have hk' : k < l.length := by omega
      have h1 := hstep k hk'
      cases hp : p l[k] with
      | true =>
        rw [hp, if_pos rfl] at h1
        have e : l.findIdx p = k := by
          rcases Nat.lt_or_ge k (l.findIdx p) with hlt | hge
          · exact absurd (List.not_of_lt_findIdx hlt) (by simp [hp])
          · omega
        rw [iter_inr h1, e, if_pos hk']
      | false =>
        rw [hp, if_neg (by simp)] at h1
        rw [iter_inl h1]
        apply ih (k + 1) (by omega)
        rcases Nat.lt_or_ge k (l.findIdx p) with hlt | hge
        · exact hlt
        · have e : l.findIdx p = k := by omega
          have := List.findIdx_getElem (w := by rw [e]; exact hk') (p := p) (xs := l)
          simp only [e] at this
          rw [hp] at this
          cases this
  exact key _ 0 rfl (by omega)
def gr (b : List Int) (m : Int) : Nat := b.findIdx (fun x => decide (x ≤ m))
theorem gr_le (b : List Int) (m : Int) : gr b m ≤ b.length := List.findIdx_le_length
theorem Grade_eq (b : List Int) (m : Int) (h : b.length ≤ 1000) : boundary_Grade b m = some (gr b m : Int) := by
  unfold boundary_Grade boundary_Grade_j1
  rw [iter_scanI b (boundary_Grade_l2 b m) (fun x => decide (x ≤ m)) (fun k => .inr (k : Int)) (.inl ())]
  · have := gr_le b m
    unfold gr at this ⊢
    by_cases hc : b.findIdx (fun x => decide (x ≤ m)) < b.length
    · rw [if_pos hc]; rfl
    · rw [if_neg hc]
      have e : b.findIdx (fun x => decide (x ≤ m)) = b.length := by omega
      rw [e]; rfl
  · intro k hk
    simp only [boundary_Grade_l2]
    rw [show decide ((k : Int) < (b.length : Int)) = true by simp; omega, cond_true, req_pos (by omega), ix_nat _ _ hk, i64_add1 k (by omega)]
    by_cases hc : b[k] ≤ m <;> simp [hc]
  · simp [boundary_Grade_l2]
/-- boundaries that fall, from a score or one above the greatest -/
structure Bd (b : List Int) (most : Int) : Prop where
  lo : 1 ≤ b.length
  hi : b.length ≤ 9
  r : ∀ x ∈ b, 0 ≤ x ∧ x ≤ most + 1
  dn : ∀ i j (hi : i < b.length) (hj : j < b.length), i ≤ j → b[j] ≤ b[i]
theorem Check_eq (b : List Int) (most : Int) (h : Bd b most) (h0 : 0 ≤ most) (h1 : most ≤ 200) : boundary_Check b most = some 0 := by
  have hl := h.lo; have hh := h.hi
  unfold boundary_Check boundary_isScore
  simp only [Option.bind]
  rw [show (!(decide ((0 : Int) ≤ most) && decide (most ≤ (200 : Int)))) = false by simp; omega, cond_false]
  rw [show ((decide ((b.length : Int) < (1 : Int))) || (decide ((9 : Int) < (b.length : Int)))) = false by simp; omega, cond_false]
  have e1 : iter (boundary_Check_l4 b most) (0 : Int) = some (.inl ()) := by
    obtain ⟨r, e, hr⟩ := iter_inv (f := boundary_Check_l4 b most) (fun s => 0 ≤ s ∧ s ≤ b.length) (fun s => b.length - s.toNat) (fun r => r = .inl ()) (by
      rintro s ⟨s0, s1⟩
      simp only [boundary_Check_l4]
      rcases bcases (decide (s < (b.length : Int))) with hc | hc <;> rw [hc]
      · left
        have hc' : s < b.length := by simpa using hc
        have hm := h.r _ (ix_mem b s s0 hc')
        rw [cond_true, req_pos (by omega), wrap64 (n := most + 1) (by omega) (by omega), wrap64 (n := s + 1) (by omega) (by omega)]
        rw [show ((decide ((ix b s) < (0 : Int))) || (decide (most + 1 < (ix b s)))) = false by simp; omega, cond_false]
        exact ⟨_, rfl, by omega, by omega⟩
      · right
        exact ⟨_, rfl, rfl⟩) 0 (by omega)
    rw [e, hr]
  rw [e1]
  simp only [boundary_Check_j3, boundary_Check_j1]
  have e2 : iter (boundary_Check_l2 b) (1 : Int) = some (.inl ()) := by
    obtain ⟨r, e, hr⟩ := iter_inv (f := boundary_Check_l2 b) (fun s => 1 ≤ s ∧ s ≤ b.length) (fun s => b.length - s.toNat) (fun r => r = .inl ()) (by
      rintro s ⟨s0, s1⟩
      simp only [boundary_Check_l2]
      rcases bcases (decide (s < (b.length : Int))) with hc | hc <;> rw [hc]
      · left
        have hc' : s < b.length := by simpa using hc
        obtain ⟨k, rfl⟩ : ∃ k : Nat, s = ((k + 1 : Nat) : Int) := ⟨(s - 1).toNat, by omega⟩
        rw [cond_true, show IntKind.i64.wrap (((k + 1 : Nat) : Int) - 1) = (k : Int) by rw [wrap64 (by omega) (by omega)]; omega, req_pos (by omega), wrap64 (n := ((k + 1 : Nat) : Int) + 1) (by omega) (by omega), ix_nat _ k (by omega), ix_nat _ (k + 1) (by omega)]
        have := h.dn k (k + 1) (by omega) (by omega) (by omega)
        rw [show decide (b[k] < b[k + 1]) = false by simp; omega, cond_false]
        exact ⟨_, rfl, by omega, by omega⟩
      · right
        exact ⟨_, rfl, rfl⟩) 1 (by omega)
    rw [e, hr]
  rw [e2]
  rfl
/-! ### tallies -/
def tl (d : api_Distribution) (b : List Int) : Nat → List Int
  | 0 => rep ((b.length + 1 : Nat) : Int) 0
  | k + 1 => setI (tl d b k) (gr b k : Int) (IntKind.i64.wrap (ix (tl d b k) (gr b k : Int) + ix d.Counts (k : Int)))
theorem tl_len (d : api_Distribution) (b : List Int) : ∀ k, (tl d b k).length = b.length + 1
  | 0 => by simp [tl, rep]
  | k + 1 => by simp only [tl]; rw [setI_len, tl_len d b k]
theorem Tally_eq (d : api_Distribution) (b : List Int) (h : Sm d) (hb : Bd b ((d.Counts.length : Int) - 1)) : boundary_Tally d b = some (tl d b d.Counts.length, 0) := by
  have h1 := h.lo; have h2 := h.hi; have h3 := hb.lo; have h4 := hb.hi
  unfold boundary_Tally boundary_Tally_j1
  rw [dValid d h]
  simp only [Option.bind, Bool.not_true, cond_false]
  rw [greatest_eq d h]
  simp only []
  rw [Check_eq b _ hb (by omega) (by omega)]
  simp only []
  rw [show ((0 : Int) != 0) = false by simp, cond_false, wrap64 (n := (b.length : Int) + 1) (by omega) (by omega), req_pos (by omega)]
  have key : ∀ (n k : Nat), d.Counts.length - k = n → k ≤ d.Counts.length → iter (boundary_Tally_l2 d b) ((k : Int), tl d b k) = some (tl d b d.Counts.length) := by
    intro n
    induction n with
    | zero =>
      intro k hn hk
      have : k = d.Counts.length := by omega
      subst this
      exact iter_inr (by simp [boundary_Tally_l2])
    | succ n ih =>
      intro k hn hk
      have := gr_le b k
      have : boundary_Tally_l2 d b ((k : Int), tl d b k) = some (.inl (((k + 1 : Nat) : Int), tl d b (k + 1))) := by
        simp only [boundary_Tally_l2]
        rw [show decide ((k : Int) < (d.Counts.length : Int)) = true by simp; omega, cond_true, req_pos (by omega), Grade_eq b k (by omega)]
        simp only [Option.bind]
        rw [req_pos (by rw [tl_len]; omega), i64_add1 k (by omega)]
        rfl
      rw [iter_inl this, ih (k + 1) (by omega) (by omega)]
  have := key _ 0 rfl (by omega)
  simp only [tl] at this
  rw [show ((b.length : Int) + 1) = ((b.length + 1 : Nat) : Int) by omega, show ((0 : Nat) : Int) = 0 from rfl] at *
  rw [this]
theorem same_eq (a b : List Int) (h : a.length ≤ 1000) : law35_same a b = some (decide (a = b)) := by
  unfold law35_same law35_same_j1
  by_cases hl : a.length = b.length
  · rw [show ((a.length : Int) != (b.length : Int)) = false by simp [hl], cond_false]
    have key : ∀ (n k : Nat), a.length - k = n → k ≤ a.length → iter (law35_same_l2 a b) (k : Int) = some (if a.drop k = b.drop k then .inl () else .inr false) := by
      intro n
      induction n with
      | zero =>
        intro k hn hk
        have : k = a.length := by omega
        subst this
        rw [iter_inr (r := .inl ()) (by simp [law35_same_l2]), if_pos (by rw [List.drop_length, hl, List.drop_length])]
      | succ n ih =>
        intro k hn hk
        have hk1 : k < a.length := by omega
        have hk2 : k < b.length := by omega
        have he : (a.drop k = b.drop k) = (a[k] = b[k] ∧ a.drop (k + 1) = b.drop (k + 1)) := by
          rw [List.drop_eq_getElem_cons hk1, List.drop_eq_getElem_cons hk2, List.cons.injEq]
        by_cases e : a[k] = b[k]
        · rw [iter_inl (s' := ((k + 1 : Nat) : Int)) (by
            simp only [law35_same_l2]
            rw [show decide ((k : Int) < (a.length : Int)) = true by simp; omega, cond_true, req_pos (by omega), ix_nat _ _ hk1, ix_nat _ _ hk2, e, i64_add1 k (by omega), bne_self_eq_false, cond_false]), ih (k + 1) (by omega) (by omega)]
          by_cases e2 : a.drop (k + 1) = b.drop (k + 1)
          · rw [if_pos e2, if_pos (he ▸ ⟨e, e2⟩)]
          · rw [if_neg e2, if_neg (fun x => e2 (he ▸ x).2)]
        · rw [iter_inr (r := .inr false) (by
            simp only [law35_same_l2]
            rw [show decide ((k : Int) < (a.length : Int)) = true by simp; omega, cond_true, req_pos (by omega), ix_nat _ _ hk1, ix_nat _ _ hk2, bne_iff_ne.2 e, cond_true]), if_neg (fun x => e (he ▸ x).1)]
    have := key _ 0 rfl (by omega)
    rw [show ((0 : Nat) : Int) = 0 from rfl] at this
    rw [this]
    simp only [List.drop_zero]
    by_cases e : a = b
    · simp [e]
    · simp [e]
  · rw [show ((a.length : Int) != (b.length : Int)) = true by simp; omega, cond_true]
    have : a ≠ b := fun e => hl (by rw [e])
    simp [this]
end Go.LS
