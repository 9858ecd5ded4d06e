/-
  Dice, grades and boundaries (for the seats of laws 36 and 37).
  No condition: lemmas, taken from other plain texts by pick.py.
-/
import Derived.Test.YtogfplnonlpmcaaPH
set_option linter.all false
set_option linter.unusedSimpArgs false
set_option linter.unusedVariables false
set_option maxRecDepth 20000
namespace Go.LS

structure DOK (t : mark_Dice) : Prop where
  len : t.L.length ≤ 600
  lo : 0 ≤ t.At
  hi : t.At ≤ t.L.length
theorem dNext (t : mark_Dice) (n : Int) (h : DOK t) (hn : n ≤ 4611686018427387904) : ∃ y t', mark_Dice_Next t n = some (y, t') ∧ DOK t' ∧ 0 ≤ y ∧ (1 ≤ n → y < n) := by
  obtain ⟨h1, h2, h3⟩ := h
  unfold mark_Dice_Next mark_Dice_Next_j1
  rcases bcases ((decide ((t.L.length : Int) ≤ t.At)) || (decide (n < (1 : Int)))) with hc | hc <;> rw [hc]
  · exact ⟨_, _, rfl, ⟨h1, h2, h3⟩, by omega, by omega⟩
  · simp only [Bool.or_eq_false_iff, decide_eq_false_iff_not] at hc
    rw [cond_false, req_pos (by omega)]
    generalize ix t.L t.At = x
    have h4 := Int.tmod_lt_of_pos x (show 0 < n by omega)
    have h5 : -n < x.tmod n := Int.lt_tmod_of_pos x (show 0 < n by omega)
    have hd : DOK ⟨t.L, IntKind.i64.wrap (t.At + 1)⟩ := ⟨h1, by show 0 ≤ IntKind.i64.wrap (t.At + 1); rw [wrap64 (by omega) (by omega)]; omega, by show IntKind.i64.wrap (t.At + 1) ≤ (t.L.length : Int); rw [wrap64 (by omega) (by omega)]; omega⟩
    rcases bcases (decide (Int.tmod x n < (0 : Int))) with hd2 | hd2 <;> rw [hd2]
    · have : x.tmod n < 0 := by simpa using hd2
      exact ⟨_, _, rfl, hd, by rw [wrap64 (by omega) (by omega)]; omega, by rw [wrap64 (by omega) (by omega)]; omega⟩
    · have : 0 ≤ x.tmod n := by simpa using hd2
      exact ⟨_, _, rfl, hd, this, fun _ => h4⟩
theorem dPick (t : mark_Dice) (l : List Int) (h : DOK t) (h1 : 1 ≤ l.length) (h2 : l.length ≤ 1000) : ∃ y t', mark_Dice_Pick t l = some (y, t') ∧ DOK t' ∧ y ∈ l := by
  obtain ⟨y, t', e1, h3, h4, h5⟩ := dNext t l.length h (by omega)
  have h6 := h5 (by omega)
  exact ⟨_, t', by unfold mark_Dice_Pick; rw [e1]; simp only [Option.bind]; rw [req_pos ⟨h4, h6⟩], h3, ix_mem l y h4 h6⟩
theorem iter_scanI {α ρ : Type} (l : List α) (f : Int → Option (Int ⊕ ρ)) (p : α → Bool) (hit : Nat → ρ) (miss : ρ)
    (hstep : ∀ (k : Nat) (hk : k < l.length), f (k : Int) = some (if p l[k] = true then .inr (hit k) else .inl ((k + 1 : Nat) : Int)))
    (hend : f (l.length : Int) = some (.inr miss)) : iter f (0 : Int) = some (if l.findIdx p < l.length then hit (l.findIdx p) else miss) := by
  have key : ∀ (n k : Nat), l.length - k = n → k ≤ l.findIdx p → iter f (k : Int) = some (if l.findIdx p < l.length then hit (l.findIdx p) else miss) := by
    intro n
    induction n with
    | zero =>
      intro k hn hk
      have h1 : l.findIdx p ≤ l.length := List.findIdx_le_length
      have : k = l.length := by omega
      subst this
      rw [iter_inr hend, if_neg (by omega)]
    | succ n ih =>
      intro k hn hk
      have hk' : k < l.length := by omega
      have h1 := hstep k hk'
      cases hp : p l[k] with
      | true =>
        rw [hp, if_pos rfl] at h1
        have e : l.findIdx p = k := by
          rcases Nat.lt_or_ge k (l.findIdx p) with hlt | hge
          · exact absurd (List.not_of_lt_findIdx hlt) (by simp [hp])
          · omega
        rw [iter_inr h1, e, if_pos hk']
      | false =>
        rw [hp, if_neg (by simp)] at h1
        rw [iter_inl h1]
        apply ih (k + 1) (by omega)
        rcases Nat.lt_or_ge k (l.findIdx p) with hlt | hge
        · exact hlt
        · have e : l.findIdx p = k := by omega
          have := List.findIdx_getElem (w := by rw [e]; exact hk') (p := p) (xs := l)
          simp only [e] at this
          rw [hp] at this
          cases this
  exact key _ 0 rfl (by omega)
def gr (b : List Int) (m : Int) : Nat := b.findIdx (fun x => decide (x ≤ m))
theorem gr_le (b : List Int) (m : Int) : gr b m ≤ b.length := List.findIdx_le_length
theorem Grade_eq (b : List Int) (m : Int) (h : b.length ≤ 1000) : boundary_Grade b m = some (gr b m : Int) := by
  unfold boundary_Grade boundary_Grade_j1
  rw [iter_scanI b (boundary_Grade_l2 b m) (fun x => decide (x ≤ m)) (fun k => .inr (k : Int)) (.inl ())]
  · have := gr_le b m
    unfold gr at this ⊢
    by_cases hc : b.findIdx (fun x => decide (x ≤ m)) < b.length
    · rw [if_pos hc]; rfl
    · rw [if_neg hc]
      have e : b.findIdx (fun x => decide (x ≤ m)) = b.length := by omega
      rw [e]; rfl
  · intro k hk
    simp only [boundary_Grade_l2]
    rw [show decide ((k : Int) < (b.length : Int)) = true by simp; omega, cond_true, req_pos (by omega), ix_nat _ _ hk, i64_add1 k (by omega)]
    by_cases hc : b[k] ≤ m <;> simp [hc]
  · simp [boundary_Grade_l2]
structure Bd (b : List Int) (most : Int) : Prop where
  lo : 1 ≤ b.length
  hi : b.length ≤ 9
  r : ∀ x ∈ b, 0 ≤ x ∧ x ≤ most + 1
  dn : ∀ i j (hi : i < b.length) (hj : j < b.length), i ≤ j → b[j] ≤ b[i]
theorem Check_eq (b : List Int) (most : Int) (h : Bd b most) (h0 : 0 ≤ most) (h1 : most ≤ 200) : boundary_Check b most = some 0 := by
  have hl := h.lo; have hh := h.hi
  unfold boundary_Check boundary_isScore
  simp only [Option.bind]
  rw [show (!(decide ((0 : Int) ≤ most) && decide (most ≤ (200 : Int)))) = false by simp; omega, cond_false]
  rw [show ((decide ((b.length : Int) < (1 : Int))) || (decide ((9 : Int) < (b.length : Int)))) = false by simp; omega, cond_false]
  have e1 : iter (boundary_Check_l4 b most) (0 : Int) = some (.inl ()) := by
    obtain ⟨r, e, hr⟩ := iter_inv (f := boundary_Check_l4 b most) (fun s => 0 ≤ s ∧ s ≤ b.length) (fun s => b.length - s.toNat) (fun r => r = .inl ()) (by
      rintro s ⟨s0, s1⟩
      simp only [boundary_Check_l4]
      rcases bcases (decide (s < (b.length : Int))) with hc | hc <;> rw [hc]
      · left
        have hc' : s < b.length := by simpa using hc
        have hm := h.r _ (ix_mem b s s0 hc')
        rw [cond_true, req_pos (by omega), wrap64 (n := most + 1) (by omega) (by omega), wrap64 (n := s + 1) (by omega) (by omega)]
        rw [show ((decide ((ix b s) < (0 : Int))) || (decide (most + 1 < (ix b s)))) = false by simp; omega, cond_false]
        exact ⟨_, rfl, by omega, by omega⟩
      · right
        exact ⟨_, rfl, rfl⟩) 0 (by omega)
    rw [e, hr]
  rw [e1]
  simp only [boundary_Check_j3, boundary_Check_j1]
  have e2 : iter (boundary_Check_l2 b) (1 : Int) = some (.inl ()) := by
    obtain ⟨r, e, hr⟩ := iter_inv (f := boundary_Check_l2 b) (fun s => 1 ≤ s ∧ s ≤ b.length) (fun s => b.length - s.toNat) (fun r => r = .inl ()) (by
      rintro s ⟨s0, s1⟩
      simp only [boundary_Check_l2]
      rcases bcases (decide (s < (b.length : Int))) with hc | hc <;> rw [hc]
      · left
        have hc' : s < b.length := by simpa using hc
        obtain ⟨k, rfl⟩ : ∃ k : Nat, s = ((k + 1 : Nat) : Int) := ⟨(s - 1).toNat, by omega⟩
        rw [cond_true, show IntKind.i64.wrap (((k + 1 : Nat) : Int) - 1) = (k : Int) by rw [wrap64 (by omega) (by omega)]; omega, req_pos (by omega), wrap64 (n := ((k + 1 : Nat) : Int) + 1) (by omega) (by omega), ix_nat _ k (by omega), ix_nat _ (k + 1) (by omega)]
        have := h.dn k (k + 1) (by omega) (by omega) (by omega)
        rw [show decide (b[k] < b[k + 1]) = false by simp; omega, cond_false]
        exact ⟨_, rfl, by omega, by omega⟩
      · right
        exact ⟨_, rfl, rfl⟩) 1 (by omega)
    rw [e, hr]
  rw [e2]
  rfl
theorem dBounds (t : mark_Dice) (most : Int) (h : DOK t) (h0 : 0 ≤ most) (h1 : most ≤ 200) : ∃ b t', mark_Dice_Bounds t most = some (b, t') ∧ DOK t' ∧ Bd b most := by
  unfold mark_Dice_Bounds
  obtain ⟨y, t1, e1, h2, h3, h4⟩ := dNext t 4 h (by omega)
  have h5 := h4 (by omega)
  rw [e1]
  simp only [Option.bind]
  rw [wrap64 (n := most + 1) (by omega) (by omega), wrap64 (n := 1 + y) (by omega) (by omega)]
  obtain ⟨⟨L, A, w⟩, e2, g1, g2, g3, g4⟩ := iter_inv (f := mark_Dice_Bounds_l2) (fun s => 0 ≤ s.2.1 ∧ s.2.1 + s.2.2.2.2.length = 1 + y ∧ DOK ⟨s.2.2.1, s.2.2.2.1⟩ ∧ (0 ≤ s.1 ∧ s.1 ≤ most + 1) ∧ (∀ c ∈ s.2.2.2.2, s.1 ≤ c ∧ c ≤ most + 1) ∧ s.2.2.2.2.Pairwise (fun a b => b ≤ a)) (fun s => s.2.1.toNat)
    (fun r => DOK ⟨r.1, r.2.1⟩ ∧ (r.2.2.length : Int) = 1 + y ∧ (∀ c ∈ r.2.2, 0 ≤ c ∧ c ≤ most + 1) ∧ r.2.2.Pairwise (fun a b => b ≤ a)) (by
      rintro ⟨b, i, L, A, w⟩ ⟨k1, k2, k3, k4, k5, k6⟩
      simp only at k1 k2 k3 k4 k5 k6
      simp only [mark_Dice_Bounds_l2]
      rcases bcases (decide ((0 : Int) < i)) with hc | hc <;> rw [hc]
      · left
        have hi : 0 < i := by simpa using hc
        rw [Int.tdiv_eq_ediv_of_nonneg k4.1, wrap64 (n := b / 2) (by omega) (by omega), wrap64 (n := b / 2 + 1) (by omega) (by omega)]
        obtain ⟨a, ta, ea, ha, a1, a2⟩ := dNext ⟨L, A⟩ (b / 2 + 1) k3 (by omega)
        have a3 := a2 (by omega)
        simp only [cond_true, ea, Option.bind]
        rw [req_pos (by simp; omega), wrap64 (n := i - 1) (by omega) (by omega), wrap64 (n := b - a) (by omega) (by omega)]
        refine ⟨_, rfl, ⟨by show 0 ≤ i - 1; omega, by simp; omega, ha, ⟨by simp; omega, by simp; omega⟩, ?_, ?_⟩, ?_⟩
        · intro c hc
          rcases List.mem_append.1 hc with hc | hc
          · have := k5 c hc; simp only []; omega
          · simp at hc; simp only []; omega
        · simp only []
          rw [List.pairwise_append]
          refine ⟨k6, by simp, ?_⟩
          intro x hx z hz
          have := k5 x hx
          simp at hz
          omega
        · show (i - 1).toNat < i.toNat
          omega
      · right
        have hi : i = 0 := by simp at hc; omega
        exact ⟨_, rfl, k3, by show (w.length : Int) = 1 + y; omega, fun c hc => by have := k5 c hc; omega, k6⟩) (most + 1, 1 + y, t1.L, t1.At, []) ⟨by show 0 ≤ 1 + y; omega, by simp, h2, ⟨by simp; omega, by simp⟩, by simp, by simp⟩
  rw [e2]
  simp only at g2 g3 g4
  refine ⟨w, ⟨L, A⟩, rfl, g1, ⟨by omega, by omega, g3, ?_⟩⟩
  intro i j hi hj hij
  rcases Nat.lt_or_eq_of_le hij with hlt | rfl
  · exact List.pairwise_iff_getElem.1 g4 i j hi hj hlt
  · exact Int.le_refl _
theorem gr_iff (b : List Int) (m : Int) (most : Int) (hb : Bd b most) (v : Nat) (hv : v < b.length) : b[v] ≤ m ↔ gr b m ≤ v := by
  constructor
  · intro h
    rcases Nat.lt_or_ge v (gr b m) with hlt | hge
    · exact absurd (List.not_of_lt_findIdx hlt) (by simp [h])
    · exact hge
  · intro h
    have hl : b.findIdx (fun x => decide (x ≤ m)) < b.length := Nat.lt_of_le_of_lt h hv
    have h1 := List.findIdx_getElem (w := hl)
    have h2 := hb.dn (gr b m) v hl hv h
    simp only [decide_eq_true_eq] at h1
    exact Int.le_trans h2 h1
theorem gr_anti (b : List Int) (most : Int) (hb : Bd b most) (m m' : Int) (h : m ≤ m') : gr b m' ≤ gr b m := by
  rcases Nat.lt_or_ge (gr b m) b.length with hlt | hge
  · have := (gr_iff b m most hb (gr b m) hlt).2 (Nat.le_refl _)
    exact (gr_iff b m' most hb (gr b m) hlt).1 (by omega)
  · have := gr_le b m'; omega

end Go.LS
