/-
  Law 01: Apportion and its reference give the same, for every total and all weights.
  No condition: both refuse what is out of range.
-/
import Derived.Test.YtkgmiidcilkmlaaPSD
namespace Go.LS
set_option linter.all false
set_option linter.unusedSimpArgs false
set_option linter.unusedVariables false
set_option maxRecDepth 20000

theorem ix_setI (l : List Int) (j k : Nat) (x : Int) (hj : j < l.length) : ix (setI l (j : Int) x) (k : Int) = if k = j then x else ix l (k : Int) := by
  unfold ix setI
  simp only [Int.toNat_natCast, List.getD_eq_getElem?_getD]
  by_cases h : k = j
  · subst h; rw [if_pos rfl]; simp [List.getElem?_set_self hj]
  · rw [if_neg h, List.getElem?_set_ne (fun e => h e.symm)]
theorem len_setI2 (l : List Int) (n x : Int) : (setI l n x).length = l.length := by simp [setI]
/-! ### sums -/
def sumZ : List Int → Int
  | [] => 0
  | a :: l => a + sumZ l
theorem sumZ_append : ∀ (l m : List Int), sumZ (l ++ m) = sumZ l + sumZ m
  | [], m => by simp [sumZ]
  | a :: l, m => by simp only [List.cons_append, sumZ, sumZ_append l m]; omega
theorem sumZ_take (l : List Int) (k : Nat) (h : k < l.length) : sumZ (l.take (k + 1)) = sumZ (l.take k) + l[k] := by
  rw [List.take_succ_eq_append_getElem h, sumZ_append]; simp [sumZ]
theorem sumZ_le (l : List Int) (B : Int) (h : ∀ x ∈ l, 0 ≤ x ∧ x ≤ B) : 0 ≤ sumZ l ∧ sumZ l ≤ B * l.length := by
  induction l with
  | nil => simp [sumZ]
  | cons a l ih =>
    obtain ⟨h1, h2⟩ := h a (by simp)
    obtain ⟨h3, h4⟩ := ih fun x hx => h x (by simp [hx])
    simp only [sumZ, List.length_cons]
    have e : B * ((l.length + 1 : Nat) : Int) = B * (l.length : Int) + B := by
      rw [show ((l.length + 1 : Nat) : Int) = (l.length : Int) + 1 by omega, Int.mul_add, Int.mul_one]
    constructor <;> omega
theorem elem_le_sum : ∀ (l : List Int), (∀ x ∈ l, 0 ≤ x) → ∀ x ∈ l, x ≤ sumZ l
  | [], _, x, hx => by cases hx
  | a :: l, h, x, hx => by
    have h0 := h a (by simp)
    have hs : 0 ≤ sumZ l := by
      clear hx x
      have h' : ∀ x ∈ l, 0 ≤ x := fun x hx => h x (by simp [hx])
      clear h h0
      induction l with
      | nil => simp [sumZ]
      | cons b l ih =>
        have := h' b (by simp)
        have := ih fun x hx => h' x (by simp [hx])
        simp only [sumZ]; omega
    simp only [sumZ]
    rcases List.mem_cons.1 hx with rfl | hx
    · omega
    · have := elem_le_sum l (fun y hy => h y (by simp [hy])) x hx
      omega
theorem sum_rem (total s : Int) : ∀ (w : List Int), s * sumZ (w.map fun x => total * x / s) + sumZ (w.map fun x => total * x % s) = total * sumZ w
  | [] => by simp [sumZ]
  | a :: w => by
    have := sum_rem total s w
    have h2 := Int.mul_ediv_add_emod (total * a) s
    simp only [List.map_cons, sumZ]
    rw [Int.mul_add, Int.mul_add]
    omega
theorem tdiv_pos (a b : Int) (ha : 0 ≤ a) : Int.tdiv a b = a / b := by
  rw [Int.tdiv_eq_ediv_of_nonneg ha]
theorem tmod_pos (a b : Int) (ha : 0 ≤ a) : Int.tmod a b = a % b := by
  rw [Int.tmod_eq_emod_of_nonneg ha]
/-! ### the range check and the sum -/
def badw (x : Int) : Bool := decide (x < 0) || decide ((1073741824 : Int) < x)
theorem badw_false {x : Int} (h : badw x = false) : 0 ≤ x ∧ x ≤ 1073741824 := by
  simp only [badw, Bool.or_eq_false_iff, decide_eq_false_iff_not] at h; omega
def sumRes (w : List Int) : Int ⊕ ((List Int) × Int) := if w.any badw = true then .inr ([], 2) else .inl (sumZ w)
theorem sum6 (w : List Int) (hl : w.length ≤ 100) : ∀ (m k : Nat), w.length - k = m → k ≤ w.length → (∀ x ∈ w.take k, badw x = false) → iter (ratio_Apportion_l6 w) ((k : Int), sumZ (w.take k)) = some (sumRes w) := by
  intro m
  induction m with
  | zero =>
    intro k hm hk hg
    have : k = w.length := by omega
    subst this
    rw [List.take_length] at hg ⊢
    have hn : w.any badw = false := by rw [List.any_eq_false]; intro x hx; rw [hg x hx]; simp
    refine iter_inr ?_
    simp [ratio_Apportion_l6, sumRes, hn]
  | succ m ih =>
    intro k hm hk hg
    have hk' : k < w.length := by omega
    obtain ⟨h3, h4⟩ := sumZ_le (w.take k) 1073741824 fun x hx => badw_false (hg x hx)
    have h5 : (w.take k).length ≤ 100 := by simp; omega
    rcases bcases (badw w[k]) with hb | hb
    · refine iter_inr ?_
      simp only [ratio_Apportion_l6]
      have hn : w.any badw = true := List.any_eq_true.2 ⟨w[k], List.getElem_mem hk', hb⟩
      rw [show decide ((k : Int) < (w.length : Int)) = true by simp; exact hk', cond_true, req_pos (by omega), ix_nat w k hk']
      rw [show (decide (w[k] < 0) || decide ((1073741824 : Int) < w[k])) = true from hb, cond_true]
      simp [sumRes, hn]
    · obtain ⟨h1, h2⟩ := badw_false hb
      have hf : ratio_Apportion_l6 w ((k : Int), sumZ (w.take k)) = some (.inl (((k + 1 : Nat) : Int), sumZ (w.take (k + 1)))) := by
        simp only [ratio_Apportion_l6]
        rw [show decide ((k : Int) < (w.length : Int)) = true by simp; exact hk', cond_true, req_pos (by omega), ix_nat w k hk', show (decide (w[k] < 0) || decide ((1073741824 : Int) < w[k])) = false from hb, cond_false, i64_add1 k (by omega), sumZ_take w k hk', wrap64 (by omega) (by omega)]
      rw [iter_inl hf]
      refine ih (k + 1) (by omega) (by omega) fun x hx => ?_
      rw [List.take_succ_eq_append_getElem hk'] at hx
      rcases List.mem_append.1 hx with h | h
      · exact hg x h
      · rw [List.mem_singleton.1 h]; exact hb
theorem sum9 (w : List Int) (hl : w.length ≤ 100) : ∀ (m k : Nat), w.length - k = m → k ≤ w.length → (∀ x ∈ w.take k, badw x = false) → iter (ref01_Apportion_l9 w) (sumZ (w.take k), (k : Int)) = some (sumRes w) := by
  intro m
  induction m with
  | zero =>
    intro k hm hk hg
    have : k = w.length := by omega
    subst this
    rw [List.take_length] at hg ⊢
    have hn : w.any badw = false := by rw [List.any_eq_false]; intro x hx; rw [hg x hx]; simp
    refine iter_inr ?_
    simp [ref01_Apportion_l9, sumRes, hn]
  | succ m ih =>
    intro k hm hk hg
    have hk' : k < w.length := by omega
    obtain ⟨h3, h4⟩ := sumZ_le (w.take k) 1073741824 fun x hx => badw_false (hg x hx)
    have h5 : (w.take k).length ≤ 100 := by simp; omega
    have hkk : 0 ≤ (k : Int) ∧ (k : Int) < (w.length : Int) := by omega
    rcases bcases (badw w[k]) with hb | hb
    · refine iter_inr ?_
      simp only [ref01_Apportion_l9]
      have hn : w.any badw = true := List.any_eq_true.2 ⟨w[k], List.getElem_mem hk', hb⟩
      rw [show decide ((k : Int) < (w.length : Int)) = true by simp; exact hk', cond_true, req_pos ⟨hkk, fun _ => hkk⟩, ix_nat w k hk']
      rw [show (decide (w[k] < 0) || decide ((1073741824 : Int) < w[k])) = true from hb, cond_true]
      simp [sumRes, hn]
    · obtain ⟨h1, h2⟩ := badw_false hb
      have hf : ref01_Apportion_l9 w (sumZ (w.take k), (k : Int)) = some (.inl (sumZ (w.take (k + 1)), ((k + 1 : Nat) : Int))) := by
        simp only [ref01_Apportion_l9]
        rw [show decide ((k : Int) < (w.length : Int)) = true by simp; exact hk', cond_true, req_pos ⟨hkk, fun _ => hkk⟩, ix_nat w k hk', show (decide (w[k] < 0) || decide ((1073741824 : Int) < w[k])) = false from hb, cond_false, req_pos hkk, i64_add1 k (by omega), sumZ_take w k hk', wrap64 (by omega) (by omega)]
      rw [iter_inl hf]
      refine ih (k + 1) (by omega) (by omega) fun x hx => ?_
      rw [List.take_succ_eq_append_getElem hk'] at hx
      rcases List.mem_append.1 hx with h | h
      · exact hg x h
      · rw [List.mem_singleton.1 h]; exact hb
/-! ### the shares -/
structure Wt (total : Int) (w : List Int) (s : Int) : Prop where
  t0 : 0 ≤ total
  t1 : total ≤ 1073741824
  ww : ∀ x ∈ w, 0 ≤ x ∧ x ≤ 1073741824
  len : w.length ≤ 100
  sum : sumZ w = s
  pos : 0 < s
theorem Wt.at {total s : Int} {w : List Int} (h : Wt total w s) (k : Nat) (hk : k < w.length) : 0 ≤ w[k] ∧ w[k] ≤ 1073741824 ∧ 0 ≤ total * w[k] ∧ total * w[k] ≤ 1152921504606846976 := by
  obtain ⟨h1, h2⟩ := h.ww w[k] (List.getElem_mem hk)
  refine ⟨h1, h2, Int.mul_nonneg h.t0 h1, ?_⟩
  have := Int.mul_le_mul h.t1 h2 h1 (by decide)
  omega
theorem Wt.sb {total s : Int} {w : List Int} (h : Wt total w s) : s ≤ 107374182400 := by
  have := sumZ_le w 1073741824 h.ww
  have := h.len
  have := h.sum
  omega
theorem Wt.div {total s : Int} {w : List Int} (h : Wt total w s) (k : Nat) (hk : k < w.length) : 0 ≤ total * w[k] / s ∧ total * w[k] / s ≤ 1073741824 := by
  obtain ⟨a1, a2, a3, a4⟩ := h.at k hk
  refine ⟨Int.ediv_nonneg a3 (by have := h.pos; omega), ?_⟩
  have hd1 : total * w[k] / s ≤ total := by
    refine Int.ediv_le_of_le_mul h.pos ?_
    refine Int.mul_le_mul_of_nonneg_left ?_ h.t0
    rw [← h.sum]
    exact elem_le_sum w (fun x hx => (h.ww x hx).1) w[k] (List.getElem_mem hk)
  have := h.t1
  omega
def shares (total : Int) (w : List Int) (s : Int) : List Int := w.map fun x => total * x / s
def rems (total : Int) (w : List Int) (s : Int) : List Int := w.map fun x => total * x % s
theorem set_fill (L : List Int) (k n : Nat) (hk : k < n) (hn : L.length = n) (x : Int) (hx : L[k]'(by omega) = x) : setI (L.take k ++ List.replicate (n - k) 0) (k : Int) x = L.take (k + 1) ++ List.replicate (n - (k + 1)) 0 := by
  unfold setI
  rw [Int.toNat_natCast, List.set_append_right _ _ (by rw [List.length_take]; omega)]
  have : k - (L.take k).length = 0 := by rw [List.length_take]; omega
  rw [this, show n - k = (n - (k + 1)) + 1 by omega, List.replicate_succ, List.set_cons_zero, List.take_succ_eq_append_getElem (by omega), hx]
  simp
theorem shares_len (total s : Int) (w : List Int) : (shares total w s).length = w.length := by simp [shares]
theorem rems_len (total s : Int) (w : List Int) : (rems total w s).length = w.length := by simp [rems]
theorem rg_take (n k : Nat) (h : k ≤ n) : (rg n).take k = rg k := by
  apply List.ext_getElem
  · simp [rg]; omega
  · intro i h1 h2; simp [rg]
theorem share_loop (total : Int) (w : List Int) (s : Int) (h : Wt total w s) : iter (ratio_Apportion_l4 total w s) (total, (0 : Int), (rep (w.length : Int) (0 : Int)), (rep (w.length : Int) (0 : Int))) = some (total - sumZ (shares total w s), shares total w s, rg w.length) := by
  have hsl := shares_len total s w
  have hlen := h.len
  obtain ⟨⟨left, ps, os⟩, e, g1, g2, g3⟩ := iter_inv (f := ratio_Apportion_l4 total w s)
    (fun x => ∃ k : Nat, x.2.1 = (k : Int) ∧ k ≤ w.length ∧ x.2.2.1 = (shares total w s).take k ++ List.replicate (w.length - k) 0 ∧ x.2.2.2 = (rg w.length).take k ++ List.replicate (w.length - k) 0 ∧ x.1 = total - sumZ ((shares total w s).take k) ∧ -1073741824 * (k : Int) ≤ x.1 ∧ x.1 ≤ 1073741824) (fun x => ((w.length : Int) - x.2.1).toNat)
    (fun r => r.2.1 = shares total w s ∧ r.2.2 = rg w.length ∧ r.1 = total - sumZ (shares total w s)) (by
      rintro ⟨left, x2, ps, os⟩ ⟨k, h1, h2, h3, h4, h5, h6, h7⟩
      dsimp only at h1 h2 h3 h4 h5 h6 h7
      subst h1
      simp only [ratio_Apportion_l4]
      by_cases hk : k < w.length
      · left
        obtain ⟨a1, a2, a3, a4⟩ := h.at k hk
        have hpos := h.pos
        obtain ⟨hd0, hd1⟩ := h.div k hk
        have hpl : ps.length = w.length := by rw [h3, List.length_append, List.length_take, List.length_replicate]; omega
        have hol : os.length = w.length := by rw [h4, List.length_append, List.length_take, List.length_replicate, rg_len]; omega
        rw [show decide ((k : Int) < (w.length : Int)) = true by simp; exact hk, cond_true, req_pos (by omega), req_pos ⟨by omega, by omega⟩, ix_nat w k hk, wrap64 (n := total * w[k]) (by omega) (by omega), tdiv_pos _ _ a3, wrap64 (n := total * w[k] / s) (by omega) (by omega)]
        unfold bindV
        dsimp only
        rw [req_pos (by omega), req_pos (by rw [len_setI2]; omega)]
        have hix : ix (setI ps (k : Int) (total * w[k] / s)) (k : Int) = total * w[k] / s := by rw [ix_setI _ _ _ _ (by omega), if_pos rfl]
        rw [hix, i64_add1 k (by omega), wrap64 (by omega) (by omega)]
        have hshk : (shares total w s)[k]'(by omega) = total * w[k] / s := by simp [shares]
        have e1 : setI ps (k : Int) (total * w[k] / s) = (shares total w s).take (k + 1) ++ List.replicate (w.length - (k + 1)) 0 := by
          rw [h3]; exact set_fill _ k _ hk hsl _ hshk
        have e2 : setI os (k : Int) (k : Int) = (rg w.length).take (k + 1) ++ List.replicate (w.length - (k + 1)) 0 := by
          rw [h4]; exact set_fill _ k _ hk (rg_len _) _ (by simp [rg])
        refine ⟨_, rfl, ⟨k + 1, rfl, by omega, e1, e2, ?_, ?_, ?_⟩, by show ((w.length : Int) - ((k + 1 : Nat) : Int)).toNat < ((w.length : Int) - (k : Int)).toNat; omega⟩
        · show left - total * w[k] / s = total - sumZ ((shares total w s).take (k + 1))
          rw [sumZ_take _ _ (by omega), hshk]; omega
        · show -1073741824 * ((k + 1 : Nat) : Int) ≤ left - total * w[k] / s
          omega
        · show left - total * w[k] / s ≤ 1073741824
          omega
      · right
        have : k = w.length := by omega
        subst this
        rw [show decide ((w.length : Int) < (w.length : Int)) = false by simp, cond_false]
        refine ⟨_, rfl, ?_, ?_, ?_⟩
        · show ps = _
          rw [h3, Nat.sub_self, ← hsl, List.take_length]; simp
        · show os = _
          rw [h4, Nat.sub_self, rg_take _ _ (Nat.le_refl _)]; simp
        · show left = _
          rw [h5, ← hsl, List.take_length]) (total, 0, rep (w.length : Int) 0, rep (w.length : Int) 0) ⟨0, rfl, by omega, by simp [rep], by simp [rep], by simp [sumZ], by have := h.t0; simp; omega, h.t1⟩
  dsimp only at g1 g2 g3
  rw [e, g1, g2, g3]
theorem share_loop7 (total : Int) (w : List Int) (s : Int) (h : Wt total w s) : iter (ref01_Apportion_l7 total w s) (total, (0 : Int), (rep (w.length : Int) (0 : Int)), (rep (w.length : Int) (0 : Int))) = some (total - sumZ (shares total w s), shares total w s, rems total w s) := by
  have hsl := shares_len total s w
  have hrl := rems_len total s w
  have hlen := h.len
  obtain ⟨⟨left, ps, os⟩, e, g1, g2, g3⟩ := iter_inv (f := ref01_Apportion_l7 total w s)
    (fun x => ∃ k : Nat, x.2.1 = (k : Int) ∧ k ≤ w.length ∧ x.2.2.1 = (shares total w s).take k ++ List.replicate (w.length - k) 0 ∧ x.2.2.2 = (rems total w s).take k ++ List.replicate (w.length - k) 0 ∧ x.1 = total - sumZ ((shares total w s).take k) ∧ -1073741824 * (k : Int) ≤ x.1 ∧ x.1 ≤ 1073741824) (fun x => ((w.length : Int) - x.2.1).toNat)
    (fun r => r.2.1 = shares total w s ∧ r.2.2 = rems total w s ∧ r.1 = total - sumZ (shares total w s)) (by
      rintro ⟨left, x2, ps, os⟩ ⟨k, h1, h2, h3, h4, h5, h6, h7⟩
      dsimp only at h1 h2 h3 h4 h5 h6 h7
      subst h1
      simp only [ref01_Apportion_l7]
      by_cases hk : k < w.length
      · left
        obtain ⟨a1, a2, a3, a4⟩ := h.at k hk
        have hpos := h.pos
        obtain ⟨hd0, hd1⟩ := h.div k hk
        have hpl : ps.length = w.length := by rw [h3, List.length_append, List.length_take, List.length_replicate]; omega
        have hol : os.length = w.length := by rw [h4, List.length_append, List.length_take, List.length_replicate]; omega
        rw [show decide ((k : Int) < (w.length : Int)) = true by simp; exact hk, cond_true, req_pos ⟨by omega, by omega, by omega⟩, ix_nat w k hk, wrap64 (n := total * w[k]) (by omega) (by omega), tdiv_pos _ _ a3, tmod_pos _ _ a3, wrap64 (n := total * w[k] / s) (by omega) (by omega)]
        unfold bindV
        dsimp only
        rw [req_pos ⟨by omega, by omega, by omega⟩, req_pos (by rw [len_setI2]; omega)]
        have hix : ix (setI ps (k : Int) (total * w[k] / s)) (k : Int) = total * w[k] / s := by rw [ix_setI _ _ _ _ (by omega), if_pos rfl]
        rw [hix, i64_add1 k (by omega), wrap64 (by omega) (by omega)]
        have hshk : (shares total w s)[k]'(by omega) = total * w[k] / s := by simp [shares]
        have e1 : setI ps (k : Int) (total * w[k] / s) = (shares total w s).take (k + 1) ++ List.replicate (w.length - (k + 1)) 0 := by
          rw [h3]; exact set_fill _ k _ hk hsl _ hshk
        have e2 : setI os (k : Int) (total * w[k] % s) = (rems total w s).take (k + 1) ++ List.replicate (w.length - (k + 1)) 0 := by
          rw [h4]; exact set_fill _ k _ hk hrl _ (by simp [rems])
        refine ⟨_, rfl, ⟨k + 1, rfl, by omega, e1, e2, ?_, ?_, ?_⟩, by show ((w.length : Int) - ((k + 1 : Nat) : Int)).toNat < ((w.length : Int) - (k : Int)).toNat; omega⟩
        · show left - total * w[k] / s = total - sumZ ((shares total w s).take (k + 1))
          rw [sumZ_take _ _ (by omega), hshk]; omega
        · show -1073741824 * ((k + 1 : Nat) : Int) ≤ left - total * w[k] / s
          omega
        · show left - total * w[k] / s ≤ 1073741824
          omega
      · right
        have : k = w.length := by omega
        subst this
        rw [show decide ((w.length : Int) < (w.length : Int)) = false by simp, cond_false]
        refine ⟨_, rfl, ?_, ?_, ?_⟩
        · show ps = _
          rw [h3, Nat.sub_self, ← hsl, List.take_length]; simp
        · show os = _
          rw [h4, Nat.sub_self, ← hrl, List.take_length]; simp
        · show left = _
          rw [h5, ← hsl, List.take_length]) (total, 0, rep (w.length : Int) 0, rep (w.length : Int) 0) ⟨0, rfl, by omega, by simp [rep], by simp [rep], by simp [sumZ], by have := h.t0; simp; omega, h.t1⟩
  dsimp only at g1 g2 g3
  rw [e, g1, g2, g3]
end Go.LS
