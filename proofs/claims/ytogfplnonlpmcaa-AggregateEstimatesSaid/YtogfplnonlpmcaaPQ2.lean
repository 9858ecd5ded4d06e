/-
  Law 01: sums of lists, lists and orders off the tape.
  Conditions: numbers in the ranges of their Go types.
-/
import Derived.Test.YtogfplnonlpmcaaPQ1
namespace Go.LS
set_option linter.all false
set_option linter.unusedSimpArgs false
set_option linter.unusedVariables false
set_option maxRecDepth 20000

/-! ### orders off the tape -/
def rg (k : Nat) : List Int := (List.range k).map fun (j : Nat) => (j : Int)
theorem rg_succ (k : Nat) : rg (k + 1) = rg k ++ [(k : Int)] := by simp [rg, List.range_succ]
theorem mem_rg {k : Nat} {x : Int} : x ∈ rg k ↔ 0 ≤ x ∧ x < k := by
  simp only [rg, List.mem_map, List.mem_range]
  constructor
  · rintro ⟨a, h, rfl⟩; omega
  · rintro ⟨h1, h2⟩; exact ⟨x.toNat, by omega, by omega⟩
theorem map_rg {α : Type} [Inhabited α] (l : List α) : (rg l.length).map (ix l) = l := by
  apply List.ext_getElem
  · simp [rg]
  · intro i h1 h2
    simp [rg]
    exact ix_nat l i h2
theorem ins_perm (a : Int) (l : List Int) (y : Nat) : ((([] : List Int) ++ List.take y l) ++ [a] ++ List.drop y l).Perm (l ++ [a]) := by
  have h := List.perm_middle (a := a) (l₁ := List.take y l) (l₂ := List.drop y l)
  rw [List.take_append_drop] at h
  simp only [List.nil_append, List.append_assoc, List.singleton_append]
  refine h.trans ?_
  exact (List.perm_append_singleton a l).symm
/-! ### the sum in closed form -/
theorem WR_small (x : Nat) (h : x < 18446744073709551616) : WR x = ⟨0, (x : Int)⟩ := by
  simp only [WR, ref01_Wide.mk.injEq]; omega
theorem WW_small (x : Nat) (h : x < 18446744073709551616) : WW x = ⟨0, (x : Int)⟩ := by
  simp only [WW, hiW, loW, ratio_wide.mk.injEq]; omega
theorem over60 (x : Nat) : (decide ((0 : Int) < (WR x).Hi) || decide ((1152921504606846976 : Int) < (WR x).Lo)) = decide (1152921504606846976 < x) := by
  have e1 : (WR x).Hi = ((x / 18446744073709551616 : Nat) : Int) := rfl
  have e2 : (WR x).Lo = ((x % 18446744073709551616 : Nat) : Int) := rfl
  rw [e1, e2, Bool.eq_iff_iff]
  simp only [Bool.or_eq_true, decide_eq_true_eq]
  omega
theorem reducedW (neg : Bool) (n d : Nat) (hn : n < 340282366920938463463374607431768211456) (hd : 0 < d) (hd2 : d < 18446744073709551616) : ratio_reduced ⟨neg, WW n⟩ (d : Int) = some (redOf neg n d) := by
  have hg : 0 < Nat.gcd n d := Nat.gcd_pos_of_pos_right _ hd
  have hg2 : Nat.gcd n d ≤ d := Nat.gcd_le_right _ hd
  have h2 := Nat.div_le_self d (Nat.gcd n d)
  unfold ratio_reduced redOf
  dsimp only
  rw [modW n d hn hd hd2, some_bind, gcd_eq, some_bind, show Nat.gcd (n % d) d = Nat.gcd n d by rw [Nat.gcd_comm, Nat.gcd_comm n, Nat.gcd_rec d n, Nat.gcd_comm], overW n _ hn hg (by omega), some_bind, req_pos (by omega), tdiv_nat, wrapU_nat _ (by omega)]
  have e : (⟨(0 : Int), ((d / Nat.gcd n d : Nat) : Int)⟩ : ratio_wide) = WW (d / Nat.gcd n d) := (WW_small _ (by omega)).symm
  rw [e, fittedW]
  rfl
abbrev MX : Nat := 1152921504606846976
def lcmF : List api_Ratio → Nat → Option Nat
  | [], c => some c
  | a :: l, c => if Nat.lcm c a.Den.natAbs ≤ 1152921504606846976 then lcmF l (Nat.lcm c a.Den.natAbs) else none
def sumF (C : Nat) (l : List api_Ratio) (p : Bool × Nat) : Bool × Nat := l.foldl (fun p a => addS p.1 p.2 (decide (a.Num < 0)) (a.Num.natAbs * (C / a.Den.natAbs))) p
def sumOf (l : List api_Ratio) : api_Ratio × Int :=
  if 100 < l.length then (⟨0, 0⟩, 3)
  else if (l.all fun a => vR a) = true then (match lcmF l 1 with | some C => redOf (sumF C l (false, 0)).1 (sumF C l (false, 0)).2 C | none => (⟨0, 0⟩, 6))
  else (⟨0, 0⟩, 1)
theorem lcm_mul (c d : Nat) : c * (d / Nat.gcd c d) = Nat.lcm c d := by
  unfold Nat.lcm
  rw [Nat.mul_div_assoc _ (Nat.gcd_dvd_right c d)]
theorem drop_cons {α : Type} (l : List α) (k : Nat) (h : k < l.length) : l.drop k = l[k] :: l.drop (k + 1) := List.drop_eq_getElem_cons h
theorem lcm_pos' {c d : Nat} (hc : 0 < c) (hd : 0 < d) : 0 < Nat.lcm c d := Nat.lcm_pos hc hd
theorem lcmF_pos : ∀ (l : List api_Ratio) (c C : Nat), 0 < c → c ≤ MX → (∀ a ∈ l, vR a = true) → lcmF l c = some C → 0 < C ∧ C ≤ MX ∧ c ∣ C ∧ ∀ a ∈ l, a.Den.natAbs ∣ C
  | [], c, C, h0, h1, _, h => by
    simp only [lcmF, Option.some.injEq] at h
    subst h
    exact ⟨h0, h1, Nat.dvd_refl c, by simp⟩
  | a :: l, c, C, h0, h1, hv, h => by
    simp only [lcmF] at h
    split at h
    · rename_i hle
      obtain ⟨g1, g2, g3, g4⟩ := lcmF_pos l _ C (lcm_pos' h0 (vn_of (hv a (by simp))).d0) hle (fun x hx => hv x (by simp [hx])) h
      refine ⟨g1, g2, Nat.dvd_trans (Nat.dvd_lcm_left _ _) g3, fun x hx => ?_⟩
      rcases List.mem_cons.1 hx with rfl | hx
      · exact Nat.dvd_trans (Nat.dvd_lcm_right _ _) g3
      · exact g4 x hx
    · cases h
theorem loop4 (l : List api_Ratio) (hl : l.length ≤ 100) (hv : ∀ a ∈ l, vR a = true) : ∀ (n k c : Nat), l.length - k = n → k ≤ l.length → 0 < c → c ≤ MX →
    iter (ratio_Sum_l4 l) ((c : Int), (k : Int)) = some (match lcmF (l.drop k) c with | some C => .inl (C : Int) | none => .inr (⟨0, 0⟩, 6)) := by
  intro n
  induction n with
  | zero =>
    intro k c hn hk h0 h1
    have : k = l.length := by omega
    subst this
    rw [List.drop_length]
    refine iter_inr ?_
    simp [ratio_Sum_l4, lcmF]
  | succ n ih =>
    intro k c hn hk h0 h1
    have hk' : k < l.length := by omega
    have va := vn_of (hv l[k] (List.getElem_mem hk'))
    have hg : 0 < Nat.gcd c l[k].Den.natAbs := Nat.gcd_pos_of_pos_left _ h0
    have d1 := va.d1
    have q1 := Nat.div_le_self l[k].Den.natAbs (Nat.gcd c l[k].Den.natAbs)
    have hm := mul_lt h1 (show l[k].Den.natAbs / Nat.gcd c l[k].Den.natAbs ≤ 1152921504606846976 by omega)
    have hf : ratio_Sum_l4 l ((c : Int), (k : Int)) = some (if Nat.lcm c l[k].Den.natAbs ≤ 1152921504606846976 then .inl (((Nat.lcm c l[k].Den.natAbs : Nat) : Int), ((k + 1 : Nat) : Int)) else .inr (.inr (⟨0, 0⟩, 6))) := by
      simp only [ratio_Sum_l4]
      rw [show decide ((k : Int) < (l.length : Int)) = true by simp; exact hk', cond_true, req_pos (by omega), ix_nat l k hk', wrapU_den va, gcd_eq, some_bind, req_pos (by omega), tdiv_nat, wrapU_nat _ (by omega), product_eq _ _ (by unfold MX at h1; omega) (by omega), some_bind, lcm_mul]
      rw [lcm_mul] at hm
      generalize Nat.lcm c l[k].Den.natAbs = x at *
      by_cases hx : x ≤ 1152921504606846976
      · rw [if_pos hx, show ((hiW x != 0) || decide ((1152921504606846976 : Int) < loW x)) = false by simp only [hiW, loW, Bool.or_eq_false_iff, bne_eq_false_iff_eq, decide_eq_false_iff_not]; omega, cond_false, i64_add1 k (by omega)]
        simp only [loW, Nat.mod_eq_of_lt (show x < 18446744073709551616 by omega)]
      · rw [if_neg hx, show ((hiW x != 0) || decide ((1152921504606846976 : Int) < loW x)) = true by simp only [hiW, loW, Bool.or_eq_true, bne_iff_ne, ne_eq, decide_eq_true_eq]; omega, cond_true]
    rw [drop_cons l k hk']
    simp only [lcmF]
    by_cases hx : Nat.lcm c l[k].Den.natAbs ≤ 1152921504606846976
    · rw [if_pos hx] at hf ⊢
      rw [iter_inl hf]
      exact ih (k + 1) _ (by omega) (by omega) (lcm_pos' h0 va.d0) hx
    · rw [if_neg hx] at hf ⊢
      rw [iter_inr hf]
theorem term_le {a : api_Ratio} (va : VN a) {C : Nat} (hC : C ≤ MX) : a.Num.natAbs * (C / a.Den.natAbs) ≤ 1329227995784915872903807060280344576 :=
  mul_lt va.n1 (Nat.le_trans (Nat.div_le_self _ _) hC)
theorem loop2 (l : List api_Ratio) (C : Nat) (hC : C ≤ MX) (hl : l.length ≤ 100) (hv : ∀ a ∈ l, vR a = true) : ∀ (n k : Nat) (s : Bool) (m : Nat), l.length - k = n → k ≤ l.length → m ≤ k * 1329227995784915872903807060280344576 →
    iter (ratio_Sum_l2 l (C : Int)) ((k : Int), s, hiW m, loW m) = some ((sumF C (l.drop k) (s, m)).1, hiW (sumF C (l.drop k) (s, m)).2, loW (sumF C (l.drop k) (s, m)).2) ∧ (sumF C (l.drop k) (s, m)).2 ≤ 100 * 1329227995784915872903807060280344576 := by
  intro n
  induction n with
  | zero =>
    intro k s m hn hk hm
    have : k = l.length := by omega
    subst this
    rw [List.drop_length]
    refine ⟨iter_inr ?_, ?_⟩
    · simp [ratio_Sum_l2, sumF]
    · exact Nat.le_trans hm (Nat.mul_le_mul_right _ hl)
  | succ n ih =>
    intro k s m hn hk hm
    have hk' : k < l.length := by omega
    have va := vn_of (hv l[k] (List.getElem_mem hk'))
    have ht := term_le va hC
    have q1 := Nat.div_le_self C l[k].Den.natAbs
    have d0 := va.d0
    have hf : ratio_Sum_l2 l (C : Int) ((k : Int), s, hiW m, loW m) = some (.inl (((k + 1 : Nat) : Int), (addS s m (decide (l[k].Num < 0)) (l[k].Num.natAbs * (C / l[k].Den.natAbs))).1, hiW (addS s m (decide (l[k].Num < 0)) (l[k].Num.natAbs * (C / l[k].Den.natAbs))).2, loW (addS s m (decide (l[k].Num < 0)) (l[k].Num.natAbs * (C / l[k].Den.natAbs))).2)) := by
      simp only [ratio_Sum_l2]
      have hp := plusS s m (decide (l[k].Num < 0)) (l[k].Num.natAbs * (C / l[k].Den.natAbs)) (by omega)
      rw [show decide ((k : Int) < (l.length : Int)) = true by simp; exact hk', cond_true, req_pos (by omega), ix_nat l k hk', wrapU_den va, req_pos (by omega), tdiv_nat, wrapU_nat _ (by unfold MX at hC; omega), signedProduct_eq _ _ va.i1 (by unfold MX at hC; omega), some_bind, hp, some_bind, i64_add1 k (by omega)]
    have hle := addS_le s m (decide (l[k].Num < 0)) (l[k].Num.natAbs * (C / l[k].Den.natAbs))
    have := ih (k + 1) (addS s m (decide (l[k].Num < 0)) (l[k].Num.natAbs * (C / l[k].Den.natAbs))).1 (addS s m (decide (l[k].Num < 0)) (l[k].Num.natAbs * (C / l[k].Den.natAbs))).2 (by omega) (by omega) (by omega)
    rw [iter_inl hf, drop_cons l k hk']
    exact this
theorem red_zero (neg : Bool) (C : Nat) : redOf neg 0 C = redOf false 0 C := by
  unfold redOf fitOf
  cases neg <;> simp
theorem all_valid {l : List api_Ratio} (h : (l.all fun a => vR a) = true) : ∀ a ∈ l, vR a = true := List.all_eq_true.1 h
theorem Sum_eq (l : List api_Ratio) : ratio_Sum l = some (sumOf l) := by
  unfold ratio_Sum sumOf
  by_cases hl : 100 < l.length
  · rw [if_pos hl, show decide ((100 : Int) < (l.length : Int)) = true by simp only [decide_eq_true_eq]; omega]; rfl
  · rw [if_neg hl, show decide ((100 : Int) < (l.length : Int)) = false by simp only [decide_eq_false_iff_not]; omega, cond_false]
    have hs := iter_scan (ρ := Unit ⊕ (api_Ratio × Int)) l (ratio_Sum_l6 l) (fun a => !vR a) (fun _ => .inr (⟨0, 0⟩, 1)) (.inl ()) (fun k hk => by
      simp only [ratio_Sum_l6]
      rw [show decide ((k : Int) < (l.length : Int)) = true by simp; exact hk, cond_true, req_pos (by omega), ix_nat l k hk, Valid_eq, some_bind, i64_add1 k (by omega)]
      cases vR l[k] <;> rfl) (by simp [ratio_Sum_l6])
    rw [hs, some_bind, find_any]
    by_cases ha : (l.all fun a => vR a) = true
    · have hn : (l.any fun a => !vR a) = false := by
        rw [List.any_eq_false]; intro a hm; simp [all_valid ha a hm]
      rw [if_pos ha, if_neg (by rw [hn]; simp)]
      have hv := all_valid ha
      simp only [ratio_Sum_j5]
      have h4 := loop4 l (by omega) hv l.length 0 1 (by omega) (by omega) (by omega) (by decide)
      rw [List.drop_zero] at h4
      rw [show ((1 : Int), (0 : Int)) = (((1 : Nat) : Int), ((0 : Nat) : Int)) by rfl, h4, some_bind]
      cases hc : lcmF l 1 with
      | none => rfl
      | some C =>
        obtain ⟨g1, g2, g3, g4⟩ := lcmF_pos l 1 C (by omega) (by decide) hv hc
        simp only [ratio_Sum_j3, ratio_Sum_j1]
        obtain ⟨h2, hb⟩ := loop2 l C g2 (by omega) hv l.length 0 false 0 (by omega) (by omega) (by omega)
        rw [List.drop_zero] at h2 hb
        rw [show ((0 : Int), false, (0 : Int), (0 : Int)) = (((0 : Nat) : Int), false, hiW 0, loW 0) by rfl, h2, some_bind]
        simp only
        rw [reducedW _ _ _ (by omega) g1 (by unfold MX at g2; omega)]
        rfl
    · have hn : (l.any fun a => !vR a) = true := by
        rw [List.any_eq_true]
        rw [List.all_eq_true] at ha
        by_cases hex : ∃ x, x ∈ l ∧ (!vR x) = true
        · exact hex
        · exact absurd (fun x hx => by
            have : ¬ ((!vR x) = true) := fun h => hex ⟨x, hx, h⟩
            simpa using this) ha
      rw [if_neg ha, if_pos hn]
end Go.LS
