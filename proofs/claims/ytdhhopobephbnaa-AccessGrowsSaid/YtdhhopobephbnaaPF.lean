/-
  Access: more evidence never takes anything away (AccessGrows).
  No condition: the law's plain form.
-/
import Derived.Test.YtdhhopobephbnaaPD
import Derived.Test.YtdhhopobephbnaaD4
namespace Go.LS
set_option linter.all false
set_option linter.unusedSimpArgs false
set_option linter.unusedVariables false
set_option maxRecDepth 20000

theorem appOf_mono (r : api_AccessRule) (l m : List api_Evidence) (c t : Int) (h : appOf r l c t = true) : appOf r (l ++ m) c t = true := by
  unfold appOf at *; rw [List.any_append, h, Bool.true_or]
theorem idx_mono {α : Type} (p q : α → Bool) (h : ∀ a, p a = true → q a = true) : ∀ (l : List α) (k : Nat), ∀ n ∈ idx p k l, n ∈ idx q k l
  | [], k, n, hn => by simp [idx] at hn
  | a :: l, k, n, hn => by
    simp only [idx] at hn ⊢
    by_cases hp : p a = true
    · rw [if_pos hp] at hn
      rw [if_pos (h a hp)]
      rcases List.mem_cons.1 hn with hn | hn
      · rw [hn]; exact List.mem_cons_self
      · exact List.mem_cons_of_mem _ (idx_mono p q h l (k + 1) n hn)
    · rw [if_neg hp] at hn
      have := idx_mono p q h l (k + 1) n hn
      split
      · exact List.mem_cons_of_mem _ this
      · exact this
theorem Has_eq (l : List Int) (n : Int) (hl : l.length ≤ 1000000) : ref06_Has l n = some (decide (n ∈ l)) := by
  unfold ref06_Has ref06_Has_j1
  rw [iter_scan l (ref06_Has_l2 l n) (fun x => x == n) (fun _ => .inr true) (.inl ())]
  · rw [find_any]
    by_cases h : n ∈ l
    · rw [if_pos (by simpa using h)]; simp [h]
    · rw [if_neg (by simpa using h)]; simp [h]
  · intro k hk
    simp only [ref06_Has_l2]
    rw [show decide ((k : Int) < (l.length : Int)) = true by simp; omega, cond_true, req_pos (by omega), ix_nat _ _ hk, i64_add1 k (by omega)]
    cases l[k] == n <;> rfl
  · simp [ref06_Has_l2]
theorem jo_v (e n f m : Nat) (hn : n < 64) (hm : m < 64) : jo (vA e n) (vA f m) = vA (max e f) (n ||| m) := by
  simp only [jo, vA, bOr_nat n m (by omega) (by omega)]
  congr 1
  unfold imax
  by_cases hc : e < f
  · rw [if_pos (by omega)]; omega
  · rw [if_neg (by omega)]; omega
theorem fold_mono (p q : api_AccessRule → Bool) (h : ∀ r, p r = true → q r = true) : ∀ (rules : List api_AccessRule), (∀ r ∈ rules, okA (accR r) = true) → ∀ e1 n1 e2 n2 : Nat, e1 ≤ e2 → n1 ||| n2 = n2 → e2 ≤ 100 → n1 < 64 → n2 < 64 →
    ∃ f1 m1 f2 m2 : Nat, ((rules.filter p).map accR).foldl jo (vA e1 n1) = vA f1 m1 ∧ ((rules.filter q).map accR).foldl jo (vA e2 n2) = vA f2 m2 ∧ f1 ≤ f2 ∧ m1 ||| m2 = m2 ∧ f2 ≤ 100 ∧ m1 < 64 ∧ m2 < 64
  | [], _, e1, n1, e2, n2, h1, h2, h3, h4, h5 => ⟨e1, n1, e2, n2, rfl, rfl, h1, h2, h3, h4, h5⟩
  | r :: rules, hr, e1, n1, e2, n2, h1, h2, h3, h4, h5 => by
    obtain ⟨e, n, he, hn, hv⟩ := v_of (hr r (by simp))
    have ih := fold_mono p q h rules (fun r hr' => hr r (by simp [hr']))
    have o2 : n1 ||| (n2 ||| n) = n2 ||| n := by rw [← Nat.or_assoc, h2]
    have o1 : (n1 ||| n) ||| (n2 ||| n) = n2 ||| n := by
      rw [show (n1 ||| n) ||| (n2 ||| n) = (n1 ||| n2) ||| (n ||| n) by ac_rfl, h2, Nat.or_self]
    by_cases hp : p r = true
    · rw [List.filter_cons_of_pos hp, List.filter_cons_of_pos (h r hp), List.map_cons, List.map_cons, List.foldl_cons, List.foldl_cons, hv, jo_v _ _ _ _ h4 hn, jo_v _ _ _ _ h5 hn]
      exact ih _ _ _ _ (by omega) o1 (by omega) (or_lt h4 hn) (or_lt h5 hn)
    · rw [List.filter_cons_of_neg hp]
      by_cases hq : q r = true
      · rw [List.filter_cons_of_pos hq, List.map_cons, List.foldl_cons, hv, jo_v _ _ _ _ h5 hn]
        exact ih _ _ _ _ (by omega) o2 (by omega) h4 (or_lt h5 hn)
      · rw [List.filter_cons_of_neg hq]
        exact ih _ _ _ _ h1 h2 h3 h4 h5
theorem andNot0 (n m : Nat) (hn : n < 64) (hm : m < 64) (h : n ||| m = m) : bAndNot .i64 (n : Int) (m : Int) = 0 := by
  unfold bAndNot
  have : (BitVec.ofInt (IntKind.bits .i64) (n : Int) &&& ~~~ BitVec.ofInt (IntKind.bits .i64) (m : Int)) = 0#64 := by
    rw [BitVec.ofInt_natCast, BitVec.ofInt_natCast]
    apply BitVec.eq_of_getLsbD_eq
    intro i hi
    have hb := congrArg (fun x => Nat.testBit x i) h
    simp only [Nat.testBit_or] at hb
    simp only [BitVec.getLsbD_and, BitVec.getLsbD_not, BitVec.getLsbD_ofNat, BitVec.getLsbD_zero]
    revert hb
    have hz : (0#64).getLsbD i = false := BitVec.getLsbD_zero
    cases n.testBit i <;> cases m.testBit i <;> intro hb <;> first | (exact absurd hb (by decide)) | (refine Eq.trans ?_ hz.symm; simp)
  rw [this]; rfl
def minOf (b e n : Nat) : Nat := b + (b * e + 99) / 100 + (if (n &&& 32 != 0) = true then 5 * ((b + 29) / 30) else 0)
theorem Minutes_eq (b e n : Nat) (h1 : 1 ≤ b) (h2 : b ≤ 600) (he : e ≤ 100) (hn : n < 64) : access_Minutes (b : Int) (vA e n) = some (((minOf b e n : Nat) : Int), (0 : Int)) := by
  unfold access_Minutes access_Minutes_j1
  rw [valid_eq, okA_v e n he hn]
  have hm : b * e ≤ 600 * 100 := Nat.mul_le_mul h2 he
  have hq : (b * e + 99) / 100 ≤ 601 := by omega
  simp only [Option.bind, bindV, Bool.not_true, cond_false, vA]
  rw [show ((decide ((b : Int) < (1 : Int))) || (decide ((600 : Int) < (b : Int)))) = false by simp; omega, cond_false]
  rw [show (b : Int) * (e : Int) = ((b * e : Nat) : Int) by simp]
  unfold minOf
  generalize b * e = z at *
  rw [wrap64 (n := (z : Int)) (by omega) (by omega), wrap64 (n := (z : Int) + 99) (by omega) (by omega), Int.tdiv_eq_ediv_of_nonneg (by omega), wrap64 (n := ((z : Int) + 99) / 100) (by omega) (by omega), wrap64 (n := (b : Int) + ((z : Int) + 99) / 100) (by omega) (by omega)]
  rw [wrap64 (n := (b : Int) + 30) (by omega) (by omega), wrap64 (n := (b : Int) + 30 - 1) (by omega) (by omega), Int.tdiv_eq_ediv_of_nonneg (by omega), wrap64 (n := ((b : Int) + 30 - 1) / 30) (by omega) (by omega), wrap64 (n := 5 * (((b : Int) + 30 - 1) / 30)) (by omega) (by omega), wrap64 (n := (b : Int) + ((z : Int) + 99) / 100 + 5 * (((b : Int) + 30 - 1) / 30)) (by omega) (by omega)]
  rw [show (32 : Int) = ((32 : Nat) : Int) from rfl, bAnd_nat n 32 (by omega) (by omega)]
  by_cases hc : n &&& 32 = 0
  · rw [hc]; simp
  · rw [show (((n &&& 32 : Nat) : Int) != 0) = true by simp [hc], cond_true]
    simp [hc]; omega
theorem minOf_mono (b e1 n1 e2 n2 : Nat) (h : e1 ≤ e2) (ho : n1 ||| n2 = n2) : minOf b e1 n1 ≤ minOf b e2 n2 ∧ b ≤ minOf b e1 n1 := by
  have h1 : b * e1 ≤ b * e2 := Nat.mul_le_mul_left _ h
  have h2 : (b * e1 + 99) / 100 ≤ (b * e2 + 99) / 100 := Nat.div_le_div_right (by omega)
  have h3 : n1 &&& 32 ≠ 0 → n2 &&& 32 ≠ 0 := by
    intro h hz
    rw [← ho, Nat.and_or_distrib_right, or_zero] at hz
    exact h hz.1
  unfold minOf
  refine ⟨?_, by omega⟩
  by_cases c1 : n1 &&& 32 = 0
  · rw [c1]; simp; omega
  · have := h3 c1
    simp [c1, this]; omega
theorem impl_mono (e1 n1 e2 n2 : Nat) (h : e1 ≤ e2) (ho : n1 ||| n2 = n2) (h1 : e2 ≤ 100) (h2 : n1 < 64) (h3 : n2 < 64) : ∃ m1 m2 : Nat, impl (vA e1 n1) = vA e1 m1 ∧ impl (vA e2 n2) = vA e2 m2 ∧ m1 ||| m2 = m2 ∧ m1 < 64 ∧ m2 < 64 := by
  refine ⟨_, _, impl_v e1 n1 (by omega) h2, impl_v e2 n2 h1 h3, ?_, if_lt _ h2, if_lt _ h3⟩
  have hc := cI_or e1 e2 n1 n2
  rw [ho, show max e1 e2 = e2 by omega] at hc
  cases c1 : cI e1 n1
  · cases c2 : cI e2 n2
    · simpa using ho
    · simp only [Bool.false_eq_true, if_false, if_true]
      rw [← Nat.or_assoc, ho]
  · have c2 : cI e2 n2 = true := by rw [hc, c1, Bool.true_or]
    rw [c2]
    simp only [if_true]
    rw [show (n1 ||| 1) ||| (n2 ||| 1) = (n1 ||| n2) ||| (1 ||| 1) by ac_rfl, ho, Nat.or_self]
theorem pure_AccessGrows (t : List Int) (time base : Int) : law14_AccessGrows t time base = some true := by
  unfold law14_AccessGrows
  obtain ⟨t1, e1, h1⟩ := new_ok t
  obtain ⟨y, t2, e2, h2, h3, h4⟩ := rules_ok t1 0 h1 (by omega)
  have hck := h4 (by omega)
  obtain ⟨l, t3, e3, h5, h6⟩ := evidence_ok t2 h2
  obtain ⟨m, t4, e4, h7, h8⟩ := evidence_ok t3 h5
  obtain ⟨u, e5, u1, u2, _⟩ := cut_ok time 30 (by omega)
  obtain ⟨v, e6, v1, v2, _⟩ := cut_ok base 600 (by omega)
  have v3 := v2 (by omega)
  simp only [e1, e2, e3, e4, e5, e6, Option.bind]
  have hlm : (l ++ m).length ≤ 1000000 := by simp; omega
  rw [req_pos (by omega), req_pos (by omega), Grant_eq _ _ _ _ (show l.length ≤ 1000000 by omega), Grant_eq _ _ _ _ hlm, Reasons_eq _ _ _ _ (show l.length ≤ 1000000 by omega), Reasons_eq _ _ _ _ hlm]
  simp only [grantOf, reasonsOf, hck, if_true]
  obtain ⟨h12, hbad⟩ := checkOf_len hck
  have hok : ∀ r ∈ y, okA (accR r) = true := by
    intro r hr
    have := List.any_eq_false.1 hbad r hr
    simp only [badR, Bool.or_eq_true, not_or, Bool.not_eq_true', Bool.not_eq_false] at this
    exact this.2
  have hpq : ∀ r, appOf r l 1 u = true → appOf r (l ++ m) 1 u = true := fun r h => appOf_mono r l m 1 u h
  obtain ⟨f1, m1, f2, m2, g1, g2, g3, g4, g5, g6, g7⟩ := fold_mono (fun r => appOf r l 1 u) (fun r => appOf r (l ++ m) 1 u) hpq y hok 0 0 0 0 (by omega) rfl (by omega) (by omega) (by omega)
  obtain ⟨p1, p2, q1, q2, q3, q4, q5⟩ := impl_mono f1 m1 f2 m2 g3 g4 g5 g6 g7
  have j1 : joined ((y.filter fun r => appOf r l 1 u).map accR) = vA f1 m1 := g1
  have j2 : joined ((y.filter fun r => appOf r (l ++ m) 1 u).map accR) = vA f2 m2 := g2
  rw [j1, j2, q1, q2]
  obtain ⟨b, hb⟩ : ∃ b : Nat, IntKind.i64.wrap (1 + v) = (b : Int) := ⟨(1 + v).toNat, by rw [wrap64 (by omega) (by omega)]; omega⟩
  have hb1 : (b : Int) = 1 + v := by rw [← hb, wrap64 (by omega) (by omega)]
  rw [hb, Minutes_eq b f1 p1 (by omega) (by omega) (by omega) q4]
  simp only []
  rw [Minutes_eq b f2 p2 (by omega) (by omega) g5 q5]
  simp only []
  have hl1 := idx_len (fun r => appOf r l 1 u) y 0
  have hl2 := idx_len (fun r => appOf r (l ++ m) 1 u) y 0
  have hmem := idx_mono (fun r => appOf r l 1 u) (fun r => appOf r (l ++ m) 1 u) hpq y 0
  generalize idx (fun r => appOf r l 1 u) 0 y = I at *
  generalize idx (fun r => appOf r (l ++ m) 1 u) 0 y = J at *
  have it : iter (law14_AccessGrows_l2 I J) (0 : Int) = some (.inl ()) := by
    obtain ⟨r, e, hr⟩ := iter_inv (f := law14_AccessGrows_l2 I J) (fun s => 0 ≤ s ∧ s ≤ I.length) (fun s => I.length - s.toNat) (fun r => r = .inl ()) (by
      rintro s ⟨s0, s1⟩
      simp only [law14_AccessGrows_l2]
      rcases bcases (decide (s < (I.length : Int))) with hc | hc <;> rw [hc]
      · left
        have hc' : s < I.length := by simpa using hc
        have hm := hmem _ (ix_mem I s s0 hc')
        rw [cond_true, req_pos (by omega), Has_eq _ _ (by omega), wrap64 (n := s + 1) (by omega) (by omega)]
        simp only [Option.bind, hm, decide_true, Bool.not_true, cond_false]
        exact ⟨_, rfl, by omega, by omega⟩
      · right
        exact ⟨_, rfl, rfl⟩) 0 (by omega)
    rw [e, hr]
  rw [it]
  simp only [law14_AccessGrows_j1]
  obtain ⟨w1, w2⟩ := minOf_mono b f1 p1 f2 p2 g3 q3
  rw [hb, awake_eq, req_pos (by simp)]
  rw [show (vA f1 p1).Needs = (p1 : Int) from rfl, show (vA f2 p2).Needs = (p2 : Int) from rfl, show (vA f1 p1).Extra = (f1 : Int) from rfl, show (vA f2 p2).Extra = (f2 : Int) from rfl, andNot0 p1 p2 q4 q5 q3]
  rw [show decide ((f1 : Int) ≤ (f2 : Int)) = true by simp; omega, show decide (((minOf b f1 p1 : Nat) : Int) ≤ ((minOf b f2 p2 : Nat) : Int)) = true by simp; omega, show decide ((b : Int) ≤ ((minOf b f1 p1 : Nat) : Int)) = true by simp; omega]
  rfl
end Go.LS
