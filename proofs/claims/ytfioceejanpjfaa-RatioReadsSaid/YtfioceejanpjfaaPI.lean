/-
  Law 01: reading fractions from texts.
  Conditions: the text is not longer than any in memory.
-/
import Derived.Test.YtfioceejanpjfaaPH
namespace Go.LS
set_option linter.all false
set_option linter.unusedSimpArgs false
set_option linter.unusedVariables false
set_option maxRecDepth 20000

theorem sx_nat (s : Str) (k : Nat) (h : k < s.length) : sx s (k : Int) = ((s[k].toNat : Nat) : Int) := by
  unfold sx
  rw [Int.toNat_natCast]
  simp [List.getD, h]
def isD (c : UInt8) : Bool := decide (48 ≤ c.toNat ∧ c.toNat ≤ 57)
def valF : List UInt8 → Nat → Nat
  | [], n => n
  | c :: l, n => valF l (n * 10 + (c.toNat - 48))
theorem valF_lt : ∀ (l : List UInt8) (n k : Nat), n < 10 ^ k → (l.all isD) = true → valF l n < 10 ^ (k + l.length)
  | [], n, k, h, _ => h
  | c :: l, n, k, h, ha => by
    simp only [List.all_cons, Bool.and_eq_true] at ha
    have hc : 48 ≤ c.toNat ∧ c.toNat ≤ 57 := by simpa [isD] using ha.1
    have := valF_lt l (n * 10 + (c.toNat - 48)) (k + 1) (by rw [Nat.pow_succ]; omega) ha.2
    rw [List.length_cons, show k + (l.length + 1) = k + 1 + l.length by omega]
    exact this
theorem pow10_le (k : Nat) (h : k ≤ 19) : 10 ^ k ≤ 10000000000000000000 := by
  have := Nat.pow_le_pow_right (show 0 < 10 by omega) h
  simpa using this
theorem dig_loop (s : Str) (hs : s.length ≤ 19) : ∀ (m k n : Nat), s.length - k = m → k ≤ s.length → n < 10 ^ k →
    iter (ratio_digitsOf_l2 s) ((n : Int), (k : Int)) = some (if ((s.drop k).all isD) = true then .inl ((valF (s.drop k) n : Nat) : Int) else .inr ((0 : Int), false)) := by
  intro m
  induction m with
  | zero =>
    intro k n hm hk hn
    have : k = s.length := by omega
    subst this
    rw [List.drop_length]
    refine iter_inr ?_
    simp [ratio_digitsOf_l2, valF]
  | succ m ih =>
    intro k n hm hk hn
    have hk' : k < s.length := by omega
    have hp := pow10_le k (by omega)
    have hp2 := pow10_le (k + 1) (by omega)
    rw [Nat.pow_succ] at hp2
    have hall : (s.drop k).all isD = (isD s[k] && (s.drop (k + 1)).all isD) := by rw [List.drop_eq_getElem_cons hk']; rfl
    have hval : valF (s.drop k) n = valF (s.drop (k + 1)) (n * 10 + (s[k].toNat - 48)) := by rw [List.drop_eq_getElem_cons hk']; rfl
    rw [hall, hval]
    have hf : ratio_digitsOf_l2 s ((n : Int), (k : Int)) = some (if isD s[k] = true then .inl (((n * 10 + (s[k].toNat - 48) : Nat) : Int), ((k + 1 : Nat) : Int)) else .inr (.inr ((0 : Int), false))) := by
      simp only [ratio_digitsOf_l2]
      rw [show decide ((k : Int) < (s.length : Int)) = true by simp; exact hk', cond_true, req_pos ⟨by omega, fun _ => by omega⟩, sx_nat s k hk']
      by_cases hd : isD s[k] = true
      · have hc : 48 ≤ s[k].toNat ∧ s[k].toNat ≤ 57 := by simpa [isD] using hd
        rw [if_pos hd, show (decide (((s[k].toNat : Nat) : Int) < 48) || decide ((57 : Int) < ((s[k].toNat : Nat) : Int))) = false by simp only [Bool.or_eq_false_iff, decide_eq_false_iff_not]; omega, cond_false, req_pos (by omega)]
        have e1 : IntKind.u8.wrap (((s[k].toNat : Nat) : Int) - 48) = ((s[k].toNat - 48 : Nat) : Int) := by
          simp only [IntKind.wrap, IntKind.bits, IntKind.signed]; simp; omega
        unfold bindV
        rw [e1, wrapU_nat _ (by omega), wrapU_id (n := (n : Int) * 10) (by omega) (by omega), wrapU_id (by omega) (by omega), i64_add1 k (by omega), show (n : Int) * 10 + ((s[k].toNat - 48 : Nat) : Int) = ((n * 10 + (s[k].toNat - 48) : Nat) : Int) by omega]
      · have hc : ¬ (48 ≤ s[k].toNat ∧ s[k].toNat ≤ 57) := by simpa [isD] using hd
        rw [if_neg hd, show (decide (((s[k].toNat : Nat) : Int) < 48) || decide ((57 : Int) < ((s[k].toNat : Nat) : Int))) = true by simp only [Bool.or_eq_true, decide_eq_true_eq]; omega, cond_true]
    by_cases hd : isD s[k] = true
    · have hc : 48 ≤ s[k].toNat ∧ s[k].toNat ≤ 57 := by simpa [isD] using hd
      rw [if_pos hd] at hf
      rw [iter_inl hf, ih (k + 1) _ (by omega) (by omega) (by rw [Nat.pow_succ]; omega), hd, Bool.true_and]
    · rw [if_neg hd] at hf
      rw [iter_inr hf, show isD s[k] = false by simpa using hd, Bool.false_and]
      simp
def numOf (s : Str) (most : Nat) : Int × Bool := if (1 ≤ s.length ∧ s.length ≤ most) ∧ (s.all isD) = true then (((valF s 0 : Nat) : Int), true) else (0, false)
theorem digitsOf_eq (s : Str) (most : Nat) (hm : most ≤ 19) : ratio_digitsOf s (most : Int) = some (numOf s most) := by
  unfold ratio_digitsOf numOf
  by_cases hl : 1 ≤ s.length ∧ s.length ≤ most
  · rw [show (decide ((s.length : Int) < 1) || decide ((most : Int) < (s.length : Int))) = false by simp only [Bool.or_eq_false_iff, decide_eq_false_iff_not]; omega, cond_false]
    have := dig_loop s (by omega) s.length 0 0 (by omega) (by omega) (by decide)
    rw [List.drop_zero] at this
    rw [show ((0 : Int), (0 : Int)) = (((0 : Nat) : Int), ((0 : Nat) : Int)) by rfl, this, some_bind]
    by_cases ha : (s.all isD) = true
    · rw [if_pos ha, if_pos ⟨hl, ha⟩]; rfl
    · rw [if_neg ha, if_neg (fun h => ha h.2)]
  · rw [show (decide ((s.length : Int) < 1) || decide ((most : Int) < (s.length : Int))) = true by simp only [Bool.or_eq_true, decide_eq_true_eq]; omega, cond_true, if_neg (fun h => hl h.1)]
theorem number_same (s : Str) (most : Int) : ref01_number s most = ratio_digitsOf s most := by
  unfold ref01_number ratio_digitsOf
  have : ref01_number_l2 s = ratio_digitsOf_l2 s := by
    funext ⟨n, i⟩
    simp only [ref01_number_l2, ratio_digitsOf_l2, Int.mul_comm 10 n]
  rw [this]
  rfl
theorem numOf_val {s : Str} {most : Nat} (hm : most ≤ 19) (h : (numOf s most).2 = true) : ∃ n : Nat, (numOf s most).1 = (n : Int) ∧ n < 10 ^ s.length ∧ n < 10000000000000000000 ∧ s.length ≤ most := by
  unfold numOf at h ⊢
  split at h
  · rename_i hc
    rw [if_pos hc]
    have := valF_lt s 0 0 (by decide) hc.2
    rw [Nat.zero_add] at this
    have h2 := pow10_le s.length (by omega)
    exact ⟨valF s 0, rfl, this, by omega, hc.1.2⟩
  · cases h
theorem numOf_bad {s : Str} {most : Nat} (k : Nat) (hk : k < s.length) (hd : isD s[k] = false) : (numOf s most).2 = false := by
  unfold numOf
  rw [if_neg]
  rintro ⟨_, ha⟩
  have := List.all_eq_true.1 ha s[k] (List.getElem_mem hk)
  rw [hd] at this; cases this
theorem power_loop (n : Nat) (hn : n ≤ 19) : ∀ (m k : Nat), n - k = m → k ≤ n → iter (ratio_power_l2 (n : Int)) (((10 ^ k : Nat) : Int), (k : Int)) = some (((10 ^ n : Nat)) : Int) := by
  intro m
  induction m with
  | zero =>
    intro k hm hk
    have : k = n := by omega
    subst this
    refine iter_inr ?_
    simp [ratio_power_l2]
  | succ m ih =>
    intro k hm hk
    have hp := pow10_le (k + 1) (by omega)
    have hf : ratio_power_l2 (n : Int) (((10 ^ k : Nat) : Int), (k : Int)) = some (.inl (((10 ^ (k + 1) : Nat) : Int), ((k + 1 : Nat) : Int))) := by
      simp only [ratio_power_l2]
      rw [show decide ((k : Int) < (n : Int)) = true by simp only [decide_eq_true_eq]; omega, cond_true, show ((10 ^ k : Nat) : Int) * 10 = ((10 ^ (k + 1) : Nat) : Int) by rw [Nat.pow_succ, Int.natCast_mul]; rfl, wrapU_nat _ (by omega), i64_add1 k (by omega)]
    rw [iter_inl hf]
    exact ih (k + 1) (by omega) (by omega)
theorem power_eq (n : Nat) (hn : n ≤ 19) : ratio_power (n : Int) = some (((10 ^ n : Nat)) : Int) := by
  unfold ratio_power ratio_power_j1
  have := power_loop n hn n 0 (by omega) (by omega)
  rw [show ((1 : Int), (0 : Int)) = (((10 ^ 0 : Nat) : Int), ((0 : Nat) : Int)) by rfl, this, some_bind]
theorem ten_loop (s : Str) (hs : s.length < 1000000000) (p : Nat) (hp : s.length - p ≤ 19) : ∀ (m k : Nat), s.length - k = m → p ≤ k → k ≤ s.length → iter (ref01_Parse_l2 s) (((10 ^ (k - p) : Nat) : Int), (k : Int)) = some (((10 ^ (s.length - p) : Nat)) : Int) := by
  intro m
  induction m with
  | zero =>
    intro k hm hpk hk
    have : k = s.length := by omega
    subst this
    refine iter_inr ?_
    simp [ref01_Parse_l2]
  | succ m ih =>
    intro k hm hpk hk
    have hp' := pow10_le (k - p + 1) (by omega)
    have hf : ref01_Parse_l2 s (((10 ^ (k - p) : Nat) : Int), (k : Int)) = some (.inl (((10 ^ (k + 1 - p) : Nat) : Int), ((k + 1 : Nat) : Int))) := by
      simp only [ref01_Parse_l2]
      rw [show decide ((k : Int) < (s.length : Int)) = true by simp only [decide_eq_true_eq]; omega, cond_true, show ((10 ^ (k - p) : Nat) : Int) * 10 = ((10 ^ (k - p + 1) : Nat) : Int) by rw [Nat.pow_succ, Int.natCast_mul]; rfl, wrapU_nat _ (by omega), i64_add1 k (by omega), show k - p + 1 = k + 1 - p by omega]
    rw [iter_inl hf]
    exact ih (k + 1) (by omega) (by omega) (by omega)
/-! ### where the text is cut -/
def isC (c : UInt8) : Bool := c == 47 || c == 46
theorem u8_eq (c : UInt8) (n : Nat) (hn : n < 256) : (((c.toNat : Nat) : Int) == (n : Int)) = (c == UInt8.ofNat n) := by
  rw [Bool.eq_iff_iff]
  simp only [beq_iff_eq]
  constructor
  · intro h
    apply UInt8.toNat_inj.1
    rw [UInt8.toNat_ofNat']
    omega
  · intro h
    rw [h, UInt8.toNat_ofNat']
    omega
theorem cut_loop (s : Str) (hs : s.length < 1000000000) : ∀ (m k : Nat), s.length - k = m → k ≤ s.length → (∀ j (hj : j < s.length), j < k → isC s[j] = false) → iter (ratio_Parse_l2 s) (k : Int) = some ((s.findIdx isC : Nat) : Int) := by
  intro m
  induction m with
  | zero =>
    intro k hm hk hb
    have : k = s.length := by omega
    subst this
    have e : s.findIdx isC = s.length := by
      rw [List.findIdx_eq_length]
      intro x hx
      obtain ⟨j, hj, rfl⟩ := List.getElem_of_mem hx
      exact hb j hj hj
    rw [e]
    refine iter_inr ?_
    simp only [ratio_Parse_l2]
    rw [req_pos ⟨fun h => by simp at h, fun h => by simp at h⟩]
    simp
  | succ m ih =>
    intro k hm hk hb
    have hk' : k < s.length := by omega
    have e47 := u8_eq s[k] 47 (by omega)
    have e46 := u8_eq s[k] 46 (by omega)
    have hf : ratio_Parse_l2 s (k : Int) = some (if isC s[k] = true then .inr (k : Int) else .inl ((k + 1 : Nat) : Int)) := by
      simp only [ratio_Parse_l2]
      rw [req_pos ⟨fun _ => by omega, fun _ => by omega⟩, show decide ((k : Int) < (s.length : Int)) = true by simp; exact hk', Bool.true_and, sx_nat s k hk', i64_add1 k (by omega)]
      have h1 : (((s[k].toNat : Nat) : Int) != 47) = !(s[k] == 47) := by
        show (!(((s[k].toNat : Nat) : Int) == ((47 : Nat) : Int))) = _
        rw [e47]; rfl
      have h2 : (((s[k].toNat : Nat) : Int) != 46) = !(s[k] == 46) := by
        show (!(((s[k].toNat : Nat) : Int) == ((46 : Nat) : Int))) = _
        rw [e46]; rfl
      rw [h1, h2]
      unfold isC
      cases s[k] == 47 <;> cases s[k] == 46 <;> rfl
    by_cases hc : isC s[k] = true
    · rw [if_pos hc] at hf
      rw [iter_inr hf, (List.findIdx_eq hk').2 ⟨hc, fun j hj => hb j (by omega) hj⟩]
    · rw [if_neg hc] at hf
      rw [iter_inl hf]
      refine ih (k + 1) (by omega) (by omega) fun j hj hjk => ?_
      by_cases hjk' : j < k
      · exact hb j hj hjk'
      · have : j = k := by omega
        subst this; simpa using hc
theorem index_loop (s : Str) (b : Nat) (hb : b < 256) (hs : s.length < 1000000000) : ∀ (m k : Nat), s.length - k = m → k ≤ s.length → (∀ j (hj : j < s.length), j < k → (s[j] == UInt8.ofNat b) = false) →
    iter (ref01_index_l2 s (b : Int)) (k : Int) = some (if s.findIdx (· == UInt8.ofNat b) < s.length then .inr ((s.findIdx (· == UInt8.ofNat b) : Nat) : Int) else .inl ()) := by
  intro m
  induction m with
  | zero =>
    intro k hm hk hbb
    have : k = s.length := by omega
    subst this
    have e : s.findIdx (· == UInt8.ofNat b) = s.length := by
      rw [List.findIdx_eq_length]
      intro x hx
      obtain ⟨j, hj, rfl⟩ := List.getElem_of_mem hx
      exact hbb j hj hj
    rw [e, if_neg (by omega)]
    refine iter_inr ?_
    simp [ref01_index_l2]
  | succ m ih =>
    intro k hm hk hbb
    have hk' : k < s.length := by omega
    have eb := u8_eq s[k] b hb
    have hf : ref01_index_l2 s (b : Int) (k : Int) = some (if (s[k] == UInt8.ofNat b) = true then .inr (.inr (k : Int)) else .inl ((k + 1 : Nat) : Int)) := by
      simp only [ref01_index_l2]
      rw [show decide ((k : Int) < (s.length : Int)) = true by simp; exact hk', cond_true, req_pos (by omega), sx_nat s k hk', i64_add1 k (by omega), eb]
      cases s[k] == UInt8.ofNat b <;> rfl
    by_cases hc : (s[k] == UInt8.ofNat b) = true
    · rw [if_pos hc] at hf
      have e := (List.findIdx_eq (p := (· == UInt8.ofNat b)) hk').2 ⟨hc, fun j hj => hbb j (by omega) hj⟩
      rw [iter_inr hf, e, if_pos hk']
    · rw [if_neg hc] at hf
      rw [iter_inl hf]
      refine ih (k + 1) (by omega) (by omega) fun j hj hjk => ?_
      by_cases hjk' : j < k
      · exact hbb j hj hjk'
      · have : j = k := by omega
        subst this; simpa using hc
theorem index_eq (s : Str) (b : Nat) (hb : b < 256) (hs : s.length < 1000000000) : ref01_index s (b : Int) = some (if s.findIdx (· == UInt8.ofNat b) < s.length then ((s.findIdx (· == UInt8.ofNat b) : Nat) : Int) else -1) := by
  unfold ref01_index ref01_index_j1
  have : iter (ref01_index_l2 s (b : Int)) (0 : Int) = _ := index_loop s b hb hs s.length 0 (by omega) (by omega) (fun j hj h => by omega)
  rw [this, some_bind]
  by_cases hc : s.findIdx (· == UInt8.ofNat b) < s.length
  · rw [if_pos hc, if_pos hc]
  · rw [if_neg hc, if_neg hc]
/-! ### the two readers -/
theorem redS (neg : Bool) (n d : Nat) (hn : n < 340282366920938463463374607431768211456) (hd : 0 < d) (hd2 : d < 18446744073709551616) : ref01_Reduce (neg && decide (n ≠ 0)) (WR n) (WR d) = some (redOf neg n d) := by
  rw [Reduce_eq _ _ _ hn hd (by omega)]
  by_cases h : n = 0
  · subst h; rw [red_zero, red_zero neg]
  · simp [h]
theorem body_eq (s t : Str) (neg : Bool) (hneg : ((decide ((0 : Int) < (s.length : Int))) && ((sx s (0 : Int)) == (45 : Int))) = neg) (hs : t.length < 1000000000) : ∃ r, ratio_Parse_j3 t neg = some r ∧ ref01_Parse_j3 s t = some r := by
  unfold ratio_Parse_j3 ref01_Parse_j3
  rw [hneg]
  have hcut : iter (ratio_Parse_l2 t) (0 : Int) = _ := cut_loop t hs t.length 0 (by omega) (by omega) (fun j hj h => by omega)
  rw [hcut, some_bind]
  have hi47 := index_eq t 47 (by omega) hs
  have hi46 := index_eq t 46 (by omega) hs
  rw [show ((47 : Nat) : Int) = 47 by rfl] at hi47
  rw [show ((46 : Nat) : Int) = 46 by rfl] at hi46
  rw [hi47, some_bind, hi46, some_bind]
  simp only [number_same]
  have d19 : ∀ x : Str, ratio_digitsOf x (19 : Int) = some (numOf x 19) := fun x => digitsOf_eq x 19 (by omega)
  have d9 : ∀ x : Str, ratio_digitsOf x (9 : Int) = some (numOf x 9) := fun x => digitsOf_eq x 9 (by omega)
  unfold ratio_Parse_j1
  simp only [d19, d9, some_bind]
  -- the places
  have hcl := List.findIdx_le_length (p := isC) (xs := t)
  have e47 : (· == UInt8.ofNat 47) = (fun c : UInt8 => c == 47) := rfl
  have e46 : (· == UInt8.ofNat 46) = (fun c : UInt8 => c == 46) := rfl
  generalize hc : t.findIdx isC = c at *
  rw [req_pos (by omega), Int.toNat_natCast]
  by_cases hce : c = t.length
  · -- neither
    have hall : ∀ x ∈ t, isC x = false := List.findIdx_eq_length.1 (by rw [hc]; exact hce)
    have n47 : t.findIdx (· == UInt8.ofNat 47) = t.length := List.findIdx_eq_length.2 fun x hx => by
      have := hall x hx; simp only [isC, Bool.or_eq_false_iff] at this; exact this.1
    have n46 : t.findIdx (· == UInt8.ofNat 46) = t.length := List.findIdx_eq_length.2 fun x hx => by
      have := hall x hx; simp only [isC, Bool.or_eq_false_iff] at this; exact this.2
    rw [n47, n46, if_neg (by omega), hce, List.take_length]
    rw [show decide ((0 : Int) ≤ -1) = false by decide, cond_false, show decide ((-1 : Int) < 0) = true by decide, cond_true]
    rw [show ((t.length : Int) == (t.length : Int)) = true by simp]
    rcases hn : numOf t 19 with ⟨v, b⟩
    cases b with
    | false => exact ⟨_, rfl, rfl⟩
    | true =>
      obtain ⟨n, h1, h2, h3, h4⟩ := numOf_val (s := t) (most := 19) (by omega) (by rw [hn])
      rw [hn] at h1
      dsimp only at h1 ⊢
      subst h1
      have r1 := reduced0 neg n 1 (by omega) (by omega) (by omega)
      have r2 := redS neg n 1 (by omega) (by omega) (by omega)
      rw [WR_small n (by omega), WR_small 1 (by omega)] at r2
      rw [show decide ((0 : Int) < (n : Int)) = decide (n ≠ 0) by rw [Bool.eq_iff_iff]; simp; omega]
      refine ⟨redOf neg n 1, ?_, ?_⟩
      · simp only [Bool.not_true, cond_false, cond_true]
        rw [show ratio_reduced ⟨neg, ⟨0, (n : Int)⟩⟩ 1 = some (redOf neg n 1) from r1]; rfl
      · simp only [Bool.not_true, cond_false]
        rw [show ref01_Reduce (neg && decide (n ≠ 0)) ⟨0, (n : Int)⟩ ⟨0, 1⟩ = some (redOf neg n 1) from r2]; rfl
  · have hlt : c < t.length := by omega
    have hcc : isC t[c] = true := by
      have := List.findIdx_getElem (p := isC) (xs := t) (w := by rw [hc]; exact hlt)
      simpa only [hc] using this
    have hbef : ∀ j (hj : j < c), isC t[j] = false := fun j hj => List.not_of_lt_findIdx (p := isC) (xs := t) (by rw [hc]; exact hj)
    rw [show ((c : Int) == (t.length : Int)) = false by simp; omega, i64_add1 c (by omega), sx_nat t c hlt]
    rw [req_pos (by omega), req_pos (by omega), Int.toNat_natCast]
    by_cases h47 : (t[c] == 47) = true
    · -- a slash
      have n47 : t.findIdx (· == UInt8.ofNat 47) = c := (List.findIdx_eq hlt).2 ⟨h47, fun j hj => by
        have := hbef j hj; simp only [isC, Bool.or_eq_false_iff] at this; exact this.1⟩
      rw [n47, if_pos hlt, show decide ((0 : Int) ≤ (c : Int)) = true by simp, cond_true]
      have hs47 : (((t[c].toNat : Nat) : Int) == 47) = true := by
        have := u8_eq t[c] 47 (by omega)
        rw [show ((47 : Nat) : Int) = 47 by rfl] at this
        rw [this]; exact h47
      rw [hs47, cond_true, req_pos (by omega), Int.toNat_natCast, i64_add1 c (by omega), req_pos (by omega), Int.toNat_natCast]
      rcases hn : numOf (t.take c) 19 with ⟨v, b⟩
      rcases hd : numOf (t.drop (c + 1)) 19 with ⟨w, e⟩
      dsimp only
      cases b with
      | false => exact ⟨_, rfl, rfl⟩
      | true =>
        cases e with
        | false => exact ⟨_, rfl, rfl⟩
        | true =>
          simp only [Bool.not_true, cond_false, Bool.or_self]
          obtain ⟨n, h1, h2, h3, h4⟩ := numOf_val (s := t.take c) (most := 19) (by omega) (by rw [hn])
          obtain ⟨m, g1, g2, g3, g4⟩ := numOf_val (s := t.drop (c + 1)) (most := 19) (by omega) (by rw [hd])
          rw [hn] at h1
          rw [hd] at g1
          dsimp only at h1 g1
          subst h1 g1
          by_cases hm : m = 0
          · rw [show ((m : Int) == 0) = true by simpa using hm]; exact ⟨_, rfl, rfl⟩
          · rw [show ((m : Int) == 0) = false by simpa using hm, cond_false, cond_false]
            have r1 := reduced0 neg n m (by omega) (by omega) (by omega)
            have r2 := redS neg n m (by omega) (by omega) (by omega)
            rw [WR_small n (by omega), WR_small m (by omega)] at r2
            rw [show decide ((0 : Int) < (n : Int)) = decide (n ≠ 0) by rw [Bool.eq_iff_iff]; simp; omega, r1, r2]
            exact ⟨_, rfl, rfl⟩
    · -- a point
      have h46 : (t[c] == 46) = true := by
        unfold isC at hcc
        rw [show (t[c] == 47) = false by simpa using h47, Bool.false_or] at hcc
        exact hcc
      have hd46 : isD t[c] = false := by
        have : t[c] = 46 := by simpa using h46
        rw [this]; decide
      have n46 : t.findIdx (· == UInt8.ofNat 46) = c := (List.findIdx_eq hlt).2 ⟨h46, fun j hj => by
        have := hbef j hj; simp only [isC, Bool.or_eq_false_iff] at this; exact this.2⟩
      have hs47 : (((t[c].toNat : Nat) : Int) == 47) = false := by
        have := u8_eq t[c] 47 (by omega)
        rw [show ((47 : Nat) : Int) = 47 by rfl] at this
        rw [this]; simpa using h47
      rw [n46, if_pos hlt, hs47, cond_false]
      by_cases hsl : t.findIdx (· == UInt8.ofNat 47) < t.length
      · -- a slash behind the point: neither reads it
        rw [if_pos hsl]
        have hg : (t[t.findIdx (· == UInt8.ofNat 47)] == UInt8.ofNat 47) = true := List.findIdx_getElem (p := (· == UInt8.ofNat 47)) (xs := t) (w := hsl)
        generalize hj : t.findIdx (· == UInt8.ofNat 47) = j at *
        have hcj : c < j := by
          rcases Nat.lt_or_ge c j with h | h
          · exact h
          · exfalso
            rcases Nat.lt_or_ge j c with h2 | h2
            · have := hbef j h2
              unfold isC at this
              rw [show (t[j] == 47) = true from hg] at this
              simp at this
            · have : j = c := by omega
              subst this; exact h47 hg
        have b1 : (numOf (t.take j) 19).2 = false := numOf_bad c (by simp; omega) (by simpa using hd46)
        have b2 : (numOf (t.drop (c + 1)) 9).2 = false := numOf_bad (j - (c + 1)) (by simp; omega) (by
          have : t[j] = 47 := by simpa using hg
          have e : (t.drop (c + 1))[j - (c + 1)]'(by simp; omega) = t[j] := by
            rw [List.getElem_drop]; congr 1; omega
          rw [e, this]; decide)
        rw [show decide ((0 : Int) ≤ (j : Int)) = true by simp, cond_true, req_pos (by omega), Int.toNat_natCast, i64_add1 j (by omega), req_pos (by omega)]
        rcases hn : numOf (t.take c) 19 with ⟨v, b⟩
        rcases hn1 : numOf (t.take j) 19 with ⟨v1, x1⟩
        rcases hn2 : numOf (t.drop (c + 1)) 9 with ⟨v2, x2⟩
        rw [hn1] at b1
        rw [hn2] at b2
        dsimp only at b1 b2 ⊢
        subst b1 b2
        cases b <;> exact ⟨_, rfl, rfl⟩
      · rw [if_neg hsl, show decide ((0 : Int) ≤ -1) = false by decide, cond_false, show decide ((c : Int) < 0) = false by simp, cond_false, req_pos (by omega), Int.toNat_natCast, i64_add1 c (by omega), req_pos (by omega), Int.toNat_natCast]
        rcases hn : numOf (t.take c) 19 with ⟨v, b⟩
        rcases hd : numOf (t.drop (c + 1)) 9 with ⟨w, e⟩
        dsimp only
        cases b with
        | false => exact ⟨_, rfl, rfl⟩
        | true =>
          cases e with
          | false => exact ⟨_, rfl, rfl⟩
          | true =>
            simp only [Bool.not_true, cond_false, Bool.or_self]
            obtain ⟨n, h1, h2, h3, h4⟩ := numOf_val (s := t.take c) (most := 19) (by omega) (by rw [hn])
            obtain ⟨m, g1, g2, g3, g4⟩ := numOf_val (s := t.drop (c + 1)) (most := 9) (by omega) (by rw [hd])
            rw [hn] at h1
            rw [hd] at g1
            dsimp only at h1 g1
            subst h1 g1
            have hlen : (t.drop (c + 1)).length = t.length - (c + 1) := List.length_drop
            have ht := ten_loop t hs (c + 1) (by omega) (t.length - (c + 1)) (c + 1) (by omega) (by omega) (by omega)
            rw [show c + 1 - (c + 1) = 0 by omega] at ht
            have hp := power_eq (t.length - (c + 1)) (by omega)
            have h10 : 10 ^ (t.length - (c + 1)) ≤ 1000000000 := by
              have := Nat.pow_le_pow_right (show 0 < 10 by omega) (show t.length - (c + 1) ≤ 9 by omega)
              simpa using this
            have h10' : 0 < 10 ^ (t.length - (c + 1)) := Nat.pos_of_neZero _
            have hm1 : n * 10 ^ (t.length - (c + 1)) ≤ 10000000000000000000 * 1000000000 := Nat.mul_le_mul (by omega) h10
            rw [hlen, hp, some_bind, show ((1 : Int), ((c + 1 : Nat) : Int)) = (((10 ^ 0 : Nat) : Int), ((c + 1 : Nat) : Int)) by rfl, ht, some_bind]
            unfold ref01_Parse_j1
            rw [hneg]
            generalize 10 ^ (t.length - (c + 1)) = T at *
            rw [product_eq _ _ (by omega) (by omega), some_bind, Product_eq _ _ (by omega) (by omega), some_bind]
            have w1 : (⟨(0 : Int), (m : Int)⟩ : ratio_wide) = WW m := (WW_small m (by omega)).symm
            have w2 : (⟨(0 : Int), (m : Int)⟩ : ref01_Wide) = WR m := (WR_small m (by omega)).symm
            have w3 : (⟨(0 : Int), (T : Int)⟩ : ref01_Wide) = WR T := (WR_small T (by omega)).symm
            rw [w1, w2, w3, show (⟨hiW (n * T), loW (n * T)⟩ : ratio_wide) = WW (n * T) by rfl, plusW _ _ (by omega), some_bind, Plus_eq _ _ (by omega), some_bind, reducedW _ _ _ (by omega) h10' (by omega)]
            have hz : ((WR (n * T + m)).Hi == 0 && (WR (n * T + m)).Lo == 0) = decide (n * T + m = 0) := WR_zero _ (by omega)
            rw [hz, show (neg && !decide (n * T + m = 0)) = (neg && decide (n * T + m ≠ 0)) by simp, redS _ _ _ (by omega) h10' (by omega)]
            exact ⟨_, rfl, rfl⟩
theorem Parse_same (s : Str) (hs : s.length < 1000000000) : ∃ r, ratio_Parse s = some r ∧ ref01_Parse s = some r := by
  unfold ratio_Parse ref01_Parse
  rw [req_pos (fun h => by simp at h; omega), req_pos (fun h => by simp at h; omega)]
  rcases hc : ((decide ((0 : Int) < (s.length : Int))) && ((sx s (0 : Int)) == (45 : Int))) with _ | _
  · rw [cond_false, cond_false]
    exact body_eq s s false hc hs
  · have h0 : 0 < s.length := by
      simp only [Bool.and_eq_true, decide_eq_true_eq] at hc; omega
    rw [cond_true, cond_true, req_pos (by omega), req_pos (by omega)]
    exact body_eq s _ true hc (by simp; omega)
theorem pure_RatioParses (s : Str) : law01_RatioParses s = some true := by
  unfold law01_RatioParses
  rcases bcases (decide ((60 : Int) < (s.length : Int))) with hc | hc <;> rw [hc]
  · rfl
  · have hl : s.length ≤ 60 := by simp at hc; omega
    obtain ⟨r, h1, h2⟩ := Parse_same s (by omega)
    rw [cond_false, h1, h2]
    simp [awake_eq, req_pos]
end Go.LS
