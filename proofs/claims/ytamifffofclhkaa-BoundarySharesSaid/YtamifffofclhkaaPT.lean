/-
  Ratios, distributions and dice: what a boundary law needs of them.
  No condition: lemmas, taken from other plain texts by pick.py.
-/
import Derived.Test.YtamifffofclhkaaPR
import Derived.Test.YtamifffofclhkaaD3
set_option linter.all false
set_option linter.unusedSimpArgs false
set_option linter.unusedVariables false
set_option maxRecDepth 20000
namespace Go.LS

def sv (neg : Bool) (n : Nat) : Int := if neg = true then -(n : Int) else n
theorem redOf_val (neg : Bool) (n d : Nat) (hd : 0 < d) (r : api_Ratio) (h : redOf neg n d = (r, 0)) : vR r = true ∧ r.Num * d = sv neg n * r.Den ∧ (0 < r.Den) := by
  have hg : 0 < Nat.gcd n d := Nat.gcd_pos_of_pos_right _ hd
  obtain ⟨x, hx⟩ := Nat.gcd_dvd_left n d
  obtain ⟨y, hy⟩ := Nat.gcd_dvd_right n d
  have hx' : n / Nat.gcd n d = x := by conv => lhs; lhs; rw [hx]
                                       exact Nat.mul_div_cancel_left x hg
  have hy' : d / Nat.gcd n d = y := by conv => lhs; lhs; rw [hy]
                                       exact Nat.mul_div_cancel_left y hg
  have hcop : Nat.gcd x y = 1 := by rw [← hx', ← hy']; exact Nat.gcd_div_gcd_div_gcd_of_pos_right hd
  have hy0 : 0 < y := by
    rcases Nat.eq_zero_or_pos y with h0 | h0
    · rw [h0, Nat.mul_zero] at hy; omega
    · exact h0
  unfold redOf fitOf at h
  rw [hx', hy'] at h
  split at h
  · rename_i hle
    obtain ⟨rfl⟩ := Prod.mk.inj h
    refine ⟨?_, ?_, by show (0 : Int) < (y : Int); omega⟩
    · rw [vR_iff]
      refine ⟨by show (1 : Int) ≤ (y : Int); omega, by show (y : Int) ≤ _; omega, ?_, ?_, ?_⟩
      · show _ ≤ (if neg = true then -(x : Int) else x); split <;> omega
      · show (if neg = true then -(x : Int) else x) ≤ _; split <;> omega
      · show Nat.gcd (if neg = true then -(x : Int) else x).natAbs ((y : Int)).natAbs = 1
        cases neg <;> simp [hcop]
    · show (if neg = true then -(x : Int) else x) * (d : Int) = sv neg n * (y : Int)
      unfold sv
      have e : (x : Int) * (d : Int) = (n : Int) * (y : Int) := by
        rw [← Int.natCast_mul, ← Int.natCast_mul]
        congr 1
        calc x * d = x * (Nat.gcd n d * y) := by rw [← hy]
          _ = Nat.gcd n d * x * y := by rw [Nat.mul_left_comm, Nat.mul_assoc]
          _ = n * y := by rw [← hx]
      cases neg
      · simpa using e
      · simp only [if_true, Int.neg_mul, e]
  · cases h
theorem iter_foldR {α β ρ : Type} (l : List α) (f : β × Int → Option ((β × Int) ⊕ ρ)) (g : β → α → β) (fin : β → ρ) (I : Nat → β → Prop)
    (hstep : ∀ (k : Nat) (b : β) (hk : k < l.length), I k b → f (b, (k : Int)) = some (.inl (g b l[k], ((k + 1 : Nat) : Int))) ∧ I (k + 1) (g b l[k]))
    (hend : ∀ b, I l.length b → f (b, (l.length : Int)) = some (.inr (fin b))) (b : β) (h0 : I 0 b) : iter f (b, (0 : Int)) = some (fin (l.foldl g b)) := by
  have key : ∀ (n k : Nat) (b : β), l.length - k = n → k ≤ l.length → I k b → iter f (b, (k : Int)) = some (fin ((l.drop k).foldl g b)) := by
    intro n
    induction n with
    | zero =>
      intro k b hn hk hI
      have : k = l.length := by omega
      subst this
      rw [iter_inr (hend b hI), List.drop_length]; rfl
    | succ n ih =>
      intro k b hn hk hI
      have hk' : k < l.length := by omega
      obtain ⟨h1, h2⟩ := hstep k b hk' hI
      rw [iter_inl h1, ih (k + 1) _ (by omega) (by omega) h2, List.drop_eq_getElem_cons hk']; rfl
  have := key _ 0 b rfl (by omega) h0
  simpa using this
theorem iter_of_N {σ ρ : Type} {f : σ → Option (σ ⊕ ρ)} {s : σ} {r : ρ} (n : Nat) (h : iterN f n s = some r) : iter f s = some r := iter_iff.2 ⟨n, h⟩

def sumI : List Int → Int
  | [] => 0
  | a :: l => a + sumI l
theorem sumI_append (l m : List Int) : sumI (l ++ m) = sumI l + sumI m := by
  induction l with
  | nil => simp [sumI]
  | cons a l ih => simp only [List.cons_append, sumI, ih]; omega
theorem sumI_take_succ (l : List Int) (k : Nat) (h : k < l.length) : sumI (l.take (k + 1)) = sumI (l.take k) + l[k] := by
  rw [List.take_succ_eq_append_getElem h, sumI_append]; simp [sumI]
theorem foldl_sum (l : List Int) : ∀ b : Int, l.foldl (fun b a => b + a) b = b + sumI l := by
  induction l with
  | nil => intro b; simp [sumI]
  | cons a l ih => intro b; simp only [List.foldl_cons, ih, sumI]; omega
theorem sumI_bound (l : List Int) (k : Int) (h : ∀ c ∈ l, 0 ≤ c ∧ c ≤ k) : 0 ≤ sumI l ∧ sumI l ≤ k * l.length := by
  induction l with
  | nil => simp [sumI]
  | cons a l ih =>
    have h1 := h a (by simp)
    have h2 := ih fun c hc => h c (by simp [hc])
    simp only [sumI, List.length_cons]
    have : k * ((l.length + 1 : Nat) : Int) = k * l.length + k := by rw [Int.natCast_add, Int.mul_add]; simp
    omega
theorem sumI_mono (l : List Int) (h : ∀ c ∈ l, 0 ≤ c) : ∀ (j k : Nat), j ≤ k → sumI (l.take j) ≤ sumI (l.take k) := by
  intro j k hjk
  induction k with
  | zero => have : j = 0 := by omega
            subst this; omega
  | succ k ih =>
    by_cases hj : j = k + 1
    · subst hj; omega
    · have h1 := ih (by omega)
      by_cases hk : k < l.length
      · rw [sumI_take_succ l k hk]
        have := h l[k] (List.getElem_mem hk)
        omega
      · rw [List.take_of_length_le (show l.length ≤ k + 1 by omega)]
        rw [List.take_of_length_le (show l.length ≤ k by omega)] at h1
        exact h1
structure Sm (d : api_Distribution) : Prop where
  lo : 1 ≤ d.Counts.length
  hi : d.Counts.length ≤ 20
  c : ∀ c ∈ d.Counts, 0 ≤ c ∧ c ≤ 100
theorem Sm.take {d : api_Distribution} (h : Sm d) (k : Nat) : 0 ≤ sumI (d.Counts.take k) ∧ sumI (d.Counts.take k) ≤ 2000 := by
  have := sumI_bound (d.Counts.take k) 100 (fun c hc => h.c c (List.mem_of_mem_take hc))
  have h2 : ((d.Counts.take k).length : Int) ≤ 20 := by have := h.hi; simp; omega
  omega
theorem Sm.all {d : api_Distribution} (h : Sm d) : 0 ≤ sumI d.Counts ∧ sumI d.Counts ≤ 2000 := by
  have := h.take d.Counts.length
  rwa [List.take_length] at this
theorem dValid (d : api_Distribution) (h : Sm d) : distribution_Valid d = some true := by
  unfold distribution_Valid
  have h1 := h.lo
  have h2 := h.hi
  rw [show ((decide ((d.Counts.length : Int) < (1 : Int))) || (decide ((201 : Int) < (d.Counts.length : Int)))) = false by simp; omega, cond_false]
  rw [iter_foldR d.Counts (distribution_Valid_l2 d) (fun b c => b + c) (fun b => .inl b) (fun k b => b = sumI (d.Counts.take k)) (fun k b hk hb => by
    have hc := h.c d.Counts[k] (List.getElem_mem hk)
    have ht := h.take k
    refine ⟨?_, by rw [sumI_take_succ _ _ hk, hb]⟩
    simp only [distribution_Valid_l2, ix_nat d.Counts k hk]
    rw [show decide ((k : Int) < (d.Counts.length : Int)) = true by simp; omega, cond_true, req_pos (by omega), show ((decide (d.Counts[k] < (0 : Int))) || (decide ((1048576 : Int) < d.Counts[k]))) = false by simp; omega, cond_false, i64_add1 k (by omega), wrap64 (by omega) (by omega)]) (fun b _ => by simp [distribution_Valid_l2]) 0 (by simp [sumI])]
  simp only [Option.bind, distribution_Valid_j1, foldl_sum]
  have := h.all
  rw [show decide (0 + sumI d.Counts ≤ (1048576 : Int)) = true by simp; omega]
def below (d : api_Distribution) (s : Int) : Int := sumI (d.Counts.take s.toNat)
theorem dBelow (d : api_Distribution) (s : Int) (h : Sm d) : distribution_Below d s = some (below d s) := by
  unfold distribution_Below below
  rw [dValid d h]
  simp only [Option.bind, Bool.not_true, cond_false]
  have h2 := h.hi
  have := iter_val (f := distribution_Below_l2 d s) (fun x => 0 ≤ x.2 ∧ x.2 ≤ d.Counts.length ∧ x.2.toNat ≤ s.toNat ∧ x.1 = sumI (d.Counts.take x.2.toNat)) (fun x => (d.Counts.length - x.2).toNat) (fun _ => sumI (d.Counts.take s.toNat)) (by
    rintro ⟨b, i⟩ ⟨k1, k2, k3, k4⟩
    simp only at k1 k2 k3 k4
    obtain ⟨k, rfl⟩ : ∃ k : Nat, i = k := ⟨i.toNat, by omega⟩
    simp only [Int.toNat_natCast] at k3 k4
    simp only [distribution_Below_l2]
    rcases bcases ((decide ((k : Int) < (d.Counts.length : Int))) && (decide ((k : Int) < s))) with hc | hc <;> rw [hc]
    · left
      simp only [Bool.and_eq_true, decide_eq_true_eq] at hc
      have hk : k < d.Counts.length := by omega
      have hcc := h.c d.Counts[k] (List.getElem_mem hk)
      have ht := h.take k
      rw [cond_true, req_pos (by omega), ix_nat d.Counts k hk, i64_add1 k (by omega), wrap64 (by omega) (by omega)]
      refine ⟨_, rfl, ⟨by omega, by simp; omega, by simp; omega, ?_⟩, ?_, by first | rfl | trivial⟩
      · show b + d.Counts[k] = sumI (d.Counts.take ((k + 1 : Nat) : Int).toNat)
        rw [Int.toNat_natCast, sumI_take_succ _ _ hk, k4]
      · show ((d.Counts.length : Int) - ((k + 1 : Nat) : Int)).toNat < ((d.Counts.length : Int) - (k : Int)).toNat
        omega
    · right
      simp only [Bool.and_eq_false_iff, decide_eq_false_iff_not] at hc
      rw [cond_false, k4]
      congr 3
      by_cases hl : k = d.Counts.length
      · rw [hl, List.take_length, List.take_of_length_le (by omega)]
      · have : k = s.toNat := by omega
        rw [this]) (0, 0) ⟨by simp, by simp, by simp, by simp [sumI]⟩
  rw [this]
  rfl
def count (d : api_Distribution) : Int := sumI d.Counts
theorem below_len (d : api_Distribution) : below d (d.Counts.length : Int) = count d := by simp [below, count]
theorem dCount (d : api_Distribution) (h : Sm d) : distribution_Count d = some (count d) := by
  unfold distribution_Count
  rw [dBelow d _ h, below_len]; rfl
structure DOK (t : mark_Dice) : Prop where
  len : t.L.length ≤ 600
  lo : 0 ≤ t.At
  hi : t.At ≤ t.L.length
theorem dNext (t : mark_Dice) (n : Int) (h : DOK t) (hn : n ≤ 4611686018427387904) : ∃ y t', mark_Dice_Next t n = some (y, t') ∧ DOK t' ∧ 0 ≤ y ∧ (1 ≤ n → y < n) := by
  obtain ⟨h1, h2, h3⟩ := h
  unfold mark_Dice_Next mark_Dice_Next_j1
  rcases bcases ((decide ((t.L.length : Int) ≤ t.At)) || (decide (n < (1 : Int)))) with hc | hc <;> rw [hc]
  · exact ⟨_, _, rfl, ⟨h1, h2, h3⟩, by omega, by omega⟩
  · simp only [Bool.or_eq_false_iff, decide_eq_false_iff_not] at hc
    rw [cond_false, req_pos (by omega)]
    generalize ix t.L t.At = x
    have h4 := Int.tmod_lt_of_pos x (show 0 < n by omega)
    have h5 : -n < x.tmod n := Int.lt_tmod_of_pos x (show 0 < n by omega)
    have hd : DOK ⟨t.L, IntKind.i64.wrap (t.At + 1)⟩ := ⟨h1, by show 0 ≤ IntKind.i64.wrap (t.At + 1); rw [wrap64 (by omega) (by omega)]; omega, by show IntKind.i64.wrap (t.At + 1) ≤ (t.L.length : Int); rw [wrap64 (by omega) (by omega)]; omega⟩
    rcases bcases (decide (Int.tmod x n < (0 : Int))) with hd2 | hd2 <;> rw [hd2]
    · have : x.tmod n < 0 := by simpa using hd2
      exact ⟨_, _, rfl, hd, by rw [wrap64 (by omega) (by omega)]; omega, by rw [wrap64 (by omega) (by omega)]; omega⟩
    · have : 0 ≤ x.tmod n := by simpa using hd2
      exact ⟨_, _, rfl, hd, this, fun _ => h4⟩
theorem dPick (t : mark_Dice) (l : List Int) (h : DOK t) (h1 : 1 ≤ l.length) (h2 : l.length ≤ 1000) : ∃ y t', mark_Dice_Pick t l = some (y, t') ∧ DOK t' ∧ y ∈ l := by
  obtain ⟨y, t', e1, h3, h4, h5⟩ := dNext t l.length h (by omega)
  have h6 := h5 (by omega)
  exact ⟨_, t', by unfold mark_Dice_Pick; rw [e1]; simp only [Option.bind]; rw [req_pos ⟨h4, h6⟩], h3, ix_mem l y h4 h6⟩
theorem dDist (t : mark_Dice) (n : Int) (full : Bool) (h : DOK t) (hn : 0 ≤ n) (hn2 : n ≤ 15) : ∃ x t', mark_Dice_Distribution t n full = some (x, t') ∧ DOK t' ∧ Sm x ∧ x.Counts.length ≤ n + 1 ∧ ∀ c ∈ x.Counts, c ≤ 6 := by
  have main : ∀ least : Int, 0 ≤ least → least ≤ 1 → ∃ x t', mark_Dice_Distribution_j3 t n least = some (x, t') ∧ DOK t' ∧ Sm x ∧ x.Counts.length ≤ n + 1 ∧ ∀ c ∈ x.Counts, c ≤ 6 := by
    intro least hl0 hl1
    unfold mark_Dice_Distribution_j3
    rw [wrap64 (n := n + 1) (by omega) (by omega)]
    obtain ⟨y, t1, e1, h1, h2, h3⟩ := dNext t (n + 1) h (by omega)
    have h4 := h3 (by omega)
    rw [e1]
    simp only [Option.bind]
    rw [wrap64 (n := 1 + y) (by omega) (by omega)]
    obtain ⟨⟨L, A, w⟩, e2, g1, g2, g3⟩ := iter_inv (f := mark_Dice_Distribution_l2 least) (fun s => 0 ≤ s.1 ∧ s.1 + s.2.2.2.length = 1 + y ∧ DOK ⟨s.2.1, s.2.2.1⟩ ∧ ∀ c ∈ s.2.2.2, 0 ≤ c ∧ c ≤ 6) (fun s => s.1.toNat)
      (fun r => DOK ⟨r.1, r.2.1⟩ ∧ (r.2.2.length : Int) = 1 + y ∧ ∀ c ∈ r.2.2, 0 ≤ c ∧ c ≤ 6) (by
        rintro ⟨i, L, A, w⟩ ⟨k1, k2, k3, k4⟩
        simp only at k1 k2 k3 k4
        simp only [mark_Dice_Distribution_l2]
        rcases bcases (decide ((0 : Int) < i)) with hc | hc <;> rw [hc]
        · left
          have hi : 0 < i := by simpa using hc
          obtain ⟨a, ta, ea, ha, a1⟩ := dPick ⟨L, A⟩ [(0 : Int), (1 : Int), (2 : Int), (5 : Int), (0 : Int)] k3 (by decide) (by decide)
          have a2 : 0 ≤ a ∧ a ≤ 5 := by simp at a1; omega
          simp only [cond_true, ea, Option.bind]
          rw [req_pos (by simp; omega), wrap64 (n := i - 1) (by omega) (by omega), wrap64 (n := least + a) (by omega) (by omega)]
          refine ⟨_, rfl, ⟨by show 0 ≤ i - 1; omega, by simp; omega, ha, ?_⟩, ?_⟩
          · intro c hc
            rcases List.mem_append.1 hc with hc | hc
            · exact k4 c hc
            · simp at hc; omega
          · show (i - 1).toNat < i.toNat
            omega
        · right
          have hi : i = 0 := by simp at hc; omega
          exact ⟨_, rfl, k3, by show (w.length : Int) = 1 + y; omega, k4⟩) (1 + y, t1.L, t1.At, []) ⟨by show 0 ≤ 1 + y; omega, by simp, h1, by simp⟩
    rw [e2]
    refine ⟨_, _, rfl, g1, ⟨by show 1 ≤ w.length; simp only at g2; omega, by show w.length ≤ 20; simp only at g2; omega, fun c hc => by have := g3 c hc; omega⟩, by show (w.length : Int) ≤ n + 1; simp only at g2; omega, fun c hc => (g3 c hc).2⟩
  unfold mark_Dice_Distribution
  cases full
  · exact main 0 (by omega) (by omega)
  · exact main 1 (by omega) (by omega)
theorem dRoll (t : List Int) (h : t.length ≤ 600) : ∃ d, mark_Roll t = some d ∧ DOK d := ⟨_, rfl, ⟨h, by simp, by simp⟩⟩
theorem cmpI_mul (x y c : Int) (h : 0 < c) : cmpI (x * c) (y * c) = cmpI x y := by
  unfold cmpI
  have e1 : x * c < y * c ↔ x < y := ⟨fun hh => Int.lt_of_mul_lt_mul_right hh (by omega), fun hh => Int.mul_lt_mul_of_pos_right hh h⟩
  have e2 : y * c < x * c ↔ y < x := ⟨fun hh => Int.lt_of_mul_lt_mul_right hh (by omega), fun hh => Int.mul_lt_mul_of_pos_right hh h⟩
  simp only [e1, e2]
theorem newOf_ok (a N : Int) (h1 : -1152921504606846976 ≤ a) (h2 : a ≤ 1152921504606846976) (h3 : 0 < N) (h4 : N ≤ 1152921504606846976) : ∃ r, newOf a N = (r, 0) ∧ vR r = true ∧ r.Num * N = a * r.Den ∧ 0 < r.Den := by
  unfold newOf
  rw [if_neg (by omega)]
  have e : ∃ r, redOf (!(decide (a < 0) == decide (N < 0))) a.natAbs N.natAbs = (r, 0) := by
    unfold redOf fitOf
    have k1 := Nat.div_le_self a.natAbs (Nat.gcd a.natAbs N.natAbs)
    have k2 := Nat.div_le_self N.natAbs (Nat.gcd a.natAbs N.natAbs)
    rw [if_pos ⟨by omega, by omega⟩]
    exact ⟨_, rfl⟩
  obtain ⟨r, hr⟩ := e
  obtain ⟨g1, g2, g3⟩ := redOf_val _ _ _ (by omega) r hr
  refine ⟨r, hr, g1, ?_, g3⟩
  rw [show ((N.natAbs : Nat) : Int) = N by omega] at g2
  rw [g2]
  congr 1
  unfold sv
  rw [show decide (N < 0) = false by simp; omega]
  by_cases h : a < 0
  · simp [h]; omega
  · simp [h]; omega
theorem cmpR_new (r1 r2 : api_Ratio) (a N b M : Int) (v1 : vR r1 = true) (v2 : vR r2 = true) (e1 : r1.Num * N = a * r1.Den) (e2 : r2.Num * M = b * r2.Den) (d1 : 0 < r1.Den) (d2 : 0 < r2.Den) (hN : 0 < N) (hM : 0 < M) : cmpR r1 r2 = cmpI (a * M) (b * N) := by
  unfold cmpR
  rw [if_pos ⟨v1, v2⟩, ← cmpI_mul _ _ (N * M) (Int.mul_pos hN hM), ← cmpI_mul (a * M) (b * N) (r1.Den * r2.Den) (Int.mul_pos d1 d2)]
  congr 1
  · have : r1.Num * r2.Den * (N * M) = (r1.Num * N) * (r2.Den * M) := by grind
    rw [this, e1]; grind
  · have : r2.Num * r1.Den * (N * M) = (r2.Num * M) * (r1.Den * N) := by grind
    rw [this, e2]; grind
theorem cmpI_ge (x y : Int) : (0 ≤ cmpI x y) ↔ y ≤ x := by
  unfold cmpI; split <;> (try split) <;> omega
theorem light_eq (t : List Int) : mark_Light t = some (decide ((t.length : Int) ≤ 600)) := rfl

end Go.LS
