/-
  Distributions: sums, smoothing, dominance.
  Conditions: none but those of the statements.
-/
import Derived.Test.YtdfbbiahpcelmaaPV
namespace Go.LS
set_option linter.all false
set_option linter.unusedSimpArgs false
set_option linter.unusedVariables false
set_option maxRecDepth 20000

def addP : List Int → List Int → List Int
  | w, [] => w
  | [], _ :: _ => []
  | x :: w, c :: l => (x + c) :: addP w l
theorem addP_nil (w : List Int) : addP w [] = w := by cases w <;> rfl
theorem addP_len : ∀ (w l : List Int), (addP w l).length = w.length
  | w, [] => by rw [addP_nil]
  | [], _ :: _ => rfl
  | x :: w, c :: l => by simp [addP, addP_len w l]
theorem addP_snoc : ∀ (w l : List Int) (c : Int), l.length < w.length → addP w (l ++ [c]) = (addP w l).set l.length ((addP w l).getD l.length 0 + c)
  | [], l, c, h => by simp at h
  | x :: w, [], c, _ => by simp [addP, addP_nil]
  | x :: w, a :: l, c, h => by
    simp only [List.cons_append, addP, List.length_cons, List.set_cons_succ, List.getD_cons_succ]
    rw [addP_snoc w l c (by simpa using h)]
theorem sumI_addP : ∀ (w l : List Int) (k : Nat), l.length ≤ w.length → sumI ((addP w l).take k) = sumI (w.take k) + sumI (l.take k)
  | w, [], k, _ => by simp [addP_nil, sumI]
  | [], _ :: _, k, h => by simp at h
  | x :: w, c :: l, 0, _ => by simp [sumI]
  | x :: w, c :: l, k + 1, h => by
    simp only [addP, List.take_succ_cons, sumI]
    rw [sumI_addP w l k (by simpa using h)]
    omega
theorem ss_addP : ∀ (w l : List Int) (k : Nat), l.length ≤ w.length → ss k (addP w l) = ss k w + ss k l
  | w, [], k, _ => by simp [addP_nil, ss]
  | [], _ :: _, k, h => by simp at h
  | x :: w, c :: l, k, h => by
    simp only [addP, ss]
    rw [ss_addP w l (k + 1) (by simpa using h), Int.mul_add]
    omega
theorem addP_mem : ∀ (w l : List Int) (A B : Int), (∀ x ∈ w, 0 ≤ x ∧ x ≤ A) → (∀ c ∈ l, 0 ≤ c ∧ c ≤ B) → 0 ≤ B → ∀ y ∈ addP w l, 0 ≤ y ∧ y ≤ A + B
  | w, [], A, B, hw, _, hB, y, hy => by rw [addP_nil] at hy; have := hw y hy; omega
  | [], _ :: _, A, B, _, _, _, y, hy => by simp [addP] at hy
  | x :: w, c :: l, A, B, hw, hl, hB, y, hy => by
    simp only [addP, List.mem_cons] at hy
    rcases hy with rfl | hy
    · have h1 := hw x (by simp)
      have h2 := hl c (by simp)
      omega
    · exact addP_mem w l A B (fun z hz => hw z (by simp [hz])) (fun z hz => hl z (by simp [hz])) hB y hy
theorem iter_addP (l w : List Int) (f : Int × List Int → Option ((Int × List Int) ⊕ List Int)) (hlw : l.length ≤ w.length) (hlen : l.length ≤ 1000)
    (hstep : ∀ (k : Nat) (b : List Int) (hk : k < l.length), b.length = w.length → b = addP w (l.take k) → f ((k : Int), b) = some (.inl (((k + 1 : Nat) : Int), b.set k (b.getD k 0 + l[k]))))
    (hend : ∀ b, f ((l.length : Int), b) = some (.inr b)) : iter f ((0 : Int), w) = some (addP w l) := by
  have key : ∀ (n k : Nat), l.length - k = n → k ≤ l.length → iter f ((k : Int), addP w (l.take k)) = some (addP w l) := by
    intro n
    induction n with
    | zero =>
      intro k hn hk
      have : k = l.length := by omega
      subst this
      rw [iter_inr (hend _), List.take_length]
    | succ n ih =>
      intro k hn hk
      have hk' : k < l.length := by omega
      rw [iter_inl (hstep k _ hk' (addP_len _ _) rfl)]
      have h1 := ih (k + 1) (by omega) (by omega)
      rw [List.take_succ_eq_append_getElem hk', addP_snoc w (l.take k) l[k] (by simp; omega)] at h1
      have h2 : (l.take k).length = k := by simp; omega
      rw [h2] at h1
      exact h1
  have := key _ 0 rfl (by omega)
  simpa [addP_nil] using this
theorem zeros_take (n k : Nat) : sumI ((List.replicate n (0 : Int)).take k) = 0 := by
  rw [List.take_replicate]
  generalize min k n = m
  induction m with
  | zero => rfl
  | succ m ih => simp [List.replicate_succ, sumI, ih]
theorem zeros_ss (n : Nat) : ∀ k, ss k (List.replicate n (0 : Int)) = 0 := by
  induction n with
  | zero => intro k; rfl
  | succ n ih => intro k; simp [List.replicate_succ, ss, ih]
def addOf (a b : List Int) : List Int := addP (addP (List.replicate (max a.length b.length) 0) a) b
theorem setI_nat {α : Type} (l : List α) (k : Nat) (x : α) : setI l (k : Int) x = l.set k x := by simp [setI]
theorem dAdd (a b : api_Distribution) (ha : Sm a) (hb : Sm b) (hc : count a + count b ≤ 1048576) : distribution_Add a b = some (⟨addOf a.Counts b.Counts⟩, 0) := by
  have la := ha.hi
  have lb := hb.hi
  have ca := ha.all
  have cb := hb.all
  unfold distribution_Add distribution_Add_j3 distribution_Add_j1
  simp only [dValid a ha, dValid b hb, dCount a ha, dCount b hb, Option.bind, Option.isSome_some, Option.getD_some, implies_true, req_true, Bool.not_true, Bool.or_self, cond_false]
  rw [wrap64 (n := count a + count b) (by unfold count; omega) (by unfold count; omega), show decide ((1048576 : Int) < count a + count b) = false by simp; omega, cond_false]
  have hmax : imax (a.Counts.length : Int) (b.Counts.length : Int) = ((max a.Counts.length b.Counts.length : Nat) : Int) := by unfold imax; split <;> omega
  rw [hmax, req_pos (by omega)]
  have hrep : rep ((max a.Counts.length b.Counts.length : Nat) : Int) (0 : Int) = List.replicate (max a.Counts.length b.Counts.length) 0 := by simp [rep]
  rw [hrep]
  have hz : ∀ x ∈ List.replicate (max a.Counts.length b.Counts.length) (0 : Int), 0 ≤ x ∧ x ≤ 0 := fun x hx => by rw [(List.mem_replicate.1 hx).2]; omega
  have hmem1 : ∀ k, ∀ y ∈ addP (List.replicate (max a.Counts.length b.Counts.length) (0 : Int)) (a.Counts.take k), 0 ≤ y ∧ y ≤ 0 + 100 := fun k => addP_mem _ _ 0 100 hz (fun c hc => ha.c c (List.mem_of_mem_take hc)) (by omega)
  have hmem2 : ∀ k, ∀ y ∈ addP (addP (List.replicate (max a.Counts.length b.Counts.length) (0 : Int)) a.Counts) (b.Counts.take k), 0 ≤ y ∧ y ≤ (0 + 100) + 100 := fun k => addP_mem _ _ 100 100 (by have := hmem1 a.Counts.length; rw [List.take_length] at this; exact this) (fun c hc => hb.c c (List.mem_of_mem_take hc)) (by omega)
  have i1 := iter_addP a.Counts (List.replicate (max a.Counts.length b.Counts.length) 0) (distribution_Add_l4 a) (by simp; omega) (by omega) (fun k w hk hw he => by
    simp only [List.length_replicate] at hw
    have hkw : k < w.length := by omega
    have hm := hmem1 k w[k] (by rw [← he]; exact List.getElem_mem hkw)
    have hcc := ha.c a.Counts[k] (List.getElem_mem hk)
    have hg : w.getD k 0 = w[k] := by simp [List.getD, hkw]
    simp only [distribution_Add_l4, ix_nat a.Counts k hk, ix_nat w k hkw, setI_nat]
    rw [show decide ((k : Int) < (a.Counts.length : Int)) = true by simp; omega, cond_true, req_pos (by omega), req_pos (by omega), i64_add1 k (by omega), wrap64 (by omega) (by omega), hg]) (fun w => by simp [distribution_Add_l4])
  rw [i1]
  simp only []
  have i2 := iter_addP b.Counts (addP (List.replicate (max a.Counts.length b.Counts.length) 0) a.Counts) (distribution_Add_l2 b) (by rw [addP_len]; simp; omega) (by omega) (fun k w hk hw he => by
    rw [addP_len, List.length_replicate] at hw
    have hkw : k < w.length := by omega
    have hm := hmem2 k w[k] (by rw [← he]; exact List.getElem_mem hkw)
    have hcc := hb.c b.Counts[k] (List.getElem_mem hk)
    have hg : w.getD k 0 = w[k] := by simp [List.getD, hkw]
    simp only [distribution_Add_l2, ix_nat b.Counts k hk, ix_nat w k hkw, setI_nat]
    rw [show decide ((k : Int) < (b.Counts.length : Int)) = true by simp; omega, cond_true, req_pos (by omega), req_pos (by omega), i64_add1 k (by omega), wrap64 (by omega) (by omega), hg]) (fun w => by simp [distribution_Add_l2])
  rw [i2]
  rfl
theorem addOf_take (a b : List Int) (k : Nat) : sumI ((addOf a b).take k) = sumI (a.take k) + sumI (b.take k) := by
  unfold addOf
  rw [sumI_addP _ _ _ (by rw [addP_len]; simp; omega), sumI_addP _ _ _ (by simp; omega), zeros_take]; omega
theorem addOf_len (a b : List Int) : (addOf a b).length = max a.length b.length := by simp [addOf, addP_len]
theorem addOf_sum (a b : List Int) : sumI (addOf a b) = sumI a + sumI b := by
  have := addOf_take a b (max a.length b.length)
  rw [List.take_of_length_le (by rw [addOf_len]; omega), List.take_of_length_le (by omega), List.take_of_length_le (by omega)] at this
  exact this
theorem addOf_ss (a b : List Int) : ss 0 (addOf a b) = ss 0 a + ss 0 b := by
  unfold addOf
  rw [ss_addP _ _ _ (by rw [addP_len]; simp; omega), ss_addP _ _ _ (by simp; omega), zeros_ss]; omega
theorem addOf_sm (a b : api_Distribution) (ha : Sm a) (hb : Sm b) (h1 : ∀ c ∈ a.Counts, c ≤ 50) (h2 : ∀ c ∈ b.Counts, c ≤ 50) : Sm ⟨addOf a.Counts b.Counts⟩ := by
  have la := ha.hi
  have lb := hb.hi
  have lo := ha.lo
  refine ⟨by show 1 ≤ (addOf a.Counts b.Counts).length; rw [addOf_len]; omega, by show (addOf a.Counts b.Counts).length ≤ 20; rw [addOf_len]; omega, fun c hc => ?_⟩
  have hz : ∀ x ∈ List.replicate (max a.Counts.length b.Counts.length) (0 : Int), 0 ≤ x ∧ x ≤ 0 := fun x hx => by rw [(List.mem_replicate.1 hx).2]; omega
  have k1 := addP_mem _ a.Counts 0 50 hz (fun c hc => ⟨(ha.c c hc).1, h1 c hc⟩) (by omega)
  have k2 := addP_mem _ b.Counts (0 + 50) 50 k1 (fun c hc => ⟨(hb.c c hc).1, h2 c hc⟩) (by omega)
  have := k2 c hc
  omega
theorem meanOf_ok (d : api_Distribution) (h : Sm d) (hc : 0 < count d) : ∃ r, meanOf d = (r, 0) ∧ vR r = true ∧ r.Num * count d = scores d * r.Den ∧ 0 < r.Den := by
  have h1 := scores_bound d h
  have h2 : count d ≤ 2000 := h.all.2
  unfold meanOf
  rw [if_neg (by omega)]
  exact newOf_ok _ _ (by omega) (by omega) hc (by omega)
theorem cmpI_lt (x y : Int) : (cmpI x y < 0) ↔ x < y := by
  unfold cmpI; split <;> (try split) <;> omega
theorem here_take (d : api_Distribution) (s : Nat) (h : Sm d) : below d ((s + 1 : Nat) : Int) = below d (s : Int) + (if 0 ≤ (s : Int) ∧ (s : Int) < d.Counts.length then ix d.Counts (s : Int) else 0) := by
  unfold below
  simp only [Int.toNat_natCast]
  by_cases hs : s < d.Counts.length
  · rw [if_pos (by omega), sumI_take_succ _ _ hs, ix_nat _ _ hs]
  · rw [if_neg (by omega), List.take_of_length_le (by omega), List.take_of_length_le (by omega)]; omega
end Go.LS
