/-
  Law 01: Apportion and its reference: the seats that are left go to the same weights.
  No condition.
-/
import Derived.Test.YtkgmiidcilkmlaaPSE
import Derived.Test.YtkgmiidcilkmlaaPN
namespace Go.LS
set_option linter.all false
set_option linter.unusedSimpArgs false
set_option linter.unusedVariables false
set_option maxRecDepth 20000

def bump (y ps : List Int) : List Int := y.foldl (fun a x => setI a x (ix a x + 1)) ps
def negs (y r : List Int) : List Int := y.foldl (fun a x => setI a x (-1)) r
theorem bump_snoc (y : List Int) (x : Int) (ps : List Int) : bump (y ++ [x]) ps = setI (bump y ps) x (ix (bump y ps) x + 1) := by simp [bump]
theorem negs_snoc (y : List Int) (x : Int) (ps : List Int) : negs (y ++ [x]) ps = setI (negs y ps) x (-1) := by simp [negs]
theorem bump_len : ∀ (y ps : List Int), (bump y ps).length = ps.length
  | [], ps => rfl
  | x :: y, ps => by
    show (bump y (setI ps x (ix ps x + 1))).length = _
    rw [bump_len y, len_setI2]
theorem negs_len : ∀ (y ps : List Int), (negs y ps).length = ps.length
  | [], ps => rfl
  | x :: y, ps => by
    show (negs y (setI ps x (-1))).length = _
    rw [negs_len y, len_setI2]
theorem bump_bd (ps : List Int) (B : Int) (hp : ∀ j : Nat, j < ps.length → 0 ≤ ix ps (j : Int) ∧ ix ps (j : Int) ≤ B) (y : List Int) (hy : ∀ x ∈ y, 0 ≤ x ∧ x < ps.length) :
    ∀ k : Nat, k ≤ y.length → ∀ j : Nat, j < ps.length → 0 ≤ ix (bump (y.take k) ps) (j : Int) ∧ ix (bump (y.take k) ps) (j : Int) ≤ B + k := by
  intro k
  induction k with
  | zero => intro _ j hj; have := hp j hj; simpa [bump] using this
  | succ k ih =>
    intro hk j hj
    have hk' : k < y.length := by omega
    rw [List.take_succ_eq_append_getElem hk', bump_snoc]
    obtain ⟨b1, b2⟩ := hy y[k] (List.getElem_mem hk')
    obtain ⟨n, hn⟩ : ∃ n : Nat, y[k] = (n : Int) := ⟨y[k].toNat, by omega⟩
    rw [hn, ix_setI _ _ _ _ (by rw [bump_len]; omega)]
    have h1 := ih (by omega) j hj
    have h2 := ih (by omega) n (by omega)
    split <;> omega
theorem negs_at (r : List Int) (y : List Int) (hy : ∀ x ∈ y, 0 ≤ x ∧ x < r.length) :
    ∀ k : Nat, k ≤ y.length → ∀ j : Nat, j < r.length → ix (negs (y.take k) r) (j : Int) = if (j : Int) ∈ y.take k then -1 else ix r (j : Int) := by
  intro k
  induction k with
  | zero => intro _ j hj; simp [negs]
  | succ k ih =>
    intro hk j hj
    have hk' : k < y.length := by omega
    rw [List.take_succ_eq_append_getElem hk', negs_snoc]
    obtain ⟨b1, b2⟩ := hy y[k] (List.getElem_mem hk')
    obtain ⟨n, hn⟩ : ∃ n : Nat, y[k] = (n : Int) := ⟨y[k].toNat, by omega⟩
    rw [hn, ix_setI _ _ _ _ (by rw [negs_len]; omega), ih (by omega) j hj]
    by_cases h : j = n
    · subst h; rw [if_pos rfl, if_pos (by simp)]
    · rw [if_neg h]
      have : ((j : Int) ∈ y.take k ++ [(n : Int)]) ↔ (j : Int) ∈ y.take k := by
        simp only [List.mem_append, List.mem_singleton]
        constructor
        · rintro (h | h)
          · exact h
          · omega
        · exact .inl
      by_cases hm : (j : Int) ∈ y.take k
      · rw [if_pos hm, if_pos (this.2 hm)]
      · rw [if_neg hm, if_neg (fun h => hm (this.1 h))]
section
variable (ps : List Int) (hp : ∀ j : Nat, j < ps.length → 0 ≤ ix ps (j : Int) ∧ ix ps (j : Int) ≤ 1073741824) (y : List Int) (hy : ∀ x ∈ y, 0 ≤ x ∧ x < ps.length) (hyl : y.length ≤ 100)
include hp hy hyl
theorem add2 (L : Nat) (hL : L ≤ y.length) : ∀ (m k : Nat), L - k = m → k ≤ L → iter (ratio_Apportion_l2 (L : Int) y) ((k : Int), bump (y.take k) ps) = some (bump (y.take L) ps) := by
  intro m
  induction m with
  | zero =>
    intro k hm hk
    have : k = L := by omega
    subst this
    refine iter_inr ?_
    simp [ratio_Apportion_l2]
  | succ m ih =>
    intro k hm hk
    have hky : k < y.length := by omega
    obtain ⟨b1, b2⟩ := hy y[k] (List.getElem_mem hky)
    have hbl := bump_len (y.take k) ps
    obtain ⟨n, hn⟩ : ∃ n : Nat, y[k] = (n : Int) := ⟨y[k].toNat, by omega⟩
    have hbd := bump_bd ps _ hp y hy k (by omega) n (by omega)
    have hf : ratio_Apportion_l2 (L : Int) y ((k : Int), bump (y.take k) ps) = some (.inl (((k + 1 : Nat) : Int), bump (y.take (k + 1)) ps)) := by
      simp only [ratio_Apportion_l2]
      rw [show (decide ((k : Int) < (L : Int)) && decide ((k : Int) < (y.length : Int))) = true by simp; omega, cond_true, ix_nat y k hky, req_pos (by omega), i64_add1 k (by omega), List.take_succ_eq_append_getElem hky, bump_snoc, hn, wrap64 (n := ix (bump (y.take k) ps) (n : Int) + 1) (by omega) (by omega)]
    rw [iter_inl hf]
    exact ih (k + 1) (by omega) (by omega)
end
theorem scan_ok (v : List Int) (h1 : 1 ≤ v.length) (h2 : v.length ≤ 1000) : ∃ b : Nat, iter (ref01_Apportion_l4 v) ((0 : Int), (1 : Int)) = some (b : Int) ∧ b < v.length ∧ (∀ j : Nat, j < v.length → ix v (j : Int) ≤ ix v (b : Int)) ∧ ∀ j : Nat, j < b → ix v (j : Int) < ix v (b : Int) := by
  have h0 : ∀ j : Nat, j < 1 → ix v (j : Int) ≤ ix v ((0 : Nat) : Int) := by
    intro j hj
    have : j = 0 := by omega
    subst this
    exact Int.le_refl _
  obtain ⟨r, e, b, rfl, g1, g2, g3⟩ := iter_inv (f := ref01_Apportion_l4 v)
    (fun s => ∃ b i : Nat, s.1 = (b : Int) ∧ s.2 = (i : Int) ∧ b < i ∧ i ≤ v.length ∧ (∀ j : Nat, j < i → ix v (j : Int) ≤ ix v (b : Int)) ∧ ∀ j : Nat, j < b → ix v (j : Int) < ix v (b : Int)) (fun s => ((v.length : Int) - s.2).toNat)
    (fun r => ∃ b : Nat, r = (b : Int) ∧ b < v.length ∧ (∀ j : Nat, j < v.length → ix v (j : Int) ≤ ix v (b : Int)) ∧ ∀ j : Nat, j < b → ix v (j : Int) < ix v (b : Int)) (by
      rintro ⟨x1, x2⟩ ⟨b, i, k1, k2, k3, k4, k5, k6⟩
      dsimp only at k1 k2
      subst k1 k2
      simp only [ref01_Apportion_l4]
      by_cases hi : i < v.length
      · left
        rw [show decide ((i : Int) < (v.length : Int)) = true by simp; exact hi, cond_true, req_pos ⟨by omega, by omega⟩]
        rcases bcases (decide (ix v (b : Int) < ix v (i : Int))) with hb | hb
        · have hb' : ix v (b : Int) < ix v (i : Int) := by simpa using hb
          rw [hb, cond_true]
          unfold ref01_Apportion_j3
          rw [i64_add1 i (by omega)]
          refine ⟨_, rfl, ⟨i, i + 1, rfl, rfl, by omega, by omega, fun j hj => ?_, fun j hj => ?_⟩, by show ((v.length : Int) - ((i + 1 : Nat) : Int)).toNat < ((v.length : Int) - (i : Int)).toNat; omega⟩
          · by_cases h : j < i
            · have := k5 j h; omega
            · have : j = i := by omega
              subst this; exact Int.le_refl _
          · have := k5 j hj; omega
        · have hb' : ¬ ix v (b : Int) < ix v (i : Int) := by simpa using hb
          rw [hb, cond_false]
          unfold ref01_Apportion_j3
          rw [i64_add1 i (by omega)]
          refine ⟨_, rfl, ⟨b, i + 1, rfl, rfl, by omega, by omega, fun j hj => ?_, k6⟩, by show ((v.length : Int) - ((i + 1 : Nat) : Int)).toNat < ((v.length : Int) - (i : Int)).toNat; omega⟩
          by_cases h : j < i
          · exact k5 j h
          · have : j = i := by omega
            subst this; omega
      · right
        rw [show decide ((i : Int) < (v.length : Int)) = false by simp; omega, cond_false]
        have : i = v.length := by omega
        subst this
        exact ⟨_, rfl, b, rfl, k3, k5, k6⟩) ((0 : Int), (1 : Int)) ⟨0, 1, rfl, rfl, by omega, by omega, h0, fun j hj => by omega⟩
  exact ⟨b, e, g1, g2, g3⟩
theorem key_rem {total s : Int} {w : List Int} (h : Wt total w s) (k : Nat) (hk : k < w.length) : keyP total w s (k : Int) = ix (rems total w s) (k : Int) ∧ 0 ≤ ix (rems total w s) (k : Int) := by
  obtain ⟨a1, a2, a3, a4⟩ := h.at k hk
  have hpos := h.pos
  have e : ix (rems total w s) (k : Int) = total * w[k] % s := by
    rw [ix_nat _ k (by rw [rems_len]; exact hk)]; simp [rems]
  rw [e]
  unfold keyP
  rw [ix_nat w k hk, wrap64 (by omega) (by omega), tmod_pos _ _ a3]
  exact ⟨rfl, Int.emod_nonneg _ (by omega)⟩
theorem nodup_of_srt {K : Int → Int} {y : List Int} (h : Srt K y) : y.Nodup := h.imp fun {a b} hab e => by subst e; exact hab.irrefl
theorem pick_ok {total s : Int} {w : List Int} (h : Wt total w s) (y : List Int) (hyp : y.Perm (rg w.length)) (hs : Srt (keyP total w s) y) (t : Nat) (ht : t < y.length) :
    iter (ref01_Apportion_l4 (negs (y.take t) (rems total w s))) ((0 : Int), (1 : Int)) = some y[t] := by
  have hyl : y.length = w.length := by rw [hyp.length_eq, rg_len]
  have hrl := rems_len total s w
  have hb : ∀ x ∈ y, 0 ≤ x ∧ x < (rems total w s).length := fun x hx => by rw [hrl]; exact mem_rg.1 (hyp.mem_iff.1 hx)
  have hnd := nodup_of_srt hs
  have hlen := h.len
  obtain ⟨b, e, g1, g2, g3⟩ := scan_ok (negs (y.take t) (rems total w s)) (by rw [negs_len]; omega) (by rw [negs_len]; omega)
  rw [negs_len, hrl] at g1 g2
  rw [e]
  congr 1
  obtain ⟨q1, q2⟩ := hb y[t] (List.getElem_mem ht)
  obtain ⟨n, hn⟩ : ∃ n : Nat, y[t] = (n : Int) := ⟨y[t].toNat, by omega⟩
  have hat := negs_at (rems total w s) y hb t (by omega)
  have hnn : ¬ (n : Int) ∈ y.take t := fun hm => by
    obtain ⟨p, hp, hpe⟩ := List.mem_take_iff_getElem.1 hm
    have := (List.getElem_inj hnd).1 (hpe.trans hn.symm)
    omega
  have hvn := hat n (by omega)
  rw [if_neg hnn] at hvn
  obtain ⟨kn, kn0⟩ := key_rem h n (by omega)
  -- where b lies
  have hbm : (b : Int) ∈ y := hyp.mem_iff.2 (mem_rg.2 ⟨by omega, by omega⟩)
  obtain ⟨p, hp, hpe⟩ := List.getElem_of_mem hbm
  have hvb := hat b (by omega)
  have h1 := g2 n (by omega)
  rw [hn]
  rcases Nat.lt_trichotomy p t with hlt | heq | hgt
  · exfalso
    rw [if_pos (List.mem_take_iff_getElem.2 ⟨p, by omega, hpe⟩)] at hvb
    omega
  · subst heq; rw [← hpe, hn]
  · exfalso
    have hr := List.pairwise_iff_getElem.1 hs t p ht hp hgt
    rw [hpe, hn] at hr
    have hbn : ¬ (b : Int) ∈ y.take t := fun hm => by
      obtain ⟨p', hp', hpe'⟩ := List.mem_take_iff_getElem.1 hm
      have := (List.getElem_inj hnd).1 (hpe'.trans hpe.symm)
      omega
    rw [if_neg hbn] at hvb
    obtain ⟨kb, kb0⟩ := key_rem h b (by omega)
    rcases hr with hr | ⟨hr1, hr2⟩
    · omega
    · have := g3 n (by omega)
      omega
theorem loop5 {total s : Int} {w : List Int} (h : Wt total w s) (y : List Int) (hyp : y.Perm (rg w.length)) (hs : Srt (keyP total w s) y) (ps : List Int) (hpl : ps.length = w.length)
    (hp : ∀ j : Nat, j < ps.length → 0 ≤ ix ps (j : Int) ∧ ix ps (j : Int) ≤ 1073741824) (L : Nat) (hL : L ≤ y.length) :
    ∀ (m t : Nat), L - t = m → t ≤ L → iter ref01_Apportion_l5 (((L - t : Nat) : Int), bump (y.take t) ps, negs (y.take t) (rems total w s)) = some (bump (y.take L) ps) := by
  have hyl : y.length = w.length := by rw [hyp.length_eq, rg_len]
  have hrl := rems_len total s w
  have hlen := h.len
  have hb : ∀ x ∈ y, 0 ≤ x ∧ x < ps.length := fun x hx => by rw [hpl]; exact mem_rg.1 (hyp.mem_iff.1 hx)
  intro m
  induction m with
  | zero =>
    intro t hm ht
    have : t = L := by omega
    subst this
    refine iter_inr ?_
    simp [ref01_Apportion_l5]
  | succ m ih =>
    intro t hm ht
    have hty : t < y.length := by omega
    obtain ⟨b1, b2⟩ := hb y[t] (List.getElem_mem hty)
    have hbl := bump_len (y.take t) ps
    have hnl := negs_len (y.take t) (rems total w s)
    obtain ⟨n, hn⟩ : ∃ n : Nat, y[t] = (n : Int) := ⟨y[t].toNat, by omega⟩
    have hbd := bump_bd ps _ hp y hb t (by omega) n (by omega)
    have hf : ref01_Apportion_l5 (((L - t : Nat) : Int), bump (y.take t) ps, negs (y.take t) (rems total w s)) = some (.inl (((L - (t + 1) : Nat) : Int), bump (y.take (t + 1)) ps, negs (y.take (t + 1)) (rems total w s))) := by
      simp only [ref01_Apportion_l5]
      rw [show decide ((0 : Int) < ((L - t : Nat) : Int)) = true by simp; omega, cond_true, pick_ok h y hyp hs t hty, sbind, List.take_succ_eq_append_getElem hty, bump_snoc, negs_snoc, hn]
      unfold ref01_Apportion_j2
      rw [req_pos (by omega), req_pos (by omega), wrap64 (n := ix (bump (y.take t) ps) (n : Int) + 1) (by omega) (by omega), wrap64 (n := ((L - t : Nat) : Int) - 1) (by omega) (by omega), show ((L - t : Nat) : Int) - 1 = ((L - (t + 1) : Nat) : Int) by omega]
    rw [iter_inl hf]
    exact ih (t + 1) (by omega) (by omega)
theorem left_ok {total s : Int} {w : List Int} (h : Wt total w s) : ∃ L : Nat, total - sumZ (shares total w s) = (L : Int) ∧ L ≤ w.length := by
  have hpos := h.pos
  have hsr := sum_rem total s w
  rw [h.sum] at hsr
  obtain ⟨r0, r1⟩ := sumZ_le (w.map fun x => total * x % s) (s - 1) (fun x hx => by
    obtain ⟨z, hz, rfl⟩ := List.mem_map.1 hx
    have := Int.emod_nonneg (total * z) (b := s) (by omega)
    have := Int.emod_lt_of_pos (total * z) hpos
    omega)
  rw [List.length_map] at r1
  have hR : sumZ (w.map fun x => total * x % s) = (total - sumZ (shares total w s)) * s := by
    unfold shares
    rw [Int.sub_mul, Int.mul_comm (sumZ _) s]; omega
  have hl0 : 0 ≤ total - sumZ (shares total w s) := by
    rcases Int.lt_or_le (total - sumZ (shares total w s)) 0 with hn | hn
    · exfalso
      have := Int.mul_neg_of_neg_of_pos hn hpos
      omega
    · exact hn
  have hln : total - sumZ (shares total w s) ≤ w.length := by
    have h3 : (total - sumZ (shares total w s)) * s ≤ (w.length : Int) * s := by
      have : (s - 1) * (w.length : Int) ≤ (w.length : Int) * s := by rw [Int.sub_mul, Int.mul_comm s]; omega
      omega
    exact Int.le_of_mul_le_mul_right h3 hpos
  exact ⟨(total - sumZ (shares total w s)).toNat, by omega, by omega⟩
/-- both give the same -/
theorem app_same (total : Int) (w : List Int) : ∃ r, ratio_Apportion total w = some r ∧ ref01_Apportion total w = some r ∧ r.1.length ≤ 100 := by
  unfold ratio_Apportion ref01_Apportion
  rcases bcases (decide ((100 : Int) < (w.length : Int))) with hl | hl
  · rw [hl]; exact ⟨_, rfl, rfl, by simp⟩
  · have hl' : w.length ≤ 100 := by have : ¬ (100 : Int) < (w.length : Int) := by simpa using hl
                                    omega
    rw [hl, cond_false, cond_false]
    rcases bcases (decide (total < (0 : Int)) || decide ((1073741824 : Int) < total)) with ht | ht
    · rw [ht]; exact ⟨_, rfl, rfl, by simp⟩
    · rw [ht, cond_false, cond_false]
      have ht' : 0 ≤ total ∧ total ≤ 1073741824 := by
        simp only [Bool.or_eq_false_iff, decide_eq_false_iff_not] at ht; omega
      have h6 : iter (ratio_Apportion_l6 w) ((0 : Int), (0 : Int)) = some (sumRes w) := sum6 w hl' w.length 0 (by omega) (by omega) (by simp)
      have h9 : iter (ref01_Apportion_l9 w) ((0 : Int), (0 : Int)) = some (sumRes w) := sum9 w hl' w.length 0 (by omega) (by omega) (by simp)
      rw [h6, h9, sbind, sbind]
      unfold sumRes
      by_cases ha : w.any badw = true
      · rw [if_pos ha]; exact ⟨_, rfl, rfl, by simp⟩
      · rw [if_neg ha]
        dsimp only
        have hg : ∀ x ∈ w, 0 ≤ x ∧ x ≤ 1073741824 := fun x hx => badw_false (by
          rcases bcases (badw x) with hb | hb
          · exact absurd (List.any_eq_true.2 ⟨x, hx, hb⟩) ha
          · exact hb)
        unfold ratio_Apportion_j5 ref01_Apportion_j8
        rcases bcases (sumZ w == (0 : Int)) with hz | hz
        · rw [hz]; exact ⟨_, rfl, rfl, by simp⟩
        · rw [hz, cond_false, cond_false]
          have hz' : sumZ w ≠ 0 := by simpa using hz
          have hs0 := (sumZ_le w _ hg).1
          have h : Wt total w (sumZ w) := ⟨ht'.1, ht'.2, hg, hl', rfl, by omega⟩
          rw [req_pos (by omega), req_pos (by omega), req_pos (by omega), req_pos (by omega), share_loop _ _ _ h, share_loop7 _ _ _ h, sbind, sbind]
          dsimp only
          obtain ⟨y, e1, hyp, hs⟩ := sort_ok total w (sumZ w) hz' hl'
          obtain ⟨L, hL, hLn⟩ := left_ok h
          have hyl : y.length = w.length := by rw [hyp.length_eq, rg_len]
          have hpl := shares_len total (sumZ w) w
          have hp : ∀ j : Nat, j < (shares total w (sumZ w)).length → 0 ≤ ix (shares total w (sumZ w)) (j : Int) ∧ ix (shares total w (sumZ w)) (j : Int) ≤ 1073741824 := fun j hj => by
            rw [hpl] at hj
            have := h.div j hj
            rw [ix_nat _ j (by omega)]
            simpa [shares] using this
          unfold ratio_Apportion_j3 ref01_Apportion_j6
          have h2 : iter (ratio_Apportion_l2 (L : Int) y) ((0 : Int), shares total w (sumZ w)) = some (bump (y.take L) (shares total w (sumZ w))) :=
            add2 _ hp y (fun x hx => by rw [hpl]; exact mem_rg.1 (hyp.mem_iff.1 hx)) (by omega) L (by omega) L 0 (by omega) (by omega)
          have h5 : iter ref01_Apportion_l5 ((L : Int), shares total w (sumZ w), rems total w (sumZ w)) = some (bump (y.take L) (shares total w (sumZ w))) :=
            loop5 h y hyp hs _ hpl hp L (by omega) L 0 (by omega) (by omega)
          rw [e1, sbind, req_pos hyp.length_eq, hL, h2, h5, sbind, sbind]
          exact ⟨_, rfl, rfl, by show (bump _ _).length ≤ 100; rw [bump_len, hpl]; exact hl'⟩
theorem same_refl (a : List Int) (h : a.length < 4611686018427387904) : law01_same a a = some true := by
  have key : ∀ (m k : Nat), a.length - k = m → k ≤ a.length → iter (law01_same_l2 a a) (k : Int) = some (.inl ()) := by
    intro m
    induction m with
    | zero =>
      intro k hm hk
      have : k = a.length := by omega
      subst this
      refine iter_inr ?_
      simp [law01_same_l2]
    | succ m ih =>
      intro k hm hk
      have hf : law01_same_l2 a a (k : Int) = some (.inl ((k + 1 : Nat) : Int)) := by
        simp only [law01_same_l2]
        rw [show decide ((k : Int) < (a.length : Int)) = true by simp; omega, cond_true, req_pos ⟨by omega, by omega⟩, show (ix a (k : Int) != ix a (k : Int)) = false by simp, cond_false, i64_add1 k (by omega)]
      rw [iter_inl hf]
      exact ih (k + 1) (by omega) (by omega)
  unfold law01_same
  have := key a.length 0 (by omega) (by omega)
  rw [show ((a.length : Int) != (a.length : Int)) = false by simp, cond_false, show ((0 : Int)) = ((0 : Nat) : Int) from rfl, this, sbind]
  rfl
theorem pure_RatioApportions (total : Int) (w : List Int) : law01_RatioApportions total w = some true := by
  unfold law01_RatioApportions
  rcases bcases (decide ((120 : Int) < (w.length : Int))) with hl | hl
  · rw [hl]; rfl
  · rw [hl, cond_false]
    obtain ⟨r, e1, e2, e3⟩ := app_same total w
    obtain ⟨r1, r2⟩ := r
    dsimp only at e3
    rw [e1, e2, sbind]
    dsimp only
    rw [sbind]
    dsimp only
    rw [same_refl _ (by omega), sbind, awake_eq, req_pos (by intro _; rfl)]
    simp
end Go.LS
