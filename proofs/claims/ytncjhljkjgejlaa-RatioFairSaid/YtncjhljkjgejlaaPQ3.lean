/-
  Law 01: the laws about sums of lists, their order, and the order of fractions.
  Conditions: none but those of the statements.
-/
import Derived.Test.YtncjhljkjgejlaaPQ2
namespace Go.LS
set_option linter.all false
set_option linter.unusedSimpArgs false
set_option linter.unusedVariables false
set_option maxRecDepth 20000

theorem newOf_ok' (a N : Int) (h1 : -1152921504606846976 ≤ a) (h2 : a ≤ 1152921504606846976) (h3 : 0 < N) (h4 : N ≤ 1152921504606846976) : ∃ r, newOf a N = (r, 0) ∧ vR r = true ∧ r.Num * N = a * r.Den ∧ 0 < r.Den := by
  unfold newOf
  rw [if_neg (by omega)]
  have e : ∃ r, redOf (!(decide (a < 0) == decide (N < 0))) a.natAbs N.natAbs = (r, 0) := by
    unfold redOf fitOf
    have k1 := Nat.div_le_self a.natAbs (Nat.gcd a.natAbs N.natAbs)
    have k2 := Nat.div_le_self N.natAbs (Nat.gcd a.natAbs N.natAbs)
    rw [if_pos ⟨by omega, by omega⟩]
    exact ⟨_, rfl⟩
  obtain ⟨r, hr⟩ := e
  obtain ⟨g1, g2, g3⟩ := redOf_val _ _ _ (by omega) r hr
  refine ⟨r, hr, g1, ?_, g3⟩
  rw [show ((N.natAbs : Nat) : Int) = N by omega] at g2
  rw [g2]
  congr 1
  unfold sv
  rw [show decide (N < 0) = false by simp; omega]
  by_cases h : a < 0
  · simp [h]; omega
  · simp [h]; omega
theorem tSmall (t : make_Tape) (h : TOK t) : ∃ a t', make_Tape_Small t = some (a, t') ∧ TOK t' ∧ vR a = true ∧ ∃ n d : Int, -30 ≤ n ∧ n ≤ 30 ∧ 1 ≤ d ∧ d ≤ 12 ∧ newOf n d = (a, 0) ∧ a.Num * d = n * a.Den := by
  unfold make_Tape_Small
  obtain ⟨x, t1, e1, ht1, x1, x2⟩ := range_ok t (-30) 30 h (by decide) (by decide) (by decide)
  rw [e1, some_bind]
  obtain ⟨y, t2, e2, ht2, y1, y2⟩ := range_ok t1 1 12 ht1 (by decide) (by decide) (by decide)
  dsimp only
  rw [e2, some_bind]
  dsimp only
  rw [NewR_eq x y ⟨by omega, by omega⟩ ⟨by omega, by omega⟩, some_bind]
  obtain ⟨r, h1, h2, h3, _⟩ := newOf_ok' x y (by omega) (by omega) (by omega) (by omega)
  rw [h1]
  exact ⟨r, t2, rfl, ht2, h2, x, y, x1, x2, y1, y2, h1, h3⟩
theorem list_ok (t : make_Tape) (loose : Bool) (h : TOK t) : ∃ l t', law01_list t loose = some (l, t') ∧ TOK t' ∧ l.length ≤ 6 := by
  unfold law01_list
  obtain ⟨y, t1, e1, h1, y0, y1, _⟩ := next_ok t 7 h (by decide)
  have y2 := y1 (by decide)
  rw [e1, some_bind]
  dsimp only
  obtain ⟨⟨L, A, out⟩, e2, g1, g2⟩ := iter_inv (f := law01_list_l3 loose) (fun s => 0 ≤ s.1 ∧ s.1 + s.2.2.2.length = y ∧ TOK ⟨s.2.1, s.2.2.1⟩) (fun s => s.1.toNat)
    (fun r => TOK ⟨r.1, r.2.1⟩ ∧ r.2.2.length ≤ 6) (by
      rintro ⟨i, L, A, out⟩ ⟨k1, k2, k3⟩
      dsimp only at k1 k2 k3
      simp only [law01_list_l3]
      rcases bcases (decide ((0 : Int) < i)) with hc | hc <;> rw [hc]
      · left
        have hi : 0 < i := by simpa using hc
        rw [cond_true]
        have fin : ∀ (a : api_Ratio) (t2 : make_Tape), TOK t2 → ∃ s', (req ((out.length + ([a]).length) * 16 ≤ 140737488355328) <| law01_list_j2 i t2.L t2.At (out ++ [a])) = some (.inl s') ∧ (0 ≤ s'.1 ∧ s'.1 + s'.2.2.2.length = y ∧ TOK ⟨s'.2.1, s'.2.2.1⟩) ∧ s'.1.toNat < i.toNat := by
          intro a t2 ht2
          rw [req_pos (by simp; omega)]
          unfold law01_list_j2
          rw [wrap64 (by omega) (by omega)]
          refine ⟨_, rfl, ⟨by show 0 ≤ i - 1; omega, ?_, ht2⟩, by show (i - 1).toNat < i.toNat; omega⟩
          show i - 1 + ((out ++ [a]).length : Int) = y
          simp; omega
        have rest : ∀ t2 : make_Tape, TOK t2 → ∃ s', ((make_Tape_Next t2 (2 : Int)).bind fun (y6, y7) =>
          bif (y6 == (0 : Int)) then
            (make_Tape_Small y7).bind fun (y8, y9) =>
            req ((out.length + ([y8]).length) * 16 ≤ 140737488355328) <|
            law01_list_j2 i y9.L y9.At (out ++ [y8])
          else
            (make_Tape_Ratio y7).bind fun (y10, y11) =>
            req ((out.length + ([y10]).length) * 16 ≤ 140737488355328) <|
            law01_list_j2 i y11.L y11.At (out ++ [y10])) = some (.inl s') ∧ (0 ≤ s'.1 ∧ s'.1 + s'.2.2.2.length = y ∧ TOK ⟨s'.2.1, s'.2.2.1⟩) ∧ s'.1.toNat < i.toNat := by
          intro t2 ht2
          obtain ⟨z, t3, e3, h3, _⟩ := next_ok t2 2 ht2 (by decide)
          rw [e3, some_bind]
          dsimp only
          rcases bcases (z == (0 : Int)) with hz | hz <;> rw [hz]
          · obtain ⟨a, t4, e4, h4, _⟩ := tSmall t3 h3
            rw [cond_true, e4, some_bind]
            exact fin a t4 h4
          · obtain ⟨a, t4, e4, h4, _⟩ := tRatio t3 h3
            rw [cond_false, e4, some_bind]
            exact fin a t4 h4
        cases loose with
        | false => rw [cond_false]; exact rest ⟨L, A⟩ k3
        | true =>
          rw [cond_true]
          obtain ⟨b, t2, e2, h2⟩ := one_ok ⟨L, A⟩ 6 k3 (by decide)
          rw [e2, some_bind]
          dsimp only
          cases b with
          | false => rw [cond_false]; exact rest t2 h2
          | true =>
            obtain ⟨a, t4, e4, h4, _⟩ := tLoose t2 h2
            rw [cond_true, e4, some_bind]
            exact fin a t4 h4
      · right
        have hi : ¬ 0 < i := by simpa using hc
        exact ⟨_, rfl, k3, by show out.length ≤ 6; omega⟩) (y, t1.L, t1.At, []) ⟨y0, by simp, h1⟩
  rw [e2]
  exact ⟨_, _, rfl, g1, g2⟩
theorem pure_RatioSums (t : List Int) : law01_RatioSums t = some true := by
  unfold law01_RatioSums
  obtain ⟨t1, e1, h1⟩ := new_ok t
  rw [e1]; simp only [Option.bind]
  obtain ⟨l, t2, e2, h2, _⟩ := list_ok t1 true h1
  rw [e2]; simp only
  rw [Sum_eq, SumR_eq]
  simp [awake_eq, req_pos]
/-! ### order does not matter -/
def lcmL : List api_Ratio → Nat
  | [] => 1
  | a :: l => Nat.lcm a.Den.natAbs (lcmL l)
theorem lcmL_pos : ∀ (l : List api_Ratio), (∀ a ∈ l, vR a = true) → 0 < lcmL l
  | [], _ => by simp [lcmL]
  | a :: l, h => lcm_pos' (vn_of (h a (by simp))).d0 (lcmL_pos l fun x hx => h x (by simp [hx]))
theorem lcmF_eq : ∀ (l : List api_Ratio) (c : Nat), 0 < c → c ≤ MX → (∀ a ∈ l, vR a = true) → lcmF l c = if Nat.lcm c (lcmL l) ≤ MX then some (Nat.lcm c (lcmL l)) else none
  | [], c, h0, h1, _ => by simp [lcmF, lcmL, h1]
  | a :: l, c, h0, h1, hv => by
    have hd := (vn_of (hv a (by simp))).d0
    have hv' : ∀ x ∈ l, vR x = true := fun x hx => hv x (by simp [hx])
    have eL : Nat.lcm c (lcmL (a :: l)) = Nat.lcm (Nat.lcm c a.Den.natAbs) (lcmL l) := (Nat.lcm_assoc _ _ _).symm
    rw [eL]
    simp only [lcmF]
    by_cases hc : Nat.lcm c a.Den.natAbs ≤ 1152921504606846976
    · rw [if_pos hc]
      exact lcmF_eq l _ (lcm_pos' h0 hd) hc hv'
    · rw [if_neg hc]
      have h2 : Nat.lcm c a.Den.natAbs ≤ Nat.lcm (Nat.lcm c a.Den.natAbs) (lcmL l) := Nat.le_of_dvd (lcm_pos' (lcm_pos' h0 hd) (lcmL_pos l hv')) (Nat.dvd_lcm_left _ _)
      rw [if_neg (by unfold MX; omega)]
theorem lcmL_perm {l m : List api_Ratio} (h : l.Perm m) : lcmL l = lcmL m := by
  induction h with
  | nil => rfl
  | cons x _ ih => simp only [lcmL, ih]
  | swap x y l => simp only [lcmL]; rw [← Nat.lcm_assoc, ← Nat.lcm_assoc, Nat.lcm_comm y.Den.natAbs]
  | trans _ _ ih1 ih2 => exact ih1.trans ih2
def sumT (C : Nat) : List api_Ratio → Int
  | [] => 0
  | a :: l => a.Num * ((C / a.Den.natAbs : Nat) : Int) + sumT C l
theorem sumT_perm (C : Nat) {l m : List api_Ratio} (h : l.Perm m) : sumT C l = sumT C m := by
  induction h with
  | nil => rfl
  | cons x _ ih => simp only [sumT, ih]
  | swap x y l => simp only [sumT]; omega
  | trans _ _ ih1 ih2 => exact ih1.trans ih2
theorem sv_num (a : Int) (n : Nat) : sv (decide (a < 0)) (a.natAbs * n) = a * (n : Int) := by
  unfold sv
  by_cases h : a < 0
  · rw [if_pos (by simpa using h), Int.natCast_mul, show ((a.natAbs : Nat) : Int) = -a by omega, Int.neg_mul, Int.neg_neg]
  · rw [if_neg (by simpa using h), Int.natCast_mul, show ((a.natAbs : Nat) : Int) = a by omega]
theorem sumF_val (C : Nat) : ∀ (l : List api_Ratio) (p : Bool × Nat), sv (sumF C l p).1 (sumF C l p).2 = sv p.1 p.2 + sumT C l
  | [], p => by simp [sumF, sumT]
  | a :: l, p => by
    have := sumF_val C l (addS p.1 p.2 (decide (a.Num < 0)) (a.Num.natAbs * (C / a.Den.natAbs)))
    rw [addS_val, sv_num] at this
    simp only [sumT]
    show sv (sumF C l (addS p.1 p.2 (decide (a.Num < 0)) (a.Num.natAbs * (C / a.Den.natAbs)))).1 _ = _
    rw [show sumF C (a :: l) p = sumF C l (addS p.1 p.2 (decide (a.Num < 0)) (a.Num.natAbs * (C / a.Den.natAbs))) from rfl, this]
    omega
def redV (v : Int) (C : Nat) : api_Ratio × Int := redOf (decide (v < 0)) v.natAbs C
theorem red_val (s : Bool) (k C : Nat) : redOf s k C = redV (sv s k) C := by
  unfold redV sv
  cases s with
  | false => simp [show ¬ ((k : Int) < 0) by omega]
  | true =>
    rcases Nat.eq_zero_or_pos k with h | h
    · subst h; simp; exact red_zero true C
    · simp [h]
theorem sumOf_eq (l : List api_Ratio) : sumOf l = if 100 < l.length then (⟨0, 0⟩, 3) else if (l.all fun a => vR a) = true then (if lcmL l ≤ MX then redV (sumT (lcmL l) l) (lcmL l) else (⟨0, 0⟩, 6)) else (⟨0, 0⟩, 1) := by
  unfold sumOf
  split
  · rfl
  · split
    · rename_i h1 h2
      rw [lcmF_eq l 1 (by omega) (by decide) (all_valid h2), show Nat.lcm 1 (lcmL l) = lcmL l by simp [Nat.lcm]]
      by_cases hc : lcmL l ≤ MX
      · rw [if_pos hc, if_pos hc]
        dsimp only
        rw [red_val, sumF_val]
        simp [sv]
      · rw [if_neg hc, if_neg hc]
    · rfl
theorem sumOf_perm {l m : List api_Ratio} (h : l.Perm m) : sumOf l = sumOf m := by
  rw [sumOf_eq, sumOf_eq, h.length_eq, h.all_eq, lcmL_perm h, sumT_perm _ h]
theorem foldl_snoc {α β : Type} (f : β → α) : ∀ (l : List β) (b : List α), l.foldl (fun b n => b ++ [f n]) b = b ++ l.map f
  | [], b => by simp
  | x :: l, b => by simp [foldl_snoc f l]
theorem pure_RatioSumsAnyOrder (t : List Int) : law01_RatioSumsAnyOrder t = some true := by
  unfold law01_RatioSumsAnyOrder
  obtain ⟨t1, e1, h1⟩ := new_ok t
  rw [e1]; simp only [Option.bind]
  obtain ⟨l, t2, e2, h2, hl⟩ := list_ok t1 true h1
  rw [e2]; simp only
  obtain ⟨p, t3, e3, h3, hp⟩ := order_ok t2 l.length h2 (by omega)
  rw [e3]; simp only
  have hpl : p.length = l.length := by rw [hp.length_eq]; simp [rg]
  have hf := iter_fold p (law01_RatioSumsAnyOrder_l2 l p) (fun (b : List api_Ratio) n => b ++ [ix l n]) (fun b => b) (fun k b => b.length = k) (fun k b hk hb => by
    have hm : 0 ≤ p[k] ∧ p[k] < l.length := mem_rg.1 (hp.mem_iff.1 (List.getElem_mem hk))
    refine ⟨?_, by simp [hb]⟩
    simp only [law01_RatioSumsAnyOrder_l2, ix_nat p k hk]
    rw [req_pos (by refine ⟨by omega, hm, ?_⟩; simp; omega), i64_add1 k (by omega), show decide ((k : Int) < (p.length : Int)) = true by simp; omega, cond_true]) (fun b _ => by simp [law01_RatioSumsAnyOrder_l2]) [] rfl
  rw [hf]
  simp only [foldl_snoc, List.nil_append, law01_RatioSumsAnyOrder_j1]
  have hperm : (p.map (ix l)).Perm l := by
    have := hp.map (ix l)
    rwa [map_rg] at this
  rw [Sum_eq, Sum_eq, sumOf_perm hperm]
  simp [awake_eq, req_pos]
/-! ### the order of fractions -/
theorem cmpI_neg (x y : Int) : cmpI x y = -cmpI y x := by
  unfold cmpI; (repeat' split) <;> omega
theorem cmpI_zero (x y : Int) : cmpI x y = 0 ↔ x = y := by
  unfold cmpI; (repeat' split) <;> omega
theorem cmpI_nonpos (x y : Int) : cmpI x y ≤ 0 ↔ x ≤ y := by
  unfold cmpI; (repeat' split) <;> omega
theorem cmpI_pos (x y : Int) : 0 < cmpI x y ↔ y < x := by
  unfold cmpI; (repeat' split) <;> omega
theorem cmpI_mul' (x y c : Int) (h : 0 < c) : cmpI (x * c) (y * c) = cmpI x y := by
  unfold cmpI
  have e1 : x * c < y * c ↔ x < y := ⟨fun hh => Int.lt_of_mul_lt_mul_right hh (by omega), fun hh => Int.mul_lt_mul_of_pos_right hh h⟩
  have e2 : y * c < x * c ↔ y < x := ⟨fun hh => Int.lt_of_mul_lt_mul_right hh (by omega), fun hh => Int.mul_lt_mul_of_pos_right hh h⟩
  simp only [e1, e2]
theorem cmpI_shift (x y z : Int) : cmpI (x + z) (y + z) = cmpI x y := by
  unfold cmpI
  simp only [show x + z < y + z ↔ x < y by omega, show y + z < x + z ↔ y < x by omega]
theorem cmpR_v {a b : api_Ratio} (ha : vR a = true) (hb : vR b = true) : cmpR a b = cmpI (a.Num * b.Den) (b.Num * a.Den) := by unfold cmpR; rw [if_pos ⟨ha, hb⟩]
/-- fractions in lowest terms are equal if their values are -/
theorem lowest_eq {a b : api_Ratio} (ha : vR a = true) (hb : vR b = true) (h : a.Num * b.Den = b.Num * a.Den) : a = b := by
  have va := vn_of ha
  have vb := vn_of hb
  have hn : a.Num.natAbs * b.Den.natAbs = b.Num.natAbs * a.Den.natAbs := by
    rw [← Int.natAbs_mul, ← Int.natAbs_mul, h]
  have d1 : a.Den.natAbs ∣ b.Den.natAbs := Nat.Coprime.dvd_of_dvd_mul_left (Nat.Coprime.symm va.cop) ⟨b.Num.natAbs, by rw [hn, Nat.mul_comm]⟩
  have d2 : b.Den.natAbs ∣ a.Den.natAbs := Nat.Coprime.dvd_of_dvd_mul_left (Nat.Coprime.symm vb.cop) ⟨a.Num.natAbs, by rw [← hn, Nat.mul_comm]⟩
  have hd := Nat.dvd_antisymm d1 d2
  have hD : a.Den = b.Den := by rw [← va.de, ← vb.de, hd]
  have h0 : a.Den ≠ 0 := by have := va.d0; omega
  rw [← hD] at h
  have hN := Int.eq_of_mul_eq_mul_right h0 h
  cases a; cases b
  simp_all
theorem cmpR_trans {a b c : api_Ratio} (ha : vR a = true) (hb : vR b = true) (hc : vR c = true) (h1 : cmpR a b ≤ 0) (h2 : cmpR b c ≤ 0) : cmpR a c ≤ 0 := by
  rw [cmpR_v ha hb, cmpI_nonpos] at h1
  rw [cmpR_v hb hc, cmpI_nonpos] at h2
  rw [cmpR_v ha hc, cmpI_nonpos]
  have da := (vd_of ha).d0; have db := (vd_of hb).d0; have dc := (vd_of hc).d0
  have k1 := Int.mul_le_mul_of_nonneg_right h1 (show 0 ≤ c.Den by omega)
  have k2 := Int.mul_le_mul_of_nonneg_right h2 (show 0 ≤ a.Den by omega)
  have k3 : a.Num * c.Den * b.Den ≤ c.Num * a.Den * b.Den := by
    have e1 : a.Num * c.Den * b.Den = a.Num * b.Den * c.Den := by rw [Int.mul_right_comm]
    have e2 : c.Num * a.Den * b.Den = c.Num * b.Den * a.Den := by rw [Int.mul_right_comm]
    have e3 : b.Num * a.Den * c.Den = b.Num * c.Den * a.Den := by rw [Int.mul_right_comm]
    omega
  exact Int.le_of_mul_le_mul_right k3 (by omega)
/-- what a sum denotes -/
theorem addOf2_val {a b x : api_Ratio} (ha : vR a = true) (hb : vR b = true) (h : addOf2 a b = (x, 0)) : vR x = true ∧ x.Num * (a.Den * b.Den) = (a.Num * b.Den + b.Num * a.Den) * x.Den ∧ 0 < x.Den := by
  have va := vn_of ha
  have vb := vn_of hb
  unfold addOf2 at h
  rw [if_pos ⟨ha, hb⟩] at h
  obtain ⟨g1, g2, g3⟩ := redOf_val _ _ _ (Nat.mul_pos va.d0 vb.d0) x h
  refine ⟨g1, ?_, g3⟩
  rw [addS_val, sv_num, sv_num, Int.natCast_mul, va.de, vb.de] at g2
  exact g2
theorem cmpR_add {a b c x y : api_Ratio} (ha : vR a = true) (hb : vR b = true) (hc : vR c = true) (hx : addOf2 a c = (x, 0)) (hy : addOf2 b c = (y, 0)) : cmpR x y = cmpR a b := by
  obtain ⟨x1, x2, x3⟩ := addOf2_val ha hc hx
  obtain ⟨y1, y2, y3⟩ := addOf2_val hb hc hy
  have da := (vd_of ha).d0; have db := (vd_of hb).d0; have dc := (vd_of hc).d0
  rw [cmpR_v x1 y1, cmpR_v ha hb]
  have hD : 0 < a.Den * c.Den * (b.Den * c.Den) := Int.mul_pos (Int.mul_pos (by omega) (by omega)) (Int.mul_pos (by omega) (by omega))
  have hE : 0 < x.Den * y.Den := Int.mul_pos x3 y3
  have hF : 0 < c.Den * c.Den := Int.mul_pos (by omega) (by omega)
  rw [← cmpI_mul' _ _ _ hD]
  have e1 : x.Num * y.Den * (a.Den * c.Den * (b.Den * c.Den)) = (a.Num * b.Den * (c.Den * c.Den) + c.Num * a.Den * b.Den * c.Den) * (x.Den * y.Den) := by
    have : x.Num * y.Den * (a.Den * c.Den * (b.Den * c.Den)) = x.Num * (a.Den * c.Den) * (y.Den * (b.Den * c.Den)) := by grind
    rw [this, x2]; grind
  have e2 : y.Num * x.Den * (a.Den * c.Den * (b.Den * c.Den)) = (b.Num * a.Den * (c.Den * c.Den) + c.Num * a.Den * b.Den * c.Den) * (x.Den * y.Den) := by
    have : y.Num * x.Den * (a.Den * c.Den * (b.Den * c.Den)) = y.Num * (b.Den * c.Den) * (x.Den * (a.Den * c.Den)) := by grind
    rw [this, y2]; grind
  rw [e1, e2, cmpI_mul' _ _ _ hE, cmpI_shift, cmpI_mul' _ _ _ hF]
theorem cmpR_anti (a b : api_Ratio) : cmpR a b = -cmpR b a := by
  unfold cmpR
  by_cases h : vR a = true ∧ vR b = true
  · rw [if_pos h, if_pos h.symm]; exact cmpI_neg _ _
  · rw [if_neg h, if_neg (fun h2 => h h2.symm)]; rfl
theorem pure_RatioOrders (t : List Int) : law01_RatioOrders t = some true := by
  unfold law01_RatioOrders
  obtain ⟨t1, e1, h1⟩ := new_ok t
  rw [e1, some_bind]
  obtain ⟨a, t2, e2, h2, ha⟩ := tRatio t1 h1
  rw [e2, some_bind]; dsimp only
  obtain ⟨b, t3, e3, h3, hb⟩ := tRatio t2 h2
  rw [e3, some_bind]; dsimp only
  obtain ⟨c, t4, e4, h4, hc, _⟩ := tSmall t3 h3
  rw [e4, some_bind]; dsimp only
  simp only [Compare_eq, Add_eq, some_bind]
  have hv := cmpR_vals b a
  rw [req_pos (by intro _; rfl)]
  simp only [Option.getD_some]
  have c1 : (cmpR a b != IntKind.i64.wrap (0 - cmpR b a)) = false := by
    rw [wrap64 (by omega) (by omega), bne_eq_false_iff_eq, cmpR_anti a b]; omega
  have c2 : (!((cmpR a b == 0) == ((a.Num == b.Num) && (a.Den == b.Den)))) = false := by
    have : (cmpR a b == 0) = ((a.Num == b.Num) && (a.Den == b.Den)) := by
      rw [Bool.eq_iff_iff]
      simp only [beq_iff_eq, Bool.and_eq_true]
      rw [cmpR_v ha hb, cmpI_zero]
      constructor
      · intro h; have := lowest_eq ha hb h; subst this; exact ⟨rfl, rfl⟩
      · rintro ⟨h1, h2⟩; rw [h1, h2]
    rw [this]; simp
  rw [c1, c2, Bool.or_self, cond_false, req_pos ⟨fun _ => rfl, fun _ => rfl⟩]
  have c3 : ((decide (cmpR a b ≤ 0) && decide (cmpR b c ≤ 0)) && decide (0 < cmpR a c)) = false := by
    rcases bcases ((decide (cmpR a b ≤ 0) && decide (cmpR b c ≤ 0)) && decide (0 < cmpR a c)) with h | h
    · simp only [Bool.and_eq_true, decide_eq_true_eq] at h
      have := cmpR_trans ha hb hc h.1.1 h.1.2
      omega
    · exact h
  rw [c3, cond_false]
  rw [req_pos ⟨fun _ => rfl, fun _ => rfl, fun _ => by rw [awake_eq]; rfl⟩, awake_eq]
  simp only [Option.getD_some, Bool.and_true, Option.some.injEq]
  by_cases hx : (addOf2 a c).2 = 0
  · by_cases hy : (addOf2 b c).2 = 0
    · have := cmpR_add ha hb hc (x := (addOf2 a c).1) (y := (addOf2 b c).1) (Prod.ext rfl hx) (Prod.ext rfl hy)
      rw [this]; simp
    · simp [hy]
  · simp [hx]
end Go.LS
