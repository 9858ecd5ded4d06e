/-
  Boundaries: the sane examples, the law of the interpolated boundaries, the dice's boundaries, the law of the grades.
  Conditions: Sm (few scores, small counts), Bd (falling boundaries).
-/
import Derived.Test.YtamifffofclhkaaPZ
namespace Go.LS
set_option linter.all false
set_option linter.unusedSimpArgs false
set_option linter.unusedVariables false
set_option maxRecDepth 20000

instance (n : Int) : Decidable (I64 n) := by unfold I64; infer_instance
theorem cs_eq (part all : Int) (share : api_Ratio) (h : I64 part) (h2 : I64 all) : boundary_compareShare part all share = some (cmpR (newOf part all).1 share) := by
  unfold boundary_compareShare
  rw [New_eq _ _ h h2]
  simp only [Option.bind]
  rw [Compare_eq]
theorem sm4 : Sm ⟨[1, 1, 1, 1]⟩ := ⟨by decide, by decide, by decide⟩
theorem check4 (share : api_Ratio) (hv : vR share = true) (h0 : 0 ≤ share.Num) (h1 : share.Num ≤ share.Den) : boundary_check ⟨[1, 1, 1, 1]⟩ share = some 0 := by
  unfold boundary_check
  rw [dValid _ sm4, Valid_eq, hv]
  simp only [Option.bind]
  rw [req_pos (by simp), dCount _ sm4, show count ⟨[1, 1, 1, 1]⟩ = 4 by decide]
  simp only [Option.getD, Bool.not_true, Bool.or_self, cond_false]
  rw [show ((4 : Int) == 0) = false by decide, cond_false, show (decide (share.Num < (0 : Int)) || decide (share.Den < share.Num)) = false by simp; omega, cond_false]
theorem RC4 : RC ⟨[1, 1, 1, 1]⟩ = [4, 3, 2, 1, 0] := by decide
theorem l2_step (share : api_Ratio) (b : Nat) (h0 : 0 < b) (h1 : b < 5) (c : Int) (hc : cmpR (newOf (ix [(4 : Int), 3, 2, 1, 0] b) 4).1 share = c) (hi : I64 (ix [(4 : Int), 3, 2, 1, 0] b)) : boundary_Share_l2 share [4, 3, 2, 1, 0] b = bif decide (0 ≤ c) then some (.inr (.inr (b, 0))) else some (.inl (IntKind.i64.wrap ((b : Int) - 1))) := by
  simp only [boundary_Share_l2]
  rw [show decide ((0 : Int) < (b : Int)) = true by simp; omega, cond_true, req_pos (by simp; omega), show ix [(4 : Int), 3, 2, 1, 0] (0 : Int) = 4 by decide, cs_eq _ _ _ hi (by decide), hc]
  rfl
theorem share4a : boundary_Share ⟨[1, 1, 1, 1]⟩ ⟨1, 2⟩ = some (2, 0) := by
  unfold boundary_Share
  rw [check4 _ (by decide) (by decide) (by decide)]
  simp only [Option.bind]
  rw [show ((0 : Int) != 0) = false by simp, cond_false, reach_eq _ sm4, RC4]
  simp only []
  rw [show IntKind.i64.wrap ((([4, 3, 2, 1, 0] : List Int).length : Int) - 1) = ((4 : Nat) : Int) by decide]
  rw [iter_inl (l2_step ⟨1, 2⟩ 4 (by decide) (by decide) (-1) (by decide) (by decide)), show IntKind.i64.wrap (((4 : Nat) : Int) - 1) = ((3 : Nat) : Int) by decide]
  rw [iter_inl (l2_step ⟨1, 2⟩ 3 (by decide) (by decide) (-1) (by decide) (by decide)), show IntKind.i64.wrap (((3 : Nat) : Int) - 1) = ((2 : Nat) : Int) by decide]
  rw [iter_inr (l2_step ⟨1, 2⟩ 2 (by decide) (by decide) 0 (by decide) (by decide))]
  rfl
theorem share4b : boundary_Share ⟨[1, 1, 1, 1]⟩ ⟨0, 1⟩ = some (4, 0) := by
  unfold boundary_Share
  rw [check4 _ (by decide) (by decide) (by decide)]
  simp only [Option.bind]
  rw [show ((0 : Int) != 0) = false by simp, cond_false, reach_eq _ sm4, RC4]
  simp only []
  rw [show IntKind.i64.wrap ((([4, 3, 2, 1, 0] : List Int).length : Int) - 1) = ((4 : Nat) : Int) by decide]
  rw [iter_inr (l2_step ⟨0, 1⟩ 4 (by decide) (by decide) 0 (by decide) (by decide))]
  rfl
theorem bd31 : Bd [3, 1] 3 := ⟨by decide, by decide, by decide, by
  intro i j hi hj hij
  simp at hi hj
  rcases (show (i = 0 ∧ j = 0) ∨ (i = 0 ∧ j = 1) ∨ (i = 1 ∧ j = 1) by omega) with ⟨rfl, rfl⟩ | ⟨rfl, rfl⟩ | ⟨rfl, rfl⟩ <;> simp⟩
theorem sane_eq : law35_sane = some true := by
  unfold law35_sane
  rw [share4a, share4b, show (4 : Int) = ((4 : Nat) : Int) from rfl, Interp_eq 70 40 4 (by decide) (by decide) (by decide) (by decide) (by decide), Tally_eq _ _ sm4 bd31, show interp 70 40 4 = [70, 62, 55, 47, 40] by decide, show tl ⟨[1, 1, 1, 1]⟩ [3, 1] ([1, 1, 1, 1] : List Int).length = [1, 2, 1] by decide]
  simp only [Option.bind]
  rw [same_eq _ _ (by decide), same_eq _ _ (by decide), Grade_eq _ _ (by decide), Check_eq _ _ bd31 (by decide) (by decide)]
  rw [req_pos (by simp)]
  decide
theorem light_le (t : List Int) : mark_Light t = some (decide ((t.length : Int) ≤ 600)) := rfl

/-! ### interpolated boundaries -/
theorem drop_q (D n k : Int) (hn : 0 < n) : D / n ≤ ((k + 1) * D + n - 1) / n - (k * D + n - 1) / n ∧ ((k + 1) * D + n - 1) / n - (k * D + n - 1) / n ≤ D / n + 1 := by
  have e : (k + 1) * D + n - 1 = (k * D + n - 1 + D % n) + D / n * n := by
    have := Int.mul_ediv_add_emod D n
    have h2 : n * (D / n) = D / n * n := Int.mul_comm _ _
    rw [Int.add_mul]; omega
  rw [e, Int.add_mul_ediv_right _ _ (by omega)]
  have h1 := Int.emod_nonneg D (show n ≠ 0 by omega)
  have h2 := Int.emod_lt_of_pos D hn
  have h3 := Int.ediv_le_ediv hn (show k * D + n - 1 ≤ k * D + n - 1 + D % n by omega)
  have h4 := Int.ediv_le_ediv hn (show k * D + n - 1 + D % n ≤ k * D + n - 1 + 1 * n by omega)
  rw [Int.add_mul_ediv_right _ _ (by omega)] at h4
  omega
theorem interp_len (hi lo : Int) (n : Nat) : (interp hi lo n).length = n + 1 := by simp [interp]
theorem interp_ix (hi lo : Int) (n k : Nat) (h : k ≤ n) : ix (interp hi lo n) (k : Int) = hi - ((k : Int) * (hi - lo) + n - 1) / n := by
  rw [ix_nat _ _ (by rw [interp_len]; omega)]; simp [interp]
theorem pure_BoundaryInterpolates (high low steps : Int) (h1 : 0 ≤ high ∧ high < 256) (h2 : 0 ≤ low ∧ low < 256) (h3 : 0 ≤ steps ∧ steps < 256) : law35_BoundaryInterpolates high low steps = some true := by
  unfold law35_BoundaryInterpolates bindV
  simp only []
  rw [wrap64 (n := steps) (by omega) (by omega), wrap64 (n := low) (by omega) (by omega), wrap64 (n := high) (by omega) (by omega)]
  rw [Int.tmod_eq_emod_of_nonneg h1.1, Int.tmod_eq_emod_of_nonneg h2.1, Int.tmod_eq_emod_of_nonneg h3.1]
  have hh : 0 ≤ high % 100 ∧ high % 100 < 100 := ⟨Int.emod_nonneg _ (by decide), Int.emod_lt_of_pos _ (by decide)⟩
  have hl : 0 ≤ low % 100 ∧ low % 100 < 100 := ⟨Int.emod_nonneg _ (by decide), Int.emod_lt_of_pos _ (by decide)⟩
  have hs : 0 ≤ steps % 8 ∧ steps % 8 < 8 := ⟨Int.emod_nonneg _ (by decide), Int.emod_lt_of_pos _ (by decide)⟩
  rw [wrap64 (n := 1 + steps % 8) (by omega) (by omega), wrap64 (n := low % 100 + high % 100) (by omega) (by omega)]
  obtain ⟨n, hn⟩ : ∃ n : Nat, 1 + steps % 8 = (n : Int) := ⟨(1 + steps % 8).toNat, by omega⟩
  rw [hn]
  generalize low % 100 = lo at *
  generalize high % 100 = g at *
  rw [Interp_eq (lo + g) lo n (by omega) (by omega) (by omega) (by omega) (by omega)]
  simp only [Option.bind]
  have i0 := interp_ix (lo + g) lo n 0 (by omega)
  have in' := interp_ix (lo + g) lo n n (by omega)
  have e0 : ix (interp (lo + g) lo n) (0 : Int) = lo + g := by
    rw [show (0 : Int) = ((0 : Nat) : Int) from rfl, i0, show ((0 : Nat) : Int) * (lo + g - lo) + n - 1 = (n : Int) - 1 by simp, Int.ediv_eq_zero_of_lt (by omega) (by omega)]; omega
  have en : ix (interp (lo + g) lo n) (n : Int) = lo := by
    rw [in', show (n : Int) * (lo + g - lo) + n - 1 = ((n : Int) - 1) + (lo + g - lo) * n by rw [Int.mul_comm]; omega, Int.add_mul_ediv_right _ _ (by omega), Int.ediv_eq_zero_of_lt (by omega) (by omega)]; omega
  have hlen := interp_len (lo + g) lo n
  rw [req_pos (by refine ⟨fun _ => by omega, fun _ => by omega⟩), wrap64 (n := (n : Int) + 1) (by omega) (by omega), e0, en, hlen]
  rw [show (((((0 : Int) != 0) || (((n + 1 : Nat) : Int) != (n : Int) + 1)) || (lo + g != lo + g)) || (lo != lo)) = false by simp, cond_false]
  obtain ⟨⟨least, most⟩, e, p1, p2⟩ := iter_inv (f := law35_BoundaryInterpolates_l2 n (interp (lo + g) lo n)) (fun s => g / n ≤ s.1 ∧ s.1 ≤ 200 ∧ 0 ≤ s.2.1 ∧ s.2.1 ≤ g / n + 1 ∧ 1 ≤ s.2.2 ∧ s.2.2 ≤ n + 1) (fun s => ((n : Int) + 1 - s.2.2).toNat)
    (fun r => (g / n ≤ r.1 ∧ r.1 ≤ 200) ∧ (0 ≤ r.2 ∧ r.2 ≤ g / n + 1)) (by
      rintro ⟨a, b, i⟩ ⟨s1, s2, s3, s4, s5, s6⟩
      simp only at s1 s2 s3 s4 s5 s6
      simp only [law35_BoundaryInterpolates_l2, bindV]
      rcases bcases (decide (i ≤ (n : Int))) with hc | hc <;> rw [hc]
      · left
        have hc' : i ≤ n := by simpa using hc
        obtain ⟨k, rfl⟩ : ∃ k : Nat, i = ((k + 1 : Nat) : Int) := ⟨(i - 1).toNat, by omega⟩
        rw [cond_true, show IntKind.i64.wrap (((k + 1 : Nat) : Int) - 1) = (k : Int) by rw [wrap64 (by omega) (by omega)]; omega, req_pos (by omega), interp_ix _ _ _ k (by omega), interp_ix _ _ _ (k + 1) (by omega)]
        have hq := drop_q (lo + g - lo) n k (by omega)
        rw [show lo + g - lo = g by omega] at *
        rw [show ((k + 1 : Nat) : Int) = (k : Int) + 1 by omega] at *
        generalize ((k : Int) * g + n - 1) / (n : Int) = x at *
        generalize (((k : Int) + 1) * g + n - 1) / (n : Int) = y at *
        have hg : g / n ≤ g := Int.ediv_le_self _ (by omega)
        have hg0 : 0 ≤ g / n := Int.ediv_nonneg (by omega) (by omega)
        rw [wrap64 (n := lo + g - x - (lo + g - y)) (by omega) (by omega), wrap64 (n := (k : Int) + 1 + 1) (by omega) (by omega)]
        refine ⟨_, rfl, ?_, ?_⟩
        · simp only [imax, imin]
          refine ⟨?_, ?_, ?_, ?_, by omega, by omega⟩ <;> split <;> omega
        · simp only []; omega
      · right
        exact ⟨_, rfl, ⟨s1, s2⟩, ⟨s3, s4⟩⟩) (200, 0, 1) (by
        have hg : g / n ≤ g := Int.ediv_le_self _ (by omega)
        have hg0 : 0 ≤ g / n := Int.ediv_nonneg (by omega) (by omega)
        simp only []; omega)
  rw [e]
  have hg : g / n ≤ g := Int.ediv_le_self _ (by omega)
  have hg0 : 0 ≤ g / n := Int.ediv_nonneg (by omega) (by omega)
  simp only at p1 p2
  simp only [law35_BoundaryInterpolates_j1]
  rw [sane_eq, wrap64 (n := most - least) (by omega) (by omega), req_pos (by simp)]
  rw [show decide ((0 : Int) ≤ least) = true by simp; omega, show decide (most - least ≤ 1) = true by simp; omega]
  rfl
end Go.LS
