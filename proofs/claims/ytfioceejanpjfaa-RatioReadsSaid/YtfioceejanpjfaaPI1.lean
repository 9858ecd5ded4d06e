/-
  Law 01: reading texts that are numbers, or nearly so.
  No condition.
-/
import Derived.Test.YtfioceejanpjfaaPI
namespace Go.LS
set_option linter.all false
set_option linter.unusedSimpArgs false
set_option linter.unusedVariables false
set_option maxRecDepth 20000

theorem reads_end (s : Str) (hs : s.length < 1000) : law01_RatioReads_j1 s = some true := by
  unfold law01_RatioReads_j1
  obtain ⟨r, h1, h2⟩ := Parse_same s (by omega)
  rw [h1, h2]
  simp [awake_eq, req_pos]
theorem reads_j2 (s : Str) (t : make_Tape) (h : TOK t) (hs : s.length < 900) : law01_RatioReads_j2 s t.L t.At = some true := by
  unfold law01_RatioReads_j2
  obtain ⟨b, t1, e1, h1⟩ := one_ok t 8 h (by decide)
  rw [tmk, e1, some_bind]
  dsimp only
  cases b with
  | false => rw [cond_false]; exact reads_end s (by omega)
  | true =>
    obtain ⟨y, t2, e2, h2, y0, y1, _⟩ := next_ok t1 5 h1 (by decide)
    have y2 := y1 (by decide)
    rw [cond_true, e2, some_bind]
    dsimp only
    have hm : ix ([([32] : Str), ([47] : Str), ([46] : Str), ([45] : Str), ([120] : Str)]) y ∈ ([([32] : Str), ([47] : Str), ([46] : Str), ([45] : Str), ([120] : Str)]) := ix_mem _ _ y0 (by simpa using y2)
    have hl : (ix ([([32] : Str), ([47] : Str), ([46] : Str), ([45] : Str), ([120] : Str)]) y).length = 1 := by
      generalize ix ([([32] : Str), ([47] : Str), ([46] : Str), ([45] : Str), ([120] : Str)]) y = z at *
      simp only [List.mem_cons, List.not_mem_nil, or_false] at hm
      rcases hm with h | h | h | h | h <;> rw [h] <;> rfl
    rw [req_pos ⟨⟨y0, by simpa using y2⟩, by omega⟩]
    unfold bindV
    exact reads_end _ (by simp [List.length_append]; omega)
theorem strOf_len (l : List Int) : (strOf l).length = l.length := by simp [strOf]
theorem reads_j4 (s : Str) (t : make_Tape) (h : TOK t) (hs : s.length < 500) : law01_RatioReads_j4 s t.L t.At = some true := by
  unfold law01_RatioReads_j4
  obtain ⟨y, t1, e1, h1, y0, y1, _⟩ := next_ok t 3 h (by decide)
  have y2 := y1 (by decide)
  rw [tmk, e1, some_bind]
  dsimp only
  have hm : ix ([([] : Str), ([47] : Str), ([46] : Str)]) y ∈ ([([] : Str), ([47] : Str), ([46] : Str)]) := ix_mem _ _ y0 (by simpa using y2)
  have hl : (ix ([([] : Str), ([47] : Str), ([46] : Str)]) y).length ≤ 1 := by
    generalize ix ([([] : Str), ([47] : Str), ([46] : Str)]) y = z at *
    simp only [List.mem_cons, List.not_mem_nil, or_false] at hm
    rcases hm with h | h | h <;> rw [h] <;> decide
  rw [req_pos ⟨⟨y0, by simpa using y2⟩, by omega⟩]
  generalize ix ([([] : Str), ([47] : Str), ([46] : Str)]) y = z at *
  obtain ⟨n, t2, e2, h2, n0, n1⟩ := range_ok t1 0 20 h1 (by decide) (by decide) (by decide)
  rw [e2, some_bind]
  dsimp only
  obtain ⟨⟨s6, L, A⟩, e3, g1, g2⟩ := iter_inv (f := law01_RatioReads_l3) (fun x => x.2.1 ≤ 20 ∧ x.1.length + x.2.1.toNat ≤ 600 ∧ TOK ⟨x.2.2.1, x.2.2.2⟩) (fun x => x.2.1.toNat)
    (fun r => r.1.length ≤ 600 ∧ TOK ⟨r.2.1, r.2.2⟩) (by
      rintro ⟨s5, i, L, A⟩ ⟨k1, k2, k3⟩
      dsimp only at k1 k2 k3
      simp only [law01_RatioReads_l3]
      rcases bcases (decide ((0 : Int) < i)) with hc | hc <;> rw [hc]
      · have hi : 0 < i := by simpa using hc
        rw [cond_true]
        unfold make_Tape_More
        rw [some_bind]
        dsimp only
        rcases bcases (decide (A < (L.length : Int))) with hd | hd <;> rw [hd]
        · left
          obtain ⟨d, t3, e3, h3, hd2⟩ := pick_ok ⟨L, A⟩ [0, 0, 1, 9, 5] k3 (by decide) (by decide)
          rw [cond_true, e3, some_bind]
          dsimp only
          rw [req_pos (by rw [strOf_len]; simp; omega)]
          unfold bindV
          rw [wrap64 (by omega) (by omega)]
          refine ⟨_, rfl, ⟨by show i - 1 ≤ 20; omega, ?_, h3⟩, by show (i - 1).toNat < i.toNat; omega⟩
          show (s5 ++ strOf _).length + (i - 1).toNat ≤ 600
          rw [List.length_append, strOf_len]
          simp; omega
        · right
          exact ⟨_, rfl, by show s5.length ≤ 600; omega, k3⟩
      · right
        exact ⟨_, rfl, by show s5.length ≤ 600; omega, k3⟩) (s ++ z, n, t2.L, t2.At) ⟨n1, by show (s ++ z).length + n.toNat ≤ 600; rw [List.length_append]; omega, h2⟩
  rw [e3, some_bind]
  exact reads_j2 s6 ⟨L, A⟩ g2 (by dsimp only at g1; omega)
theorem reads_j6 (s : Str) (t : make_Tape) (h : TOK t) (hs : s.length ≤ 1) : law01_RatioReads_j6 s t.L t.At = some true := by
  unfold law01_RatioReads_j6
  obtain ⟨n, t2, e2, h2, n0, n1⟩ := range_ok t 0 20 h (by decide) (by decide) (by decide)
  rw [tmk, e2, some_bind]
  dsimp only
  obtain ⟨⟨s6, L, A⟩, e3, g1, g2⟩ := iter_inv (f := law01_RatioReads_l5) (fun x => x.2.1 ≤ 20 ∧ x.1.length + x.2.1.toNat ≤ 100 ∧ TOK ⟨x.2.2.1, x.2.2.2⟩) (fun x => x.2.1.toNat)
    (fun r => r.1.length ≤ 100 ∧ TOK ⟨r.2.1, r.2.2⟩) (by
      rintro ⟨s5, i, L, A⟩ ⟨k1, k2, k3⟩
      dsimp only at k1 k2 k3
      simp only [law01_RatioReads_l5]
      rcases bcases (decide ((0 : Int) < i)) with hc | hc <;> rw [hc]
      · left
        have hi : 0 < i := by simpa using hc
        obtain ⟨d, t3, e3, h3, hd2⟩ := pick_ok ⟨L, A⟩ [0, 1, 9, 5] k3 (by decide) (by decide)
        rw [cond_true, e3, some_bind]
        dsimp only
        rw [req_pos (by rw [strOf_len]; simp; omega)]
        unfold bindV
        rw [wrap64 (by omega) (by omega)]
        refine ⟨_, rfl, ⟨by show i - 1 ≤ 20; omega, ?_, h3⟩, by show (i - 1).toNat < i.toNat; omega⟩
        show (s5 ++ strOf _).length + (i - 1).toNat ≤ 100
        rw [List.length_append, strOf_len]
        simp; omega
      · right
        exact ⟨_, rfl, by show s5.length ≤ 100; omega, k3⟩) (s, n, t2.L, t2.At) ⟨n1, by show s.length + n.toNat ≤ 100; omega, h2⟩
  rw [e3, some_bind]
  exact reads_j4 s6 ⟨L, A⟩ g2 (by dsimp only at g1; omega)
theorem pure_RatioReads (t : List Int) : law01_RatioReads t = some true := by
  unfold law01_RatioReads
  obtain ⟨t1, e1, h1⟩ := new_ok t
  rw [e1, some_bind]
  obtain ⟨y, t2, e2, h2, _⟩ := next_ok t1 2 h1 (by decide)
  rw [e2, some_bind]
  dsimp only
  rcases bcases (y == (1 : Int)) with hc | hc <;> rw [hc]
  · rw [cond_true]; exact reads_j6 _ t2 h2 (by decide)
  · rw [cond_false]; exact reads_j6 _ t2 h2 (by decide)
end Go.LS
