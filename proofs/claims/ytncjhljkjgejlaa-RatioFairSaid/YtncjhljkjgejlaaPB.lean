/-
  The tape: each reading of it has a value, and the tape stays in order.
  Conditions: those of TOK.
-/
import Derived.Test.YtncjhljkjgejlaaPA
import Derived.Test.YtncjhljkjgejlaaD4
namespace Go.LS
set_option linter.all false
set_option linter.unusedSimpArgs false
set_option linter.unusedVariables false

structure TOK (t : make_Tape) : Prop where
  len : t.L.length ≤ 600
  lo : 0 ≤ t.At
  hi : t.At ≤ t.L.length
theorem new_ok (l : List Int) : ∃ t, make_New l = some t ∧ TOK t := by
  unfold make_New make_New_j1
  rcases bcases (decide ((600 : Int) < (l.length : Int))) with h | h <;> rw [h]
  · have h' : (600 : Int) < l.length := by simpa using h
    refine ⟨_, by rw [cond_true, req_pos (by omega)], ?_⟩
    exact ⟨by simp; omega, by simp, by simp⟩
  · have h' : (l.length : Int) ≤ 600 := by simpa using h
    exact ⟨_, by rw [cond_false], ⟨by simp; omega, by simp, by simp⟩⟩
theorem cut_ok (x n : Int) (h : n ≤ 4611686018427387904) : ∃ y, make_Cut x n = some y ∧ 0 ≤ y ∧ (1 ≤ n → y < n) ∧ (n < 1 → y = 0) := by
  unfold make_Cut make_Cut_j1
  rcases bcases (decide (n < (1 : Int))) with hc | hc <;> rw [hc]
  · have : n < 1 := by simpa using hc
    exact ⟨0, rfl, by omega, by omega, fun _ => rfl⟩
  · have h1 : 1 ≤ n := by simpa using hc
    rw [cond_false, req_pos (by omega)]
    have h3 := Int.tmod_lt_of_pos x (show 0 < n by omega)
    have h4 : -n < x.tmod n := Int.lt_tmod_of_pos x (show 0 < n by omega)
    rcases bcases (decide (Int.tmod x n < (0 : Int))) with hd | hd <;> rw [hd]
    · have : x.tmod n < 0 := by simpa using hd
      exact ⟨_, rfl, by rw [wrap64 (by omega) (by omega)]; omega, by rw [wrap64 (by omega) (by omega)]; omega, by omega⟩
    · have : 0 ≤ x.tmod n := by simpa using hd
      exact ⟨_, rfl, this, fun _ => h3, by omega⟩
theorem raw_ok (t : make_Tape) (h : TOK t) : ∃ y t', make_Tape_Raw t = some (y, t') ∧ TOK t' := by
  obtain ⟨h1, h2, h3⟩ := h
  unfold make_Tape_Raw
  rcases bcases (decide ((t.L.length : Int) ≤ t.At)) with hc | hc <;> rw [hc]
  · exact ⟨_, _, rfl, h1, h2, h3⟩
  · have hlt : t.At < t.L.length := by simpa using hc
    rw [cond_false, wrap64 (n := t.At + 1) (by omega) (by omega), wrap64 (by omega) (by omega), req_pos (by omega)]
    exact ⟨_, _, rfl, h1, by show 0 ≤ t.At + 1; omega, by show t.At + 1 ≤ (t.L.length : Int); omega⟩
theorem next_ok (t : make_Tape) (n : Int) (h : TOK t) (hn : n ≤ 4611686018427387904) : ∃ y t', make_Tape_Next t n = some (y, t') ∧ TOK t' ∧ 0 ≤ y ∧ (1 ≤ n → y < n) ∧ (n < 1 → y = 0) := by
  obtain ⟨y, t', e1, h1⟩ := raw_ok t h
  obtain ⟨z, e2, h2⟩ := cut_ok y n hn
  exact ⟨z, t', by unfold make_Tape_Next; rw [e1]; simp only [Option.bind]; rw [e2], h1, h2⟩
theorem range_ok (t : make_Tape) (lo hi : Int) (h : TOK t) (h1 : -1152921504606846976 ≤ lo) (h2 : hi ≤ 1152921504606846976) (h3 : lo ≤ hi) : ∃ y t', make_Tape_Range t lo hi = some (y, t') ∧ TOK t' ∧ lo ≤ y ∧ y ≤ hi := by
  obtain ⟨y, t', e1, h4, h5, h6, h7⟩ := next_ok t (hi - lo + 1) h (by omega)
  refine ⟨lo + y, t', ?_, h4, by omega, by have := h6 (by omega); omega⟩
  unfold make_Tape_Range
  rw [wrap64 (n := hi - lo) (by omega) (by omega), wrap64 (by omega) (by omega), e1]
  simp only [Option.bind]
  rw [wrap64 (by omega) (by have := h6 (by omega); omega)]
theorem one_ok (t : make_Tape) (n : Int) (h : TOK t) (hn : n ≤ 4611686018427387904) : ∃ y t', make_Tape_One t n = some (y, t') ∧ TOK t' := by
  obtain ⟨y, t', e1, h1, _⟩ := next_ok t n h hn
  exact ⟨_, t', by unfold make_Tape_One; rw [e1]; rfl, h1⟩
theorem pick_ok (t : make_Tape) (l : List Int) (h : TOK t) (h1 : 1 ≤ l.length) (h2 : l.length ≤ 1000) : ∃ y t', make_Tape_Pick t l = some (y, t') ∧ TOK t' ∧ y ∈ l := by
  obtain ⟨y, t', e1, h3, h4, h5, _⟩ := next_ok t l.length h (by omega)
  have h6 := h5 (by omega)
  exact ⟨_, t', by unfold make_Tape_Pick; rw [e1]; simp only [Option.bind]; rw [req_pos ⟨h4, h6⟩], h3, ix_mem l y h4 h6⟩
theorem tmk (t : make_Tape) : make_Tape.mk t.L t.At = t := rfl
end Go.LS
