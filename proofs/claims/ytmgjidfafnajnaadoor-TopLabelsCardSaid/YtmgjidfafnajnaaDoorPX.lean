/-
  The law of the labels in plain Lean: what the functions compute answers true. No condition.
-/
import Derived.Test.YtmgjidfafnajnaaDoorLs29
import Derived.Test.YtmgjidfafnajnaaDoorD1
namespace Go.LS
set_option linter.all false
set_option linter.unusedSimpArgs false
set_option linter.unusedVariables false

theorem ix_nat {α : Type} [Inhabited α] (l : List α) (k : Nat) (h : k < l.length) : ix l (k : Int) = l[k] := by simp [ix, List.getD, h]
theorem ix_mem {α : Type} [Inhabited α] (l : List α) (n : Int) (h0 : 0 ≤ n) (h : n < l.length) : ix l n ∈ l := by
  have : n.toNat < l.length := by omega
  simp [ix, List.getD, this]
theorem i64_add1 (k : Nat) (h : k < 4611686018427387904) : IntKind.i64.wrap ((k : Int) + 1) = ((k + 1 : Nat) : Int) := by
  rw [wrap64 (by omega) (by omega)]; omega
theorem i64_id {n : Int} (h1 : -9223372036854775808 ≤ n) (h2 : n < 9223372036854775808) : IntKind.i64.wrap n = n := wrap64 h1 h2

/-- a loop over a list that folds -/
theorem iter_fold {α β ρ : Type} (l : List α) (f : Int × β → Option ((Int × β) ⊕ ρ)) (g : β → α → β) (fin : β → ρ) (I : Nat → β → Prop)
    (hstep : ∀ (k : Nat) (b : β) (hk : k < l.length), I k b → f ((k : Int), b) = some (.inl (((k + 1 : Nat) : Int), g b l[k])) ∧ I (k + 1) (g b l[k]))
    (hend : ∀ b, I l.length b → f ((l.length : Int), b) = some (.inr (fin b))) (b : β) (h0 : I 0 b) : iter f ((0 : Int), b) = some (fin (l.foldl g b)) := by
  have key : ∀ (n k : Nat) (b : β), l.length - k = n → k ≤ l.length → I k b → iter f ((k : Int), b) = some (fin ((l.drop k).foldl g b)) := by
    intro n
    induction n with
    | zero =>
      intro k b hn hk hI
      have : k = l.length := by omega
      subst this
      rw [iter_inr (hend b hI), List.drop_length]; rfl
    | succ n ih =>
      intro k b hn hk hI
      have hk' : k < l.length := by omega
      obtain ⟨h1, h2⟩ := hstep k b hk' hI
      rw [iter_inl h1, ih (k + 1) _ (by omega) (by omega) h2, List.drop_eq_getElem_cons hk']; rfl
  have := key _ 0 b rfl (by omega) h0
  simpa using this
/-- a loop over a list that looks for an element -/
theorem iter_scan {α ρ : Type} (l : List α) (f : Int → Option (Int ⊕ ρ)) (p : α → Bool) (hit : α → ρ) (miss : ρ)
    (hstep : ∀ (k : Nat) (hk : k < l.length), f (k : Int) = some (if p l[k] = true then .inr (hit l[k]) else .inl ((k + 1 : Nat) : Int)))
    (hend : f (l.length : Int) = some (.inr miss)) : iter f (0 : Int) = some (match l.find? p with | some a => hit a | none => miss) := by
  have key : ∀ (n k : Nat), l.length - k = n → k ≤ l.length → iter f (k : Int) = some (match (l.drop k).find? p with | some a => hit a | none => miss) := by
    intro n
    induction n with
    | zero =>
      intro k hn hk
      have : k = l.length := by omega
      subst this
      rw [iter_inr hend, List.drop_length]; rfl
    | succ n ih =>
      intro k hn hk
      have hk' : k < l.length := by omega
      have h1 := hstep k hk'
      rw [List.drop_eq_getElem_cons hk', List.find?_cons]
      cases hp : p l[k] with
      | true => rw [hp, if_pos rfl] at h1; rw [iter_inr h1]
      | false => rw [hp, if_neg (by simp)] at h1; rw [iter_inl h1, ih (k + 1) (by omega) (by omega)]
  have := key _ 0 rfl (by omega)
  simpa using this
theorem find_any {α β : Type} (l : List α) (p : α → Bool) (x y : β) : (match l.find? p with | some _ => x | none => y) = if l.any p = true then x else y := by
  cases h : l.find? p with
  | none =>
    rw [List.find?_eq_none] at h
    have : l.any p = false := by rw [List.any_eq_false]; exact h
    simp [this]
  | some a =>
    have : l.any p = true := List.any_eq_true.2 ⟨a, List.mem_of_find?_eq_some h, List.find?_some h⟩
    simp [this]

/-! ### bits -/
theorem bOr_nat (a b : Nat) (ha : a < 9223372036854775808) (hb : b < 9223372036854775808) : bOr .i64 (a : Int) (b : Int) = ((a ||| b : Nat) : Int) := by
  have h := Nat.or_lt_two_pow (n := 63) (by simpa using ha) (by simpa using hb)
  have e : ∀ n : Nat, n < 9223372036854775808 → (BitVec.ofInt (IntKind.bits .i64) (n : Int)).toNat = n := fun n hn => by
    simp only [IntKind.bits, BitVec.toNat_ofInt]; omega
  unfold bOr
  rw [BitVec.toNat_or, e a ha, e b hb, wrap64 (by omega) (by omega)]
theorem bAnd_nat (a b : Nat) (ha : a < 9223372036854775808) (hb : b < 9223372036854775808) : bAnd .i64 (a : Int) (b : Int) = ((a &&& b : Nat) : Int) := by
  have h : a &&& b ≤ a := Nat.and_le_left
  have e : ∀ n : Nat, n < 9223372036854775808 → (BitVec.ofInt (IntKind.bits .i64) (n : Int)).toNat = n := fun n hn => by
    simp only [IntKind.bits, BitVec.toNat_ofInt]; omega
  unfold bAnd
  rw [BitVec.toNat_and, e a ha, e b hb, wrap64 (by omega) (by omega)]
end Go.LS
namespace Go.LS
set_option linter.all false
set_option linter.unusedSimpArgs false
set_option linter.unusedVariables false

structure TOK (t : make_Tape) : Prop where
  len : t.L.length ≤ 600
  lo : 0 ≤ t.At
  hi : t.At ≤ t.L.length
theorem new_ok (l : List Int) : ∃ t, make_New l = some t ∧ TOK t := by
  unfold make_New make_New_j1
  rcases bcases (decide ((600 : Int) < (l.length : Int))) with h | h <;> rw [h]
  · have h' : (600 : Int) < l.length := by simpa using h
    refine ⟨_, by rw [cond_true, req_pos (by omega)], ?_⟩
    exact ⟨by simp; omega, by simp, by simp⟩
  · have h' : (l.length : Int) ≤ 600 := by simpa using h
    exact ⟨_, by rw [cond_false], ⟨by simp; omega, by simp, by simp⟩⟩
theorem cut_ok (x n : Int) (h : n ≤ 4611686018427387904) : ∃ y, make_Cut x n = some y ∧ 0 ≤ y ∧ (1 ≤ n → y < n) ∧ (n < 1 → y = 0) := by
  unfold make_Cut make_Cut_j1
  rcases bcases (decide (n < (1 : Int))) with hc | hc <;> rw [hc]
  · have : n < 1 := by simpa using hc
    exact ⟨0, rfl, by omega, by omega, fun _ => rfl⟩
  · have h1 : 1 ≤ n := by simpa using hc
    rw [cond_false, req_pos (by omega)]
    have h3 := Int.tmod_lt_of_pos x (show 0 < n by omega)
    have h4 : -n < x.tmod n := Int.lt_tmod_of_pos x (show 0 < n by omega)
    rcases bcases (decide (Int.tmod x n < (0 : Int))) with hd | hd <;> rw [hd]
    · have : x.tmod n < 0 := by simpa using hd
      exact ⟨_, rfl, by rw [wrap64 (by omega) (by omega)]; omega, by rw [wrap64 (by omega) (by omega)]; omega, by omega⟩
    · have : 0 ≤ x.tmod n := by simpa using hd
      exact ⟨_, rfl, this, fun _ => h3, by omega⟩
theorem raw_ok (t : make_Tape) (h : TOK t) : ∃ y t', make_Tape_Raw t = some (y, t') ∧ TOK t' := by
  obtain ⟨h1, h2, h3⟩ := h
  unfold make_Tape_Raw
  rcases bcases (decide ((t.L.length : Int) ≤ t.At)) with hc | hc <;> rw [hc]
  · exact ⟨_, _, rfl, h1, h2, h3⟩
  · have hlt : t.At < t.L.length := by simpa using hc
    rw [cond_false, wrap64 (n := t.At + 1) (by omega) (by omega), wrap64 (by omega) (by omega), req_pos (by omega)]
    exact ⟨_, _, rfl, h1, by show 0 ≤ t.At + 1; omega, by show t.At + 1 ≤ (t.L.length : Int); omega⟩
theorem next_ok (t : make_Tape) (n : Int) (h : TOK t) (hn : n ≤ 4611686018427387904) : ∃ y t', make_Tape_Next t n = some (y, t') ∧ TOK t' ∧ 0 ≤ y ∧ (1 ≤ n → y < n) ∧ (n < 1 → y = 0) := by
  obtain ⟨y, t', e1, h1⟩ := raw_ok t h
  obtain ⟨z, e2, h2⟩ := cut_ok y n hn
  exact ⟨z, t', by unfold make_Tape_Next; rw [e1]; simp only [Option.bind]; rw [e2], h1, h2⟩
theorem range_ok (t : make_Tape) (lo hi : Int) (h : TOK t) (h1 : -1152921504606846976 ≤ lo) (h2 : hi ≤ 1152921504606846976) (h3 : lo ≤ hi) : ∃ y t', make_Tape_Range t lo hi = some (y, t') ∧ TOK t' ∧ lo ≤ y ∧ y ≤ hi := by
  obtain ⟨y, t', e1, h4, h5, h6, h7⟩ := next_ok t (hi - lo + 1) h (by omega)
  refine ⟨lo + y, t', ?_, h4, by omega, by have := h6 (by omega); omega⟩
  unfold make_Tape_Range
  rw [wrap64 (n := hi - lo) (by omega) (by omega), wrap64 (by omega) (by omega), e1]
  simp only [Option.bind]
  rw [wrap64 (by omega) (by have := h6 (by omega); omega)]
theorem one_ok (t : make_Tape) (n : Int) (h : TOK t) (hn : n ≤ 4611686018427387904) : ∃ y t', make_Tape_One t n = some (y, t') ∧ TOK t' := by
  obtain ⟨y, t', e1, h1, _⟩ := next_ok t n h hn
  exact ⟨_, t', by unfold make_Tape_One; rw [e1]; rfl, h1⟩
theorem pick_ok (t : make_Tape) (l : List Int) (h : TOK t) (h1 : 1 ≤ l.length) (h2 : l.length ≤ 1000) : ∃ y t', make_Tape_Pick t l = some (y, t') ∧ TOK t' ∧ y ∈ l := by
  obtain ⟨y, t', e1, h3, h4, h5, _⟩ := next_ok t l.length h (by omega)
  have h6 := h5 (by omega)
  exact ⟨_, t', by unfold make_Tape_Pick; rw [e1]; simp only [Option.bind]; rw [req_pos ⟨h4, h6⟩], h3, ix_mem l y h4 h6⟩
theorem tmk (t : make_Tape) : make_Tape.mk t.L t.At = t := rfl
end Go.LS
namespace Go.LS
open Go.Proofs
set_option linter.all false
set_option maxRecDepth 20000

/-- a strip with another module at a place -/
def chg (s : Str) (a : Nat) (how : Int) : Str := s.set a (if how = 1 then 63 else if s.getD a 0 = 48 then 49 else 48)
theorem sx_lt (s : Str) (n : Int) : 0 ≤ sx s n ∧ sx s n < 256 := by
  unfold sx
  have := UInt8.toNat_lt (s.getD n.toNat 0)
  omega
theorem sx_nat (s : Str) (a : Nat) : sx s (a : Int) = (((s.getD a 0).toNat : Nat) : Int) := rfl
theorem sx_eq (s : Str) (a : Nat) (c : UInt8) : (sx s (a : Int) == ((c.toNat : Nat) : Int)) = decide (s.getD a 0 = c) := by
  rw [sx_nat]
  by_cases h : s.getD a 0 = c
  · rw [h]; simp
  · rw [decide_eq_false h]
    have : (s.getD a 0).toNat ≠ c.toNat := fun e => h (UInt8.toNat_inj.1 e)
    exact beq_eq_false_iff_ne.2 (by omega)
theorem set_app {α : Type} (s : List α) (a : Nat) (x : α) (h : a < s.length) : s.take a ++ [x] ++ s.drop (a + 1) = s.set a x := by
  rw [List.set_eq_take_append_cons_drop, if_pos h]; simp
theorem change_eq (s : Str) (a : Nat) (how : Int) (h : a < s.length) (hl : s.length ≤ 1000) : make_Change s (a : Int) how = some (chg s a how) := by
  have w1 : IntKind.i64.wrap ((a : Int) + 1) = ((a + 1 : Nat) : Int) := i64_add1 a (by omega)
  have fin : ∀ c : UInt8, make_Change_j1 s (a : Int) [c] = some (s.set a c) := by
    intro c
    unfold make_Change_j1 bindV
    rw [w1]
    rw [req_pos ⟨⟨by omega, by omega⟩, by simp; omega, ⟨by omega, by omega⟩, by simp; omega⟩]
    rw [Int.toNat_natCast, Int.toNat_natCast, set_app s a c h]
  unfold make_Change
  rw [show (decide ((a : Int) < 0) || decide ((s.length : Int) ≤ (a : Int))) = false by simp; omega, cond_false, req_pos ⟨by omega, by omega⟩]
  unfold make_Change_j2 chg
  have e48 : (sx s (a : Int) == (48 : Int)) = decide (s.getD a 0 = 48) := sx_eq s a 48
  rw [e48]
  by_cases hh : how = 1
  · subst hh
    cases decide (s.getD a 0 = 48) <;> simp [fin]
  · have hb : (how == 1) = false := by simpa using hh
    rw [hb, if_neg hh]
    by_cases hc : s.getD a 0 = 48
    · rw [decide_eq_true hc, if_pos hc, cond_true, cond_false, fin]
    · rw [decide_eq_false hc, if_neg hc, cond_false, cond_false, fin]
theorem chg_len (s : Str) (a : Nat) (how : Int) : (chg s a how).length = s.length := by simp [chg]
/-- what may stand in a strip -/
def Mod (s : Str) : Prop := ∀ c ∈ s, c = 48 ∨ c = 49 ∨ c = 63
theorem chg_mod {s : Str} (h : Mod s) (a : Nat) (how : Int) : Mod (chg s a how) := by
  intro c hc
  unfold chg at hc
  rcases List.mem_or_eq_of_mem_set hc with h1 | h1
  · exact h c h1
  · rw [h1]
    split
    · simp
    · split <;> simp
theorem isStrip_eq {s : Str} (h : Mod s) (hl : s.length = 74) : strip_isStrip s = some true := by
  unfold strip_isStrip strip_isStrip_j1
  rw [show ((s.length : Int) != 74) = false by simp; omega, cond_false]
  have := iter_scan s (strip_isStrip_l2 s) (fun _ => false) (fun _ => (.inr false : Unit ⊕ Bool)) (.inl ()) (fun k hk => by
    unfold strip_isStrip_l2
    have hc := h _ (List.getElem_mem hk)
    have hg : s.getD k 0 = s[k] := by rw [List.getD_eq_getElem?_getD, List.getElem?_eq_getElem hk]; rfl
    rw [show decide ((k : Int) < 74) = true by simp; omega, cond_true]
    have e : ((((sx s (k : Int)) != (48 : Int)) && ((sx s (k : Int)) != (49 : Int))) && ((sx s (k : Int)) != (63 : Int))) = false := by
      rw [sx_nat, hg]
      rcases hc with e | e | e <;> rw [e] <;> rfl
    rw [e, cond_false, i64_add1 k (by omega), req_pos ⟨⟨by omega, by omega⟩, fun _ => ⟨by omega, by omega⟩, fun _ => ⟨by omega, by omega⟩⟩]
    simp) (by
    unfold strip_isStrip_l2
    rw [show decide ((s.length : Int) < 74) = false by simp; omega, cond_false])
  rw [this]
  have : s.find? (fun _ => false) = none := by simp
  rw [this]
  rfl
/-- the number that the modules from o on are; a symbol: -1 if a module of it cannot be read -/
def pvN (s : Str) (o : Nat) : Nat → Nat
  | 0 => 0
  | k + 1 => 2 * pvN s o k + ((s.getD (o + k) 0).toNat - 48)
def bad5 (s : Str) (o : Nat) : Bool := (List.range 5).any fun j => s.getD (o + j) 0 == 63
def symAt (s : Str) (i : Nat) : Int := if bad5 s (7 + 5 * i) = true then -1 else (pvN s (7 + 5 * i) 5 : Int)
def wordP (s : Str) : List Int := (List.range 12).map (symAt s)
theorem mod_at {s : Str} (h : Mod s) {a : Nat} (ha : a < s.length) : s.getD a 0 = 48 ∨ s.getD a 0 = 49 ∨ s.getD a 0 = 63 := by
  rw [List.getD_eq_getElem?_getD, List.getElem?_eq_getElem ha]
  exact h _ (List.getElem_mem ha)
theorem pv_lt (s : Str) (o : Nat) : ∀ k, (∀ j, j < k → s.getD (o + j) 0 = 48 ∨ s.getD (o + j) 0 = 49) → pvN s o k < 2 ^ k
  | 0, _ => Nat.one_pos
  | k + 1, h => by
    have ih := pv_lt s o k (fun j hj => h j (by omega))
    have := h k (by omega)
    show 2 * pvN s o k + _ < _
    rw [Nat.pow_succ]
    rcases this with e | e <;> rw [e]
    · show 2 * pvN s o k + 0 < _; omega
    · show 2 * pvN s o k + 1 < _; omega
theorem bad5_iff (s : Str) (o : Nat) : bad5 s o = true ↔ ∃ j, j < 5 ∧ s.getD (o + j) 0 = 63 := by
  unfold bad5
  rw [List.any_eq_true]
  constructor
  · rintro ⟨j, h1, h2⟩; exact ⟨j, List.mem_range.1 h1, by simpa using h2⟩
  · rintro ⟨j, h1, h2⟩; exact ⟨j, List.mem_range.2 h1, by simpa using h2⟩
theorem or_step (x c : Nat) (hx : x < 32) (hc : c < 2) : bOr .i64 (bShl .i64 (x : Int) 1) ((c : Nat) : Int) = ((2 * x + c : Nat) : Int) := by
  have h : allN 32 (fun x => allN 2 fun c => bOr .i64 (bShl .i64 (x : Int) 1) ((c : Nat) : Int) == ((2 * x + c : Nat) : Int)) = true := by decide +kernel
  exact eq_of_beq (allN_spec _ _ (allN_spec _ _ h x hx) c hc)
theorem word_sym {s : Str} (h : Mod s) (hl : s.length = 74) (i : Nat) (hi : i < 12) : ∀ (n k : Nat) (w : List Int), 5 - k = n → k ≤ 5 → w.length = 12 → (∀ j, j < k → s.getD (7 + 5 * i + j) 0 ≠ 63) → w.getD i 0 = (pvN s (7 + 5 * i) k : Int) →
    iter (strip_Word_l3 s (i : Int)) ((k : Int), w) = some (w.set i (symAt s i)) := by
  intro n
  induction n with
  | zero =>
    intro k w hn hk hw hno hx
    have hk5 : k = 5 := by omega
    subst hk5
    rw [iter_inr (r := w) (by unfold strip_Word_l3; rfl)]
    congr 1
    have : symAt s i = w.getD i 0 := by
      rw [hx]
      unfold symAt
      rw [if_neg]
      rw [bad5_iff]
      rintro ⟨j, h1, h2⟩
      exact hno j h1 h2
    rw [this, List.getD_eq_getElem?_getD, List.getElem?_eq_getElem (by omega)]
    exact (List.set_getElem_self _).symm
  | succ n ih =>
    intro k w hn hk hw hno hx
    have hk5 : k < 5 := by omega
    have hb : IntKind.i64.wrap (IntKind.i64.wrap ((7 : Int) + IntKind.i64.wrap ((i : Int) * 5)) + (k : Int)) = ((7 + 5 * i + k : Nat) : Int) := by
      rw [i64_id (n := (i : Int) * 5) (by omega) (by omega), i64_id (n := (7 : Int) + (i : Int) * 5) (by omega) (by omega), i64_id (by omega) (by omega)]; omega
    have hm := mod_at h (a := 7 + 5 * i + k) (by omega)
    have hsx : sx s ((7 + 5 * i + k : Nat) : Int) = (((s.getD (7 + 5 * i + k) 0).toNat : Nat) : Int) := sx_nat _ _
    have hk1 : IntKind.i64.wrap ((k : Int) + 1) = ((k + 1 : Nat) : Int) := i64_add1 k (by omega)
    have hix : ix w (i : Int) = (pvN s (7 + 5 * i) k : Int) := by
      rw [ix_nat w i (by omega), ← hx, List.getD_eq_getElem?_getD, List.getElem?_eq_getElem (by omega)]; rfl
    by_cases hu : s.getD (7 + 5 * i + k) 0 = 63
    · rw [iter_inr (r := w.set i (-1)) (by
        unfold strip_Word_l3 bindV
        dsimp only
        rw [hb, hsx, hu, show decide ((k : Int) < 5) = true by simp; omega, cond_true, req_pos ⟨by omega, by omega⟩, show ((((63 : UInt8).toNat : Nat) : Int) == 63) = true from rfl, cond_true, req_pos ⟨by omega, by omega⟩]
        rfl)]
      congr 2
      unfold symAt
      rw [if_pos ((bad5_iff _ _).2 ⟨k, hk5, hu⟩)]
    · have hp32 : pvN s (7 + 5 * i) k < 32 := by
        have h1 := pv_lt s (7 + 5 * i) k (fun j hj => by
          have := mod_at h (a := 7 + 5 * i + j) (by omega)
          have := hno j hj
          rcases mod_at h (a := 7 + 5 * i + j) (by omega) with e | e | e
          · exact .inl e
          · exact .inr e
          · exact absurd e this)
        have h2 : 2 ^ k ≤ 2 ^ 4 := Nat.pow_le_pow_right (by decide) (by omega)
        omega
      have hc : ∃ c : Nat, c < 2 ∧ (s.getD (7 + 5 * i + k) 0).toNat = 48 + c := by
        rcases hm with e | e | e
        · exact ⟨0, by omega, by rw [e]; rfl⟩
        · exact ⟨1, by omega, by rw [e]; rfl⟩
        · exact absurd e hu
      obtain ⟨c, hc2, hce⟩ := hc
      rw [iter_inl (s' := (((k + 1 : Nat) : Int), w.set i ((pvN s (7 + 5 * i) (k + 1) : Nat) : Int))) (by
        unfold strip_Word_l3 bindV
        dsimp only
        rw [hb, hsx, hce, show decide ((k : Int) < 5) = true by simp; omega, cond_true, req_pos ⟨by omega, by omega⟩, show ((((48 + c : Nat) : Nat) : Int) == 63) = false by simp; omega, cond_false, req_pos ⟨by omega, by omega⟩, hk1, hix]
        have e1 : IntKind.i64.wrap (IntKind.u8.wrap (((48 + c : Nat) : Int) - 48)) = ((c : Nat) : Int) := by
          have : (((48 + c : Nat) : Int) - 48) = (c : Int) := by omega
          rw [this]
          match c, hc2 with
          | 0, _ => rfl
          | 1, _ => rfl
        rw [e1, or_step _ _ hp32 hc2]
        have e2 : pvN s (7 + 5 * i) (k + 1) = 2 * pvN s (7 + 5 * i) k + c := by
          show 2 * pvN s (7 + 5 * i) k + ((s.getD (7 + 5 * i + k) 0).toNat - 48) = _
          rw [hce]; omega
        rw [e2]
        rfl)]
      rw [ih (k + 1) _ (by omega) (by omega) (by simp [hw]) (fun j hj => by
        by_cases e : j = k
        · rw [e]; exact hu
        · exact hno j (by omega)) (by rw [List.getD_eq_getElem?_getD, List.getElem?_set_self (by omega)]; rfl)]
      rw [List.set_set]
theorem word_eq {s : Str} (h : Mod s) (hl : s.length = 74) : strip_Word s = some (wordP s, 0) := by
  unfold strip_Word
  rw [isStrip_eq h hl, Option.bind_some, show (!true) = false from rfl, cond_false, req_pos ⟨by decide, by decide⟩]
  have hr : rep (12 : Int) (0 : Int) = List.replicate 12 0 := rfl
  have hstep : ∀ (k : Nat) (w : List Int), k < 12 → w.length = 12 → w.getD k 0 = 0 → strip_Word_l4 s ((k : Int), w) = some (.inl (((k + 1 : Nat) : Int), w.set k (symAt s k))) := by
    intro k w hk hw h0
    unfold strip_Word_l4
    dsimp only
    rw [hr, List.length_replicate, show decide ((k : Int) < ((12 : Nat) : Int)) = true by simp; omega, cond_true]
    have := word_sym h hl k hk 5 0 w rfl (by omega) hw (fun j hj => by omega) h0
    rw [show ((0 : Nat) : Int) = 0 from rfl] at this
    rw [this, Option.bind_some]
    unfold strip_Word_j2
    rw [i64_add1 k (by omega)]
  have key : ∀ (n k : Nat), 12 - k = n → k ≤ 12 → iter (strip_Word_l4 s) ((k : Int), (List.range 12).map (fun j => if j < k then symAt s j else 0)) = some (wordP s) := by
    intro n
    induction n with
    | zero =>
      intro k hn hk
      have : k = 12 := by omega
      subst this
      rw [iter_inr (r := (List.range 12).map (fun j => if j < 12 then symAt s j else 0)) (by unfold strip_Word_l4; rfl)]
      congr 1
    | succ n ih =>
      intro k hn hk
      have hk' : k < 12 := by omega
      have hset : ((List.range 12).map (fun j => if j < k then symAt s j else 0)).set k (symAt s k) = (List.range 12).map (fun j => if j < k + 1 then symAt s j else 0) := by
        apply List.ext_getElem
        · simp
        · intro j h1 h2
          rw [List.getElem_set]
          simp only [List.getElem_map, List.getElem_range]
          by_cases e : k = j
          · subst e; rw [if_pos rfl, if_pos (by omega)]
          · rw [if_neg e]
            by_cases e2 : j < k
            · rw [if_pos e2, if_pos (by omega)]
            · rw [if_neg e2, if_neg (by omega)]
      rw [iter_inl (hstep k _ hk' (by simp) (by
        rw [List.getD_eq_getElem?_getD, List.getElem?_map, List.getElem?_range hk']
        show (if k < k then symAt s k else 0) = 0
        rw [if_neg (by omega)])), hset, ih (k + 1) (by omega) (by omega)]
  have := key 12 0 rfl (by omega)
  rw [show ((List.range 12).map (fun j => if j < 0 then symAt s j else 0)) = List.replicate 12 0 from rfl] at this
  rw [hr]
  rw [show ((0 : Nat) : Int) = 0 from rfl] at this
  rw [this, Option.bind_some]
  rfl
end Go.LS
namespace Go.LS
open Go.Proofs
set_option linter.all false
set_option maxRecDepth 20000

theorem bit_mod (c k : Nat) : bitB c k = 48 ∨ bitB c k = 49 := by
  unfold bitB; split <;> simp
theorem flat_get : ∀ (l : List Nat) (i k : Nat), i < l.length → k < 5 → (l.flatMap bits5).getD (5 * i + k) 0 = bitB (l.getD i 0) k
  | [], i, k, h, _ => by simp at h
  | x :: l, 0, k, h, hk => by
    have hl : (bits5 x).length = 5 := by simp [bits5]
    rw [List.flatMap_cons, List.getD_eq_getElem?_getD, List.getElem?_append_left (by omega)]
    simp [bits5, List.getElem?_map, List.getElem?_range hk]
  | x :: l, i + 1, k, h, hk => by
    have hl : (bits5 x).length = 5 := by simp [bits5]
    rw [List.flatMap_cons, List.getD_eq_getElem?_getD, List.getElem?_append_right (by omega), hl, show 5 * (i + 1) + k - 5 = 5 * i + k by omega, ← List.getD_eq_getElem?_getD]
    exact flat_get l i k (by simpa using h) hk
theorem draw_len {w : List Nat} (h : w.length = 12) : (drawL w).length = 74 := by
  unfold drawL
  rw [List.length_append, List.length_append, flat_len5, h]; simp
theorem draw_mod (w : List Nat) : Mod (drawL w) := by
  intro c hc
  unfold drawL at hc
  rcases List.mem_append.1 hc with h | h
  · rcases List.mem_append.1 h with h | h
    · rw [(List.mem_replicate.1 h).2]; simp
    · obtain ⟨x, _, hx⟩ := List.mem_flatMap.1 h
      unfold bits5 at hx
      obtain ⟨k, _, rfl⟩ := List.mem_map.1 hx
      rcases bit_mod x k with e | e <;> simp [e]
  · rw [(List.mem_replicate.1 h).2]; simp
theorem draw_get {w : List Nat} (h : w.length = 12) (i k : Nat) (hi : i < 12) (hk : k < 5) : (drawL w).getD (7 + 5 * i + k) 0 = bitB (w.getD i 0) k := by
  unfold drawL
  have hf := flat_len5 w
  rw [List.getD_eq_getElem?_getD, List.append_assoc, List.getElem?_append_right (by simp only [List.length_replicate]; omega), List.getElem?_append_left (by simp only [List.length_replicate, hf, h]; omega), List.length_replicate, show 7 + 5 * i + k - 7 = 5 * i + k by omega, ← List.getD_eq_getElem?_getD]
  exact flat_get w i k (by omega) hk
/-- a symbol depends on its five modules -/
theorem pv_congr {s s' : Str} {o : Nat} : ∀ k, (∀ j, j < k → s.getD (o + j) 0 = s'.getD (o + j) 0) → pvN s o k = pvN s' o k
  | 0, _ => rfl
  | k + 1, h => by
    show 2 * pvN s o k + _ = 2 * pvN s' o k + _
    rw [pv_congr k (fun j hj => h j (by omega)), h k (by omega)]
theorem sym_congr {s s' : Str} {i : Nat} (h : ∀ j, j < 5 → s.getD (7 + 5 * i + j) 0 = s'.getD (7 + 5 * i + j) 0) : symAt s i = symAt s' i := by
  unfold symAt
  rw [pv_congr 5 h]
  have : bad5 s (7 + 5 * i) = bad5 s' (7 + 5 * i) := by
    rw [Bool.eq_iff_iff, bad5_iff, bad5_iff]
    constructor
    · rintro ⟨j, h1, h2⟩; exact ⟨j, h1, by rw [← h j h1]; exact h2⟩
    · rintro ⟨j, h1, h2⟩; exact ⟨j, h1, by rw [h j h1]; exact h2⟩
  rw [this]
theorem bits_back (c : Nat) (hc : c < 32) : 2 * (2 * (2 * (2 * (2 * 0 + ((bitB c 0).toNat - 48)) + ((bitB c 1).toNat - 48)) + ((bitB c 2).toNat - 48)) + ((bitB c 3).toNat - 48)) + ((bitB c 4).toNat - 48) = c := by
  have h : allN 32 (fun c => 2 * (2 * (2 * (2 * (2 * 0 + ((bitB c 0).toNat - 48)) + ((bitB c 1).toNat - 48)) + ((bitB c 2).toNat - 48)) + ((bitB c 3).toNat - 48)) + ((bitB c 4).toNat - 48) == c) = true := by decide +kernel
  exact eq_of_beq (allN_spec _ _ h c hc)
theorem draw_sym {w : List Nat} (h : w.length = 12) (hs : Sml w) (i : Nat) (hi : i < 12) : symAt (drawL w) i = ((w.getD i 0 : Nat) : Int) := by
  unfold symAt
  rw [if_neg]
  · simp only [pvN]
    rw [draw_get h i 0 hi (by decide), draw_get h i 1 hi (by decide), draw_get h i 2 hi (by decide), draw_get h i 3 hi (by decide), draw_get h i 4 hi (by decide)]
    rw [bits_back _ (getD_sml hs i)]
  · rw [bad5_iff]
    rintro ⟨j, h1, h2⟩
    rw [draw_get h i j hi h1] at h2
    rcases bit_mod (w.getD i 0) j with e | e <;> rw [e] at h2 <;> cases h2
/-! ### counts -/
theorem count_set_le : ∀ (l : List UInt8) (a : Nat) (x c : UInt8), l.count c ≤ (l.set a x).count c + 1
  | [], _, _, _ => by simp
  | y :: l, 0, x, c => by
    simp only [List.set_cons_zero, List.count_cons]
    split <;> split <;> omega
  | y :: l, a + 1, x, c => by
    simp only [List.set_cons_succ, List.count_cons]
    have := count_set_le l a x c
    split <;> omega
theorem count_two : ∀ (l : List UInt8) (c d : UInt8), c ≠ d → l.count c + l.count d ≤ l.length
  | [], _, _, _ => by simp
  | y :: l, c, d, h => by
    have := count_two l c d h
    simp only [List.count_cons, List.length_cons]
    by_cases e : y = c
    · subst e
      rw [if_pos (by simp), if_neg (by simp [h])]; omega
    · rw [if_neg (by simp [e])]
      split <;> omega
def Ends (s : Str) (n : Nat) : Prop := n ≤ (s.take 7).count 49 ∧ n ≤ (s.drop 67).count 48
theorem ends_front {s : Str} {n : Nat} (h : Ends s (n + 1)) (a : Nat) (how : Int) : n ≤ ((chg s a how).take 7).count 49 ∧ (7 ≤ a → n + 1 ≤ ((chg s a how).take 7).count 49) := by
  unfold chg
  constructor
  · rw [List.take_set]
    have := count_set_le (s.take 7) a (if how = 1 then 63 else if s.getD a 0 = 48 then 49 else 48) 49
    have := h.1
    omega
  · intro ha
    rw [List.take_set_of_le ha]
    exact h.1
theorem draw_ends {w : List Nat} (h : w.length = 12) : Ends (drawL w) 7 := by
  unfold Ends drawL
  have hf := flat_len5 w
  constructor
  · rw [List.append_assoc, List.take_append_of_le_length (by simp), List.take_of_length_le (by simp)]
    simp
  · rw [List.drop_append_of_le_length (by simp only [List.length_append, List.length_replicate, hf, h]; omega), List.drop_of_length_le (by simp only [List.length_append, List.length_replicate, hf, h]; omega)]
    simp
theorem ends_chg {s : Str} {n : Nat} (f a : Nat) (h1 : n + 1 ≤ (s.take 7).count 49) (h2 : n + 1 ≤ (s.drop 67).count 48) (how how' : Int) (hf : f < 7) (ha : 67 ≤ a) : Ends (chg (chg s f how) a how') n := by
  constructor
  · unfold chg
    rw [List.take_set_of_le (by omega), List.take_set]
    have := count_set_le (s.take 7) f (if how = 1 then 63 else if s.getD f 0 = 48 then 49 else 48) 49
    omega
  · unfold chg
    rw [List.drop_set, if_neg (by omega), List.drop_set, if_pos (by omega)]
    exact Nat.le_of_succ_le_succ (Nat.le_trans h2 (count_set_le _ _ _ _))
theorem ends_mid {s : Str} {n : Nat} (h : Ends s n) (a : Nat) (how : Int) (h1 : 7 ≤ a) (h2 : a < 67) : Ends (chg s a how) n := by
  unfold Ends chg
  rw [List.take_set_of_le h1, List.drop_set, if_pos h2]
  exact h
theorem rev_take (s : Str) (hl : s.length = 74) : s.reverse.take 7 = (s.drop 67).reverse := by
  rw [List.take_reverse, hl]
theorem rev_drop (s : Str) (hl : s.length = 74) : s.reverse.drop 67 = (s.take 7).reverse := by
  rw [List.drop_reverse, hl]
theorem rev_mod {s : Str} (h : Mod s) : Mod s.reverse := fun c hc => h c (List.mem_reverse.1 hc)
theorem marked_eq (s : Str) (hl : s.length = 74) (c d : UInt8) : strip_marked s [c] [d] = some (decide (4 ≤ (s.take 7).count c) && decide (4 ≤ (s.drop 67).count d)) := by
  unfold strip_marked
  exact if_pos hl
theorem upright_eq {s : Str} (h : Mod s) (hl : s.length = 74) (he : Ends s 4) : strip_Upright s = some (s, 0) := by
  unfold strip_Upright
  rw [isStrip_eq h hl, Option.bind_some, show (!true) = false from rfl, cond_false, marked_eq s hl, Option.bind_some, decide_eq_true he.1, decide_eq_true he.2]
  rfl
theorem upright_rev {s : Str} (h : Mod s) (hl : s.length = 74) (he : Ends s 4) : strip_Upright s.reverse = some (s, 0) := by
  have hl' : s.reverse.length = 74 := by simp [hl]
  unfold strip_Upright
  rw [isStrip_eq (rev_mod h) hl', Option.bind_some, show (!true) = false from rfl, cond_false, marked_eq _ hl', Option.bind_some, rev_take s hl, rev_drop s hl, List.count_reverse, List.count_reverse]
  have h1 : ¬ 4 ≤ (s.drop 67).count 49 := by
    have := count_two (s.drop 67) 48 49 (by decide)
    have := he.2
    simp at *
    omega
  rw [decide_eq_false h1, Bool.false_and, cond_false, marked_eq _ hl', Option.bind_some, rev_take s hl, rev_drop s hl, List.count_reverse, List.count_reverse, decide_eq_true he.1, decide_eq_true he.2]
  simp only [Bool.and_self, cond_true]
  unfold strip_Flip
  rw [if_pos (by omega), Option.bind_some, List.reverse_reverse]
end Go.LS
namespace Go.LS
open Go.Proofs
set_option linter.all false
set_option maxRecDepth 20000

/-- what may be read as the word w -/
structure Good (w : List Nat) (s : Str) : Prop where
  mod : Mod s
  len : s.length = 74
  ends : Ends s 4
  sym : ∀ i, i < 12 → symAt s i = -1 ∨ (0 ≤ symAt s i ∧ symAt s i < 32)
  few : 2 * (errsOf (wordP s) w).length + (ersOf (wordP s)).length ≤ 6
theorem word_get (s : Str) (i : Nat) (hi : i < 12) : (wordP s).getD i 0 = symAt s i := by
  unfold wordP
  rw [List.getD_eq_getElem?_getD, List.getElem?_map, List.getElem?_range hi]; rfl
theorem word_len (s : Str) : (wordP s).length = 12 := by simp [wordP]
theorem fill_get (word : List Int) (i : Nat) : (fillOf word).getD i 0 = if word.getD i 0 = -1 then 0 else (word.getD i 0).toNat := by
  unfold fillOf
  rw [List.getD_eq_getElem?_getD, List.getElem?_map, List.getD_eq_getElem?_getD]
  cases word[i]? <;> simp
theorem good_of {w : List Nat} {s : Str} (order : List Nat) (n : Nat) (how : Bool) (hmod : Mod s) (hlen : s.length = 74) (he : Ends s 4) (hs : Sml w) (hn : order.length ≤ n)
    (hout : ∀ i, i < 12 → i ∉ order → symAt s i = ((w.getD i 0 : Nat) : Int))
    (hin : ∀ i, i < 12 → i ∈ order → if how = true then symAt s i = -1 else 0 ≤ symAt s i ∧ symAt s i < 32) (hb : if how = true then n ≤ 6 else n ≤ 3) : Good w s := by
  refine ⟨hmod, hlen, he, fun i hi => ?_, ?_⟩
  · by_cases h : i ∈ order
    · have := hin i hi h
      cases how
      · exact .inr this
      · exact .inl this
    · rw [hout i hi h]
      have := getD_sml hs i
      right; omega
  · have hsub : ∀ i ∈ errsOf (wordP s) w, i ∈ order ∧ how = false := by
      intro i h
      obtain ⟨⟨h1, h2⟩, h3⟩ := mem_errs.1 h
      rw [word_len] at h1
      rw [word_get s i h1] at h2
      rw [fill_get, word_get s i h1, if_neg h2] at h3
      by_cases g : i ∈ order
      · refine ⟨g, ?_⟩
        have := hin i h1 g
        cases how
        · rfl
        · exact absurd this h2
      · rw [hout i h1 g] at h3
        exact absurd rfl h3
    have hsub2 : ∀ i ∈ ersOf (wordP s), i ∈ order ∧ how = true := by
      intro i h
      obtain ⟨h1, h2⟩ := mem_ers.1 h
      rw [word_len] at h1
      rw [word_get s i h1] at h2
      by_cases g : i ∈ order
      · refine ⟨g, ?_⟩
        have := hin i h1 g
        cases how
        · have : 0 ≤ symAt s i ∧ symAt s i < 32 := this
          omega
        · rfl
      · rw [hout i h1 g] at h2
        omega
    have n1 : (errsOf (wordP s) w).Nodup := List.Pairwise.filter _ (List.Pairwise.filter _ List.nodup_range)
    have n2 : (ersOf (wordP s)).Nodup := List.Pairwise.filter _ List.nodup_range
    have l1 := nodup_len _ order n1 (fun i h => (hsub i h).1)
    have l2 := nodup_len _ order n2 (fun i h => (hsub2 i h).1)
    cases how
    · have hb : n ≤ 3 := hb
      have : ersOf (wordP s) = [] := List.eq_nil_iff_forall_not_mem.2 (fun i h => by have := (hsub2 i h).2; cases this)
      rw [this]; simp only [List.length_nil]; omega
    · have hb : n ≤ 6 := hb
      have : errsOf (wordP s) w = [] := List.eq_nil_iff_forall_not_mem.2 (fun i h => by have := (hsub i h).2; cases this)
      rw [this]; simp only [List.length_nil]; omega
theorem mem_word {s : Str} {x : Int} (h : x ∈ wordP s) : ∃ i, i < 12 ∧ x = symAt s i := by
  unfold wordP at h
  obtain ⟨i, h1, h2⟩ := List.mem_map.1 h
  exact ⟨i, List.mem_range.1 h1, h2.symm⟩
/-- the label comes back, from an upright strip and from one that is turned round -/
theorem read_up {pa ca pg va : Nat} {s y : Str} (h1 : pa < 32) (h2 : ca ≤ 9999) (h3 : pg < 32) (h4 : va < 32) (hg : Good (encP (symsP pa ca pg va)) s) (hu : strip_Upright y = some (s, 0)) :
    strip_Read y = some (⟨pa, ca, pg, va⟩, ((errsOf (wordP s) (encP (symsP pa ca pg va))).length : Int), 0) := by
  obtain ⟨e1, e2, e3⟩ := enc_ok (symsP_sml h1 h2 h3 h4)
  have hl6 : (symsP pa ca pg va).length = 6 := rfl
  rw [hl6] at e3
  have hwl := word_len s
  obtain ⟨pl, v, d1, d2, d3, d4, d5⟩ := dec_ok (word := wordP s) (c := encP (symsP pa ca pg va)) (by omega) (by rw [hwl]; exact e3) (fun x hx => by
    obtain ⟨i, hi, rfl⟩ := mem_word hx; exact hg.sym i hi) hg.few
  have hdec : rscode_Decode (wordP s) = some ((symsP pa ca pg va).map (fun x : Nat => (x : Int)), ((errsOf (wordP s) (encP (symsP pa ca pg va))).length : Int), 0) := by
    unfold rscode_Decode
    rw [d1, Option.bind_some, if_pos, d2, hwl]
    · rw [show (12 - 6 : Nat) = 6 from rfl]
      unfold encP
      rw [List.take_append_of_le_length (by rw [hl6]; decide), List.take_of_length_le (by rw [hl6]; decide)]
    · refine ⟨by omega, by omega, fun x hx => ?_, d5, d3, d4⟩
      obtain ⟨i, hi, rfl⟩ := mem_word hx
      rcases hg.sym i hi with h | h <;> omega
  unfold strip_Read
  rw [hu, Option.bind_some]
  simp only []
  rw [show ((0 : Int) != 0) = false from rfl, cond_false, word_eq hg.mod hg.len, Option.bind_some]
  simp only []
  rw [show ((0 : Int) != 0) = false from rfl, cond_false, hdec, Option.bind_some]
  simp only []
  rw [show ((0 : Int) != 0) = false from rfl, cond_false, req_pos ⟨⟨by decide, by simp [symsP]⟩, ⟨by decide, by simp [symsP]⟩, ⟨by decide, by simp [symsP]⟩⟩]
  have x0 : ix ((symsP pa ca pg va).map (fun x : Nat => (x : Int))) 0 = (pa : Int) := rfl
  have x1 : ix ((symsP pa ca pg va).map (fun x : Nat => (x : Int))) 1 = ((ca / 1024 : Nat) : Int) := rfl
  have x2 : ix ((symsP pa ca pg va).map (fun x : Nat => (x : Int))) 2 = ((ca / 32 % 32 : Nat) : Int) := rfl
  have x3 : ix ((symsP pa ca pg va).map (fun x : Nat => (x : Int))) 3 = ((ca % 32 : Nat) : Int) := rfl
  have x4 : ix ((symsP pa ca pg va).map (fun x : Nat => (x : Int))) 4 = (pg : Int) := rfl
  have x5 : ix ((symsP pa ca pg va).map (fun x : Nat => (x : Int))) 5 = (va : Int) := rfl
  unfold bindV
  rw [x0, x1, x2, x3, x4, x5]
  rw [i64_id (n := ((ca / 1024 : Nat) : Int) * 32) (by omega) (by omega), i64_id (n := ((ca / 1024 : Nat) : Int) * 32 + ((ca / 32 % 32 : Nat) : Int)) (by omega) (by omega), i64_id (n := (((ca / 1024 : Nat) : Int) * 32 + ((ca / 32 % 32 : Nat) : Int)) * 32) (by omega) (by omega), i64_id (by omega) (by omega)]
  have hca : ((((ca / 1024 : Nat) : Int) * 32 + ((ca / 32 % 32 : Nat) : Int)) * 32 + ((ca % 32 : Nat) : Int)) = (ca : Int) := by omega
  rw [hca]
  simp only []
  rw [show decide ((9999 : Int) < (ca : Int)) = false by simp; omega, cond_false, req_pos ⟨⟨by decide, by simp [symsP]⟩, ⟨by decide, by simp [symsP]⟩, ⟨by decide, by simp [symsP]⟩⟩]
/-! ### the tape's order -/
theorem order_ok (t : make_Tape) (h : TOK t) : ∃ l t', make_Tape_Order t 12 = some (l, t') ∧ TOK t' ∧ l.length = 12 ∧ ∀ x ∈ l, 0 ≤ x ∧ x < 12 := by
  obtain ⟨⟨o, l2, a2⟩, h1, h2, h3, h4⟩ := iter_inv (f := make_Tape_Order_l2 12) (fun s : (List Int) × Int × (List Int) × Int => 0 ≤ s.2.1 ∧ s.2.1 ≤ 12 ∧ (s.1.length : Int) = s.2.1 ∧ (∀ x ∈ s.1, 0 ≤ x ∧ x < 12) ∧ TOK ⟨s.2.2.1, s.2.2.2⟩) (fun s => 12 - s.2.1.toNat)
    (fun r : (List Int) × (List Int) × Int => TOK ⟨r.2.1, r.2.2⟩ ∧ r.1.length = 12 ∧ ∀ x ∈ r.1, 0 ≤ x ∧ x < 12) (fun s hI => by
      obtain ⟨o, i, tl, ta⟩ := s
      obtain ⟨g1, g2, g3, g4, g5⟩ := hI
      simp only [] at g1 g2 g3 g4 g5
      unfold make_Tape_Order_l2
      simp only []
      by_cases hi : i < 12
      · left
        obtain ⟨y, t', e1, k1, k2, k3, _⟩ := next_ok ⟨tl, ta⟩ (i + 1) g5 (by omega)
        have k4 := k3 (by omega)
        rw [show decide (i < (12 : Int)) = true by simpa using hi, cond_true, i64_id (n := i + 1) (by omega) (by omega), e1, Option.bind_some]
        simp only []
        rw [req_pos ⟨⟨k2, by omega⟩, by simp; omega⟩, req_pos (by simp; omega), req_pos ⟨⟨k2, by omega⟩, by simp; omega⟩]
        refine ⟨_, rfl, ⟨?_, ?_, ?_, ?_, k1⟩, ?_⟩
        · show 0 ≤ i + 1; omega
        · show i + 1 ≤ 12; omega
        · show (((([] : List Int) ++ o.take y.toNat) ++ [i] ++ o.drop y.toNat).length : Int) = i + 1
          simp; omega
        · intro x hx
          simp only [List.nil_append, List.mem_append, List.mem_singleton] at hx
          rcases hx with (hx | hx) | hx
          · exact g4 x (List.mem_of_mem_take hx)
          · omega
          · exact g4 x (List.mem_of_mem_drop hx)
        · show 12 - (i + 1).toNat < 12 - i.toNat
          omega
      · right
        rw [show decide (i < (12 : Int)) = false by simpa using hi, cond_false]
        exact ⟨_, rfl, g5, by show o.length = 12; omega, g4⟩) (([] : List Int), (0 : Int), t.L, t.At) ⟨Int.le_refl _, by show (0 : Int) ≤ 12; decide, rfl, (fun x hx => by cases hx), h⟩
  unfold make_Tape_Order make_Tape_Order_j1
  rw [h1, Option.bind_some]
  exact ⟨_, _, rfl, h2, h3, h4⟩
end Go.LS
namespace Go.LS
open Go.Proofs
set_option linter.all false
set_option maxRecDepth 20000

theorem chg_get (s : Str) (a : Nat) (how : Int) (j : Nat) (h : j ≠ a) : (chg s a how).getD j 0 = s.getD j 0 := by
  unfold chg
  rw [List.getD_eq_getElem?_getD, List.getElem?_set_ne (Ne.symm h), ← List.getD_eq_getElem?_getD]
theorem chg_self (s : Str) (a : Nat) (how : Int) (h : a < s.length) : (chg s a how).getD a 0 = if how = 1 then 63 else if s.getD a 0 = 48 then 49 else 48 := by
  unfold chg
  rw [List.getD_eq_getElem?_getD, List.getElem?_set_self h]; rfl
theorem sym_range {s : Str} (hm : Mod s) (hl : s.length = 74) (i : Nat) (hi : i < 12) (h : ∀ j, j < 5 → s.getD (7 + 5 * i + j) 0 ≠ 63) : 0 ≤ symAt s i ∧ symAt s i < 32 := by
  unfold symAt
  rw [if_neg (by rw [bad5_iff]; rintro ⟨j, h1, h2⟩; exact h j h1 h2)]
  have := pv_lt s (7 + 5 * i) 5 (fun j hj => by
    rcases mod_at hm (a := 7 + 5 * i + j) (by omega) with e | e | e
    · exact .inl e
    · exact .inr e
    · exact absurd e (h j hj))
  omega
/-- the state of the strip after some changes of symbols -/
structure Dam (w : List Nat) (how : Int) (order : List Nat) (s : Str) : Prop where
  mod : Mod s
  len : s.length = 74
  ends : Ends s 4
  out : ∀ i, i < 12 → i ∉ order → ∀ j, j < 5 → s.getD (7 + 5 * i + j) 0 = (drawL w).getD (7 + 5 * i + j) 0
  ina : how = 1 → ∀ i, i < 12 → i ∈ order → symAt s i = -1
  inb : how ≠ 1 → ∀ i, i < 12 → ∀ j, j < 5 → s.getD (7 + 5 * i + j) 0 ≠ 63
theorem dam_step {w : List Nat} {how : Int} {order : List Nat} {s : Str} (h : Dam w how order s) (k b : Nat) (hk : k < 12) (hb : b < 5) : Dam w how (order ++ [k]) (chg s (7 + 5 * k + b) how) := by
  have hl := h.len
  have other : ∀ i j, i < 12 → j < 5 → i ≠ k → (chg s (7 + 5 * k + b) how).getD (7 + 5 * i + j) 0 = s.getD (7 + 5 * i + j) 0 := fun i j _ _ hne => chg_get _ _ _ _ (by omega)
  refine ⟨chg_mod h.mod _ _, by rw [chg_len]; exact hl, ends_mid h.ends _ _ (by omega) (by omega), ?_, ?_, ?_⟩
  · intro i hi hn j hj
    simp only [List.mem_append, List.mem_singleton, not_or] at hn
    rw [other i j hi hj hn.2]
    exact h.out i hi hn.1 j hj
  · intro hh i hi hin
    by_cases e : i = k
    · subst e
      unfold symAt
      rw [if_pos]
      rw [bad5_iff]
      refine ⟨b, hb, ?_⟩
      rw [chg_self _ _ _ (by omega), if_pos hh]
    · rw [sym_congr (s' := s) (fun j hj => other i j hi hj e)]
      rcases List.mem_append.1 hin with g | g
      · exact h.ina hh i hi g
      · exact absurd (List.mem_singleton.1 g) e
  · intro hh i hi j hj
    by_cases e : 7 + 5 * i + j = 7 + 5 * k + b
    · rw [e, chg_self _ _ _ (by omega), if_neg hh]
      split <;> decide
    · rw [chg_get _ _ _ _ e]
      exact h.inb hh i hi j hj
theorem dam_good {w : List Nat} {how : Int} {order : List Nat} {s : Str} (h : Dam w how order s) (hw : w.length = 12) (hs : Sml w) (hn : order.length ≤ if how = 1 then 6 else 3) : Good w s := by
  have hout : ∀ i, i < 12 → i ∉ order → symAt s i = ((w.getD i 0 : Nat) : Int) := fun i hi g => by
    rw [sym_congr (s' := drawL w) (h.out i hi g), draw_sym hw hs i hi]
  by_cases e : how = 1
  · rw [if_pos e] at hn
    exact good_of order 6 true h.mod h.len h.ends hs hn hout (fun i hi g => h.ina e i hi g) (by simp)
  · rw [if_neg e] at hn
    exact good_of order 3 false h.mod h.len h.ends hs hn hout (fun i hi g => sym_range h.mod h.len i hi (h.inb e i hi)) (by simp)
/-! ### the loops -/
theorem bodies_ok {w : List Nat} (y : List Int) (hy : y.length = 12) (hy2 : ∀ x ∈ y, 0 ≤ x ∧ x < 12) (n : Nat) (hn : n ≤ 12) (how : Int) : ∀ (m k : Nat) (s : Str) (t : make_Tape) (order : List Nat), n - k = m → k ≤ n → TOK t → Dam w how order s →
    ∃ s' t' order', iter (top_pagesDamage_l3 y n how) (s, (k : Int), t.L, t.At) = some (s', t'.L, t'.At) ∧ TOK t' ∧ Dam w how order' s' ∧ order'.length = order.length + (n - k) := by
  intro m
  induction m with
  | zero =>
    intro k s t order hm hk ht hd
    have : k = n := by omega
    subst this
    refine ⟨s, t, order, ?_, ht, hd, by omega⟩
    exact iter_inr (by unfold top_pagesDamage_l3; simp only []; rw [show decide ((k : Int) < (k : Int)) = false by simp, cond_false])
  | succ m ih =>
    intro k s t order hm hk ht hd
    have hk' : k < n := by omega
    obtain ⟨b, t1, e1, k1, k2, k3, _⟩ := next_ok t 5 ht (by decide)
    have k4 := k3 (by decide)
    have hmem := hy2 _ (List.getElem_mem (show k < y.length by omega))
    obtain ⟨b', rfl⟩ : ∃ b' : Nat, b = (b' : Int) := ⟨b.toNat, by omega⟩
    obtain ⟨c, hc⟩ : ∃ c : Nat, y[k]'(by omega) = (c : Int) := ⟨(y[k]'(by omega)).toNat, by omega⟩
    rw [hc] at hmem
    have hstep := dam_step hd c b' (by omega) (by omega)
    obtain ⟨s', t', o', q1, q2, q3, q4⟩ := ih (k + 1) _ t1 _ (by omega) (by omega) k1 hstep
    refine ⟨s', t', o', ?_, q2, q3, by rw [q4, List.length_append, List.length_singleton]; omega⟩
    rw [iter_inl, q1]
    unfold top_pagesDamage_l3
    simp only []
    rw [show decide ((k : Int) < (n : Int)) = true by simp; omega, cond_true, req_pos ⟨by omega, by omega⟩, tmk, e1, Option.bind_some, ix_nat y k (by omega), hc]
    simp only []
    rw [i64_id (n := 5 * (c : Int)) (by omega) (by omega), i64_id (n := 7 + 5 * (c : Int)) (by omega) (by omega), i64_id (by omega) (by omega), show (7 + 5 * (c : Int) + (b' : Int)) = ((7 + 5 * c + b' : Nat) : Int) by omega, change_eq s _ how (by have := hd.len; omega) (by have := hd.len; omega), Option.bind_some, i64_add1 k (by omega)]
/-- the state of the strip after some changes of its ends -/
structure Front (w : List Nat) (n : Nat) (s : Str) : Prop where
  mod : Mod s
  len : s.length = 74
  ends : Ends s n
  mid : ∀ j, 7 ≤ j → j < 67 → s.getD j 0 = (drawL w).getD j 0
theorem front_ok {w : List Nat} : ∀ (m k : Nat) (s : Str) (t : make_Tape), 3 - k = m → k ≤ 3 → TOK t → Front w (7 - k) s →
    ∃ s' t', iter (top_pagesDamage_l6) (s, (k : Int), t.L, t.At) = some (s', t'.L, t'.At) ∧ TOK t' ∧ Front w 4 s' := by
  intro m
  induction m with
  | zero =>
    intro k s t hm hk ht hd
    have : k = 3 := by omega
    subst this
    exact ⟨s, t, iter_inr (by unfold top_pagesDamage_l6; rfl), ht, hd⟩
  | succ m ih =>
    intro k s t hm hk ht hd
    have hk' : k < 3 := by omega
    obtain ⟨a, t1, e1, k1, a1, a2, _⟩ := next_ok t 7 ht (by decide)
    obtain ⟨h1, t2, e2, k2, _, _, _⟩ := next_ok t1 2 k1 (by decide)
    obtain ⟨b, t3, e3, k3, b1, b2, _⟩ := next_ok t2 7 k2 (by decide)
    obtain ⟨h2, t4, e4, k4, _, _, _⟩ := next_ok t3 2 k3 (by decide)
    have a3 := a2 (by decide)
    have b3 := b2 (by decide)
    obtain ⟨a', rfl⟩ : ∃ a' : Nat, a = (a' : Int) := ⟨a.toNat, by omega⟩
    obtain ⟨b', rfl⟩ : ∃ b' : Nat, b = (b' : Int) := ⟨b.toNat, by omega⟩
    have hl := hd.len
    have hF : Front w (7 - (k + 1)) (chg (chg s a' h1) (67 + b') h2) := by
      have he := hd.ends
      refine ⟨chg_mod (chg_mod hd.mod _ _) _ _, by rw [chg_len, chg_len]; exact hl, ends_chg a' (67 + b') (by have := he.1; omega) (by have := he.2; omega) h1 h2 (by omega) (by omega), fun j j1 j2 => ?_⟩
      rw [chg_get _ _ _ _ (by omega), chg_get _ _ _ _ (by omega)]
      exact hd.mid j j1 j2
    obtain ⟨s', t', q1, q2, q3⟩ := ih (k + 1) _ t4 (by omega) (by omega) k4 hF
    refine ⟨s', t', ?_, q2, q3⟩
    rw [iter_inl, q1]
    unfold top_pagesDamage_l6
    simp only []
    rw [show decide ((k : Int) < (3 : Int)) = true by simp; omega, cond_true, tmk, e1, Option.bind_some]
    simp only []
    rw [e2, Option.bind_some]
    simp only []
    rw [change_eq s a' h1 (by omega) (by omega), Option.bind_some]
    rw [e3, Option.bind_some]
    simp only []
    rw [e4, Option.bind_some]
    simp only []
    rw [i64_id (n := 67 + (b' : Int)) (by omega) (by omega), show (67 + (b' : Int)) = ((67 + b' : Nat) : Int) by omega, change_eq _ _ h2 (by rw [chg_len]; omega) (by rw [chg_len]; omega), Option.bind_some, i64_add1 k (by omega)]
/-- a strip that was drawn and damaged: its label comes back -/
theorem damage_ok {pa ca pg va : Nat} (t : make_Tape) (ht : TOK t) (h1 : pa < 32) (h2 : ca ≤ 9999) (h3 : pg < 32) (h4 : va < 32) :
    ∃ y t', top_pagesDamage t (drawL (encP (symsP pa ca pg va))) = some (y, t') ∧ TOK t' ∧ ∃ e, strip_Read y = some (⟨pa, ca, pg, va⟩, e, 0) := by
  obtain ⟨e1, e2, e3⟩ := enc_ok (symsP_sml h1 h2 h3 h4)
  have hw : (encP (symsP pa ca pg va)).length = 12 := e3.len
  obtain ⟨s1, t1, q1, q2, q3⟩ := front_ok (w := encP (symsP pa ca pg va)) 3 0 (drawL (encP (symsP pa ca pg va))) t rfl (by decide) ht ⟨draw_mod _, draw_len hw, draw_ends hw, fun j _ _ => rfl⟩
  obtain ⟨y, t2, o1, o2, o3, o4⟩ := order_ok t1 q2
  obtain ⟨c, t3, n1, n2, n3, n4, _⟩ := next_ok t2 2 o2 (by decide)
  have n5 := n4 (by decide)
  have hD : ∀ how : Int, Dam (encP (symsP pa ca pg va)) how [] s1 := fun how => by
    refine ⟨q3.mod, q3.len, q3.ends, fun i hi _ j hj => q3.mid _ (by omega) (by omega), fun _ i _ h => by simp at h, fun _ i hi j hj => ?_⟩
    rw [q3.mid _ (by omega) (by omega), draw_get hw i j hi hj]
    rcases bit_mod ((encP (symsP pa ca pg va)).getD i 0) j with e | e <;> rw [e] <;> decide
  -- the last step: turned round or not
  have last : ∀ (s : Str) (t : make_Tape), TOK t → Good (encP (symsP pa ca pg va)) s → ∃ y t', top_pagesDamage_j2 s t.L t.At = some (y, t') ∧ TOK t' ∧ ∃ e, strip_Read y = some (⟨pa, ca, pg, va⟩, e, 0) := by
    intro s t ht hg
    obtain ⟨d, t', e1, k1, _⟩ := next_ok t 2 ht (by decide)
    unfold top_pagesDamage_j2
    rw [tmk, e1, Option.bind_some]
    simp only []
    cases d == 1
    · rw [cond_false]
      exact ⟨s, t', rfl, k1, _, read_up h1 h2 h3 h4 hg (upright_eq hg.mod hg.len hg.ends)⟩
    · rw [cond_true]
      refine ⟨s.reverse, t', ?_, k1, _, read_up h1 h2 h3 h4 hg (upright_rev hg.mod hg.len hg.ends)⟩
      unfold strip_Flip
      rw [if_pos (by have := hg.len; omega), Option.bind_some]
      rfl
  have four : ∀ (n : Nat) (how : Int), n ≤ (if how = 1 then 6 else 3) → ∃ z t', top_pagesDamage_j4 s1 y n how t3.L t3.At = some (z, t') ∧ TOK t' ∧ ∃ e, strip_Read z = some (⟨pa, ca, pg, va⟩, e, 0) := by
    intro n how hn
    obtain ⟨s2, t4, r, b1, b2, b3, b4⟩ := bodies_ok (w := encP (symsP pa ca pg va)) y o3 o4 n (by split at hn <;> omega) how n 0 s1 t3 [] rfl (by omega) n2 (hD how)
    unfold top_pagesDamage_j4
    rw [show ((0 : Nat) : Int) = 0 from rfl] at b1
    rw [b1, Option.bind_some]
    exact last s2 t4 b2 (dam_good b3 hw e2 (by rw [b4]; simpa using hn))
  unfold top_pagesDamage
  rw [show ((0 : Nat) : Int) = 0 from rfl] at q1
  rw [q1, Option.bind_some]
  simp only []
  unfold top_pagesDamage_j5
  rw [tmk, o1, Option.bind_some]
  simp only []
  rw [n1, Option.bind_some]
  simp only []
  cases c == 1
  · rw [cond_false]
    exact four 3 0 (by decide)
  · rw [cond_true]
    exact four 6 1 (by decide)
end Go.LS
namespace Go.LS
open Go.Proofs
set_option linter.all false
set_option maxRecDepth 20000

def okLabel (l : api_Label) : Prop := 0 ≤ l.Paper ∧ l.Paper < 32 ∧ 0 ≤ l.Candidate ∧ l.Candidate ≤ 9999 ∧ 0 ≤ l.Page ∧ l.Page < 32 ∧ 0 ≤ l.Variant ∧ l.Variant < 32
def codeL (l : api_Label) : List Nat := encP (symsP l.Paper.toNat l.Candidate.toNat l.Page.toNat l.Variant.toNat)
def wordL (l : api_Label) : List Int := (codeL l).map fun x : Nat => (x : Int)
theorem draw_eq {l : api_Label} (h : okLabel l) : strip_Draw l = some (drawL (codeL l), 0) := by
  unfold strip_Draw
  exact if_pos h
theorem codeL_ok {l : api_Label} (h : okLabel l) : Sml (codeL l) ∧ Code 12 (codeL l) ∧ (codeL l).length = 12 := by
  obtain ⟨a1, a2, a3, a4, a5, a6, a7, a8⟩ := h
  obtain ⟨e1, e2, e3⟩ := enc_ok (symsP_sml (pa := l.Paper.toNat) (ca := l.Candidate.toNat) (pg := l.Page.toNat) (va := l.Variant.toNat) (by omega) (by omega) (by omega) (by omega))
  exact ⟨e2, e3, e3.len⟩
theorem word_draw {w : List Nat} (hw : w.length = 12) (hs : Sml w) : strip_Word (drawL w) = some (w.map (fun x : Nat => (x : Int)), 0) := by
  rw [word_eq (draw_mod w) (draw_len hw)]
  congr 2
  apply List.ext_getElem
  · rw [word_len, List.length_map, hw]
  · intro i h1 h2
    rw [word_len] at h1
    have := word_get (drawL w) i h1
    rw [List.getD_eq_getElem?_getD, List.getElem?_eq_getElem (by rw [word_len]; exact h1)] at this
    rw [List.getElem_map]
    refine this.trans ((draw_sym hw hs i h1).trans ?_)
    rw [List.getD_eq_getElem?_getD, List.getElem?_eq_getElem (by omega)]; rfl
theorem codeword_eq {w : List Nat} (hw : w.length = 12) (hc : Code 12 w) : rscode_Codeword (w.map (fun x : Nat => (x : Int))) = some true := by
  unfold rscode_Codeword
  rw [if_pos]
  have e : (w.map (fun x : Nat => (x : Int))).map Int.toNat = w := by
    rw [List.map_map]
    exact (List.map_congr_left fun x _ => rfl).trans (List.map_id w)
  refine ⟨by simp [hw], by simp [hw], fun x hx => ?_, fun j h1 h2 => ?_⟩
  · obtain ⟨y, hy, rfl⟩ := List.mem_map.1 hx
    have := hc.sml y hy
    omega
  · rw [e, List.length_map, hw]
    exact hc.syn j h1 h2
/-! ### distance -/
theorem dist_eq (a b : List Int) (ha : a.length = 12) (hb : b.length = 12) : rscode_Distance a b = some (((List.range 12).filter fun i => a.getD i 0 != b.getD i 0).length : Int) := by
  have key : ∀ (n k : Nat), 12 - k = n → k ≤ 12 → iter (rscode_Distance_l3 a b) ((((List.range k).filter fun i => a.getD i 0 != b.getD i 0).length : Int), (k : Int)) = some (((List.range 12).filter fun i => a.getD i 0 != b.getD i 0).length : Int) := by
    intro n
    induction n with
    | zero =>
      intro k hn hk
      have : k = 12 := by omega
      subst this
      exact iter_inr (by unfold rscode_Distance_l3; simp only []; rw [ha, show decide (((12 : Nat) : Int) < ((12 : Nat) : Int)) = false from rfl, cond_false])
    | succ n ih =>
      intro k hn hk
      have hk' : k < 12 := by omega
      have hle : ((List.range k).filter fun i => a.getD i 0 != b.getD i 0).length ≤ k := by
        have := List.length_filter_le (fun i => a.getD i 0 != b.getD i 0) (List.range k)
        rw [List.length_range] at this
        exact this
      rw [iter_inl (s' := ((((List.range (k + 1)).filter fun i => a.getD i 0 != b.getD i 0).length : Int), ((k + 1 : Nat) : Int)))]
      · exact ih (k + 1) (by omega) (by omega)
      · unfold rscode_Distance_l3 rscode_Distance_j2
        simp only []
        rw [show decide ((k : Int) < (a.length : Int)) = true by simp; omega, cond_true, req_pos ⟨⟨by omega, by omega⟩, ⟨by omega, by omega⟩⟩, ix_nat a k (by omega), ix_nat b k (by omega), i64_add1 k (by omega)]
        rw [List.range_succ, List.filter_append]
        have e1 : a.getD k 0 = a[k]'(by omega) := by rw [List.getD_eq_getElem?_getD, List.getElem?_eq_getElem (by omega)]; rfl
        have e2 : b.getD k 0 = b[k]'(by omega) := by rw [List.getD_eq_getElem?_getD, List.getElem?_eq_getElem (by omega)]; rfl
        have ef : ([k].filter fun i => a.getD i 0 != b.getD i 0) = if (a[k]'(by omega) != b[k]'(by omega)) = true then [k] else [] := by
          rw [List.filter_cons, e1, e2]; rfl
        rw [ef]
        cases a[k]'(by omega) != b[k]'(by omega)
        · rw [cond_false, if_neg (by decide)]; simp
        · rw [cond_true, if_pos rfl, i64_add1 _ (by omega)]; simp
  unfold rscode_Distance rscode_Distance_j1
  rw [ha, hb, show (((12 : Nat) : Int) != ((12 : Nat) : Int)) = false from rfl, cond_false]
  have := key 12 0 rfl (by decide)
  rw [show ((0 : Nat) : Int) = 0 from rfl] at this
  have e0 : (((List.range 0).filter fun i => a.getD i 0 != b.getD i 0).length : Int) = 0 := rfl
  rw [e0] at this
  rw [this, Option.bind_some]
theorem syms_inj {a b c d a' b' c' d' : Nat} (h : symsP a b c d = symsP a' b' c' d') : a = a' ∧ b = b' ∧ c = c' ∧ d = d' := by
  unfold symsP at h
  injection h with h1 h
  injection h with h2 h
  injection h with h3 h
  injection h with h4 h
  injection h with h5 h
  injection h with h6 h
  refine ⟨h1, by omega, h5, h6⟩
theorem far {l m : api_Label} (hl : okLabel l) (hm : okLabel m) (hne : l ≠ m) : 7 ≤ ((List.range 12).filter fun i => (wordL l).getD i 0 != (wordL m).getD i 0).length := by
  obtain ⟨l1, l2, l3⟩ := codeL_ok hl
  obtain ⟨m1, m2, m3⟩ := codeL_ok hm
  have hg : ∀ (w : List Nat) i, (w.map fun x : Nat => (x : Int)).getD i 0 = ((w.getD i 0 : Nat) : Int) := by
    intro w i
    rw [List.getD_eq_getElem?_getD, List.getElem?_map, List.getD_eq_getElem?_getD]
    cases w[i]? <;> rfl
  have he : ((List.range 12).filter fun i => (wordL l).getD i 0 != (wordL m).getD i 0) = diffs 12 (codeL l) (codeL m) := by
    unfold diffs wordL
    refine List.filter_congr fun i _ => ?_
    rw [hg, hg, Bool.eq_iff_iff]
    simp only [bne_iff_ne, ne_eq]
    omega
  rw [he]
  apply Classical.byContradiction
  intro hlt
  have e := code_eq (by decide) l2 m2 (by omega)
  have e6 : ∀ a b c d, (encP (symsP a b c d)).take 6 = symsP a b c d := fun a b c d => by
    unfold encP
    rw [List.take_append_of_le_length (by exact Nat.le_refl 6)]; rfl
  have e2 := congrArg (List.take 6) e
  unfold codeL at e2
  rw [e6, e6] at e2
  obtain ⟨q1, q2, q3, q4⟩ := syms_inj e2
  obtain ⟨a1, a2, a3, a4, a5, a6, a7, a8⟩ := hl
  obtain ⟨b1, b2, b3, b4, b5, b6, b7, b8⟩ := hm
  apply hne
  obtain ⟨p, c, g, v⟩ := l
  obtain ⟨p', c', g', v'⟩ := m
  simp only at q1 q2 q3 q4 a1 a3 a5 a7 b1 b3 b5 b7
  have : p = p' := by omega
  have : c = c' := by omega
  have : g = g' := by omega
  have : v = v' := by omega
  subst_vars
  rfl
/-! ### the awake case -/
theorem awake_ok : top_awake19 = some true := by
  unfold top_awake19
  have hok : okLabel (api_Label.mk 1 2 3 0) := by unfold okLabel; decide
  have hcode : codeL (api_Label.mk 1 2 3 0) = encP (symsP 1 2 3 0) := rfl
  obtain ⟨c1, c2, c3⟩ := codeL_ok hok
  rw [hcode] at c1 c2 c3
  rw [draw_eq hok, Option.bind_some, hcode]
  simp only []
  have hd0 : Dam (encP (symsP 1 2 3 0)) 0 [] (drawL (encP (symsP 1 2 3 0))) := by
    refine ⟨draw_mod _, draw_len c3, ?_, fun i _ _ j _ => rfl, fun h => absurd h (by decide), fun _ i hi j hj => ?_⟩
    · have := draw_ends c3
      exact ⟨Nat.le_trans (by decide) this.1, Nat.le_trans (by decide) this.2⟩
    · rw [draw_get c3 i j hi hj]
      rcases bit_mod ((encP (symsP 1 2 3 0)).getD i 0) j with e | e <;> rw [e] <;> decide
  have hd := dam_step hd0 2 3 (by decide) (by decide)
  have hg := dam_good hd c3 c1 (by decide)
  have hch := change_eq (drawL (encP (symsP 1 2 3 0))) 20 0 (by rw [draw_len c3]; decide) (by rw [draw_len c3]; decide)
  rw [show ((20 : Nat) : Int) = 20 from rfl] at hch
  rw [hch, Option.bind_some]
  have hr := read_up (pa := 1) (ca := 2) (pg := 3) (va := 0) (by decide) (by decide) (by decide) (by decide) hg (upright_eq hg.mod hg.len hg.ends)
  have h1 : (errsOf (wordP (chg (drawL (encP (symsP 1 2 3 0))) (7 + 5 * 2 + 3) 0)) (encP (symsP 1 2 3 0))).length = 1 := by decide +kernel
  rw [h1] at hr
  rw [show (7 + 5 * 2 + 3 : Nat) = 20 from rfl] at hr
  rw [hr, Option.bind_some]
  rfl
end Go.LS
namespace Go.LS
open Go.Proofs
set_option linter.all false
set_option maxRecDepth 20000

structure okPart (p : api_Part) : Prop where
  m1 : 1 ≤ p.Max
  m2 : p.Max ≤ 12
  t1 : 0 ≤ p.Topic
  t2 : p.Topic < 16
  o1 : 0 ≤ p.Objective
  o2 : p.Objective < 6
  k : (p.Kind = 1 ∧ p.Options = 0 ∧ p.Key = 0) ∨ (p.Kind = 2 ∧ 2 ≤ p.Options ∧ p.Options ≤ 5 ∧ 0 ≤ p.Key ∧ p.Key < p.Options)
theorem part_ok (t : make_Tape) (ht : TOK t) : ∃ p t', make_Tape_Part t 0 = some (p, t') ∧ TOK t' ∧ okPart p := by
  obtain ⟨y, t1, e1, k1, a1, a2⟩ := range_ok t 1 12 ht (by decide) (by decide) (by decide)
  obtain ⟨y2, t2, e2, k2, b1, b2, _⟩ := next_ok t1 4 k1 (by decide)
  obtain ⟨y4, t3, e3, k3, c1, c2, _⟩ := next_ok t2 3 k2 (by decide)
  obtain ⟨y22, t4, e4, k4, _, _, _⟩ := next_ok t3 3 k3 (by decide)
  have b3 := b2 (by decide)
  have c3 := c2 (by decide)
  unfold make_Tape_Part make_Tape_Part_j2 make_Tape_Part_j1
  rw [e1, Option.bind_some]
  simp only []
  rw [e2, Option.bind_some]
  simp only []
  rw [e3, Option.bind_some]
  simp only []
  rw [e4, Option.bind_some]
  simp only []
  rw [show decide ((0 : Int) < 0) = false from rfl]
  cases y22 == 0
  · rw [cond_false, cond_false]
    exact ⟨_, _, rfl, k4, ⟨a1, a2, b1, by show y2 < 16; omega, c1, by show y4 < 6; omega, .inl ⟨rfl, rfl, rfl⟩⟩⟩
  · obtain ⟨o, t5, e5, k5, d1, d2⟩ := range_ok t4 2 5 k4 (by decide) (by decide) (by decide)
    obtain ⟨q, t6, e6, k6, f1, f2, _⟩ := next_ok t5 o k5 (by omega)
    obtain ⟨r, t7, e7, k7, g1, g2⟩ := range_ok t6 1 3 k6 (by decide) (by decide) (by decide)
    have f3 := f2 (by omega)
    rw [cond_true, e5, Option.bind_some]
    simp only []
    rw [e6, Option.bind_some]
    simp only []
    rw [e7, Option.bind_some]
    simp only []
    rw [cond_false]
    exact ⟨_, _, rfl, k7, ⟨g1, by show r ≤ 12; omega, b1, by show y2 < 16; omega, c1, by show y4 < 6; omega, .inr ⟨rfl, d1, d2, f1, f3⟩⟩⟩
theorem valid_part {p : api_Part} (h : okPart p) : ref06_ValidPart p = some true := by
  obtain ⟨h1, h2, h3, h4, h5, h6, h7⟩ := h
  unfold ref06_ValidPart
  rw [show ((((((decide (p.Max < (1 : Int))) || (decide ((40 : Int) < p.Max))) || (decide (p.Topic < (0 : Int)))) || (decide ((16 : Int) ≤ p.Topic))) || (decide (p.Objective < (0 : Int)))) || (decide ((6 : Int) ≤ p.Objective))) = false by simp; omega, cond_false]
  rcases h7 with ⟨k1, k2, k3⟩ | ⟨k1, k2, k3, k4, k5⟩
  · rw [k1, k2, k3]; rfl
  · rw [k1, show ((2 : Int) == 1) = false from rfl, cond_false]
    simp; omega
theorem need_ok {p : api_Part} (h : okPart p) : ∃ n, ref12_Need p = some n ∧ 0 ≤ n ∧ n ≤ 30 := by
  have hv := valid_part h
  obtain ⟨h1, h2, h3, h4, h5, h6, h7⟩ := h
  unfold ref12_Need
  rw [hv, Option.bind_some, show (!true) = false from rfl, cond_false]
  rcases h7 with ⟨k1, k2, k3⟩ | ⟨k1, k2, k3, k4, k5⟩
  · rw [k1, show ((1 : Int) == 2) = false from rfl, cond_false, i64_id (by omega) (by omega)]
    refine ⟨_, rfl, ?_, ?_⟩ <;> unfold imin <;> split <;> omega
  · rw [k1, show ((2 : Int) == 2) = true from rfl, cond_true, i64_id (by omega) (by omega)]
    exact ⟨_, rfl, by omega, by omega⟩
theorem paper_ok (t : make_Tape) (ht : TOK t) (code variant : Int) : ∃ p t', make_Tape_Paper t code variant = some (p, t') ∧ TOK t' ∧ p.Code = code ∧ p.Variant = variant ∧ 1 ≤ p.Parts.length ∧ p.Parts.length ≤ 6 ∧ ∀ x ∈ p.Parts, okPart x := by
  obtain ⟨y, t1, e1, k1, a1, a2⟩ := range_ok t 1 6 ht (by decide) (by decide) (by decide)
  obtain ⟨⟨tl, ta, w⟩, h1, h2, h3, h4⟩ := iter_inv (f := make_Tape_Paper_l2) (fun s : Int × (List Int) × Int × (List api_Part) => 0 ≤ s.1 ∧ s.1 + s.2.2.2.length = y ∧ (∀ x ∈ s.2.2.2, okPart x) ∧ TOK ⟨s.2.1, s.2.2.1⟩) (fun s => s.1.toNat)
    (fun r : (List Int) × Int × (List api_Part) => TOK ⟨r.1, r.2.1⟩ ∧ (r.2.2.length : Int) = y ∧ ∀ x ∈ r.2.2, okPart x) (fun s hI => by
      obtain ⟨i, tl, ta, w⟩ := s
      obtain ⟨g1, g2, g3, g4⟩ := hI
      simp only [] at g1 g2 g3 g4
      unfold make_Tape_Paper_l2
      simp only []
      by_cases hi : 0 < i
      · left
        obtain ⟨p, t', q1, q2, q3⟩ := part_ok ⟨tl, ta⟩ g4
        rw [show decide ((0 : Int) < i) = true by simpa using hi, cond_true, q1, Option.bind_some]
        simp only []
        rw [req_pos (by simp; omega), i64_id (by omega) (by omega)]
        refine ⟨_, rfl, ⟨by show 0 ≤ i - 1; omega, ?_, ?_, q2⟩, by show (i - 1).toNat < i.toNat; omega⟩
        · show i - 1 + ((w ++ [p]).length : Int) = y
          simp; omega
        · intro x hx
          rcases List.mem_append.1 hx with h | h
          · exact g3 x h
          · rw [List.mem_singleton.1 h]; exact q3
      · right
        rw [show decide ((0 : Int) < i) = false by simpa using hi, cond_false]
        exact ⟨_, rfl, g4, by show (w.length : Int) = y; omega, g3⟩) (y, t1.L, t1.At, ([] : List api_Part)) ⟨by show 0 ≤ y; omega, by show y + 0 = y; omega, (fun x hx => by cases hx), k1⟩
  simp only [] at h2 h3 h4
  unfold make_Tape_Paper make_Tape_Paper_j1
  rw [e1, Option.bind_some]
  simp only []
  rw [h1, Option.bind_some]
  exact ⟨_, _, rfl, h2, rfl, rfl, by show 1 ≤ w.length; omega, by show w.length ≤ 6; omega, h4⟩
theorem valid_paper {p : api_Paper} (h1 : 0 ≤ p.Code ∧ p.Code ≤ 31) (h2 : 0 ≤ p.Variant ∧ p.Variant < 4) (h3 : 1 ≤ p.Parts.length) (h4 : p.Parts.length ≤ 6) (h5 : ∀ x ∈ p.Parts, okPart x) : ref06_ValidPaper p = some true := by
  unfold ref06_ValidPaper
  rw [show ((((((decide (p.Code < (0 : Int))) || (decide ((31 : Int) < p.Code))) || (decide (p.Variant < (0 : Int)))) || (decide ((4 : Int) ≤ p.Variant))) || (decide ((p.Parts.length : Int) < (1 : Int)))) || (decide ((24 : Int) < (p.Parts.length : Int)))) = false by simp; omega, cond_false]
  have key : ∀ (n k : Nat) (sum : Int), p.Parts.length - k = n → k ≤ p.Parts.length → 0 ≤ sum → sum ≤ 12 * k → ∃ z, iter (ref06_ValidPaper_l2 p) (sum, (k : Int)) = some (.inl z) ∧ z ≤ 72 := by
    intro n
    induction n with
    | zero =>
      intro k sum hn hk hs1 hs2
      have : k = p.Parts.length := by omega
      subst this
      refine ⟨sum, iter_inr ?_, by omega⟩
      unfold ref06_ValidPaper_l2
      simp only []
      rw [show decide ((p.Parts.length : Int) < (p.Parts.length : Int)) = false by simp, cond_false]
    | succ n ih =>
      intro k sum hn hk hs1 hs2
      have hk' : k < p.Parts.length := by omega
      have hp := h5 _ (List.getElem_mem hk')
      obtain ⟨z, q1, q2⟩ := ih (k + 1) (sum + p.Parts[k].Max) (by omega) (by omega) (by have := hp.m1; omega) (by have := hp.m2; omega)
      refine ⟨z, ?_, q2⟩
      rw [iter_inl, q1]
      unfold ref06_ValidPaper_l2
      simp only []
      rw [show decide ((k : Int) < (p.Parts.length : Int)) = true by simp; omega, cond_true, req_pos ⟨by omega, by omega⟩, ix_nat p.Parts k hk', valid_part hp, Option.bind_some, show (!true) = false from rfl, cond_false, req_pos ⟨by omega, by omega⟩, i64_add1 k (by omega), i64_id (by have := hp.m1; omega) (by have := hp.m2; omega)]
  obtain ⟨z, q1, q2⟩ := key _ 0 0 rfl (by omega) (by omega) (by omega)
  rw [show ((0 : Nat) : Int) = 0 from rfl] at q1
  rw [q1, Option.bind_some]
  simp only []
  unfold ref06_ValidPaper_j1
  rw [decide_eq_true (show z ≤ 200 by omega)]
theorem mapM_ok {α β : Type} (f : α → Option β) (Q : β → Prop) : ∀ l : List α, (∀ x ∈ l, ∃ y, f x = some y ∧ Q y) → ∃ ys, l.mapM f = some ys ∧ ys.length = l.length ∧ ∀ y ∈ ys, Q y
  | [], _ => ⟨[], rfl, rfl, fun y hy => by cases hy⟩
  | x :: l, h => by
    obtain ⟨y, h1, h2⟩ := h x (by simp)
    obtain ⟨ys, a1, a2, a3⟩ := mapM_ok f Q l (fun x hx => h x (by simp [hx]))
    refine ⟨y :: ys, ?_, by simp [a2], fun z hz => ?_⟩
    · rw [List.mapM_cons, h1, a1]; rfl
    · rcases List.mem_cons.1 hz with h | h
      · rw [h]; exact h2
      · exact a3 z h
theorem make_ok {p : api_Paper} (h1 : 0 ≤ p.Code ∧ p.Code ≤ 31) (h2 : 0 ≤ p.Variant ∧ p.Variant < 4) (h3 : 1 ≤ p.Parts.length) (h4 : p.Parts.length ≤ 6) (h5 : ∀ x ∈ p.Parts, okPart x) : ∃ b, ref12_Make p = some (b, 0) ∧ b.Pages.length ≤ 12 := by
  unfold ref12_Make
  obtain ⟨nds, a1, a2, a3⟩ := mapM_ok ref12_Need (fun n => 0 ≤ n ∧ n ≤ 30) p.Parts (fun x hx => by
    obtain ⟨n, q1, q2, q3⟩ := need_ok (h5 x hx)
    exact ⟨n, q1, q2, q3⟩)
  rw [valid_paper h1 h2 h3 h4 h5, Option.bind_some, if_pos rfl, a1, Option.bind_some, if_pos ⟨by omega, a3⟩]
  refine ⟨_, rfl, ?_⟩
  obtain ⟨g1, g2, g3, g4⟩ := pgTo_ok (nds := nds) (fun i hi => by
    rw [List.getD_eq_getElem?_getD, List.getElem?_eq_getElem hi]
    exact a3 _ (List.getElem_mem hi)) nds.length (Nat.le_refl _)
  show ((padP (pgTo nds nds.length).1).map _).length ≤ 12
  rw [List.length_map]
  unfold padP
  rw [List.length_append, List.length_replicate]
  omega
structure okSit (x : api_Sitting) : Prop where
  n1 : 0 ≤ x.Number
  n2 : x.Number < 32
  b2 : x.Booklets.length ≤ 2
  pg : ∀ b ∈ x.Booklets, b.Pages.length ≤ 12
  el : x.Expected.length ≤ 4
  e : ∀ e ∈ x.Expected, 0 ≤ e.Candidate ∧ e.Candidate < 4 ∧ 0 ≤ e.Variant ∧ e.Variant < x.Booklets.length
  dis : x.Expected.Pairwise fun a b => a.Candidate ≠ b.Candidate
theorem sitting_ok (t : make_Tape) (ht : TOK t) : ∃ x t', make_Tape_Sitting t 0 = some (x, t') ∧ TOK t' ∧ okSit x := by
  obtain ⟨y, t1, e1, k1, a1, a2, _⟩ := next_ok t 2 ht (by decide)
  have a3 := a2 (by decide)
  obtain ⟨⟨tl, ta, w, w'⟩, h1, h2, h3, h4, h5, h6⟩ := iter_inv (f := make_Tape_Sitting_l6 y) (fun s : Int × (List Int) × Int × (List api_Paper) × (List api_Booklet) => 0 ≤ s.1 ∧ s.1 ≤ 2 ∧ TOK ⟨s.2.1, s.2.2.1⟩ ∧ (s.2.2.2.1.length : Int) = s.1 ∧ (s.2.2.2.2.length : Int) = s.1 ∧ ∀ b ∈ s.2.2.2.2, b.Pages.length ≤ 12) (fun s => 2 - s.1.toNat)
    (fun r : (List Int) × Int × (List api_Paper) × (List api_Booklet) => TOK ⟨r.1, r.2.1⟩ ∧ r.2.2.1.length = r.2.2.2.length ∧ 1 ≤ r.2.2.1.length ∧ r.2.2.2.length ≤ 2 ∧ ∀ b ∈ r.2.2.2, b.Pages.length ≤ 12) (fun s hI => by
      obtain ⟨v, tl, ta, w, w'⟩ := s
      obtain ⟨g1, g2, g3, g4, g5, g6⟩ := hI
      simp only [] at g1 g2 g3 g4 g5 g6
      unfold make_Tape_Sitting_l6
      simp only []
      obtain ⟨c, t2, e2, k2, c1, c2⟩ := range_ok ⟨tl, ta⟩ 1 2 g3 (by decide) (by decide) (by decide)
      rw [e2, Option.bind_some]
      simp only []
      by_cases hi : v < c
      · left
        obtain ⟨p, t3, q1, q2, q3, q4, q5, q6, q7⟩ := paper_ok t2 k2 y v
        obtain ⟨b, m1, m2⟩ := make_ok (p := p) (by omega) (by omega) q5 q6 q7
        rw [show decide (v < c) = true by simpa using hi, cond_true, q1, Option.bind_some]
        simp only []
        rw [m1, Option.bind_some]
        simp only []
        rw [req_pos ⟨by simp; omega, by simp; omega⟩, i64_id (by omega) (by omega)]
        refine ⟨_, rfl, ⟨by show 0 ≤ v + 1; omega, by show v + 1 ≤ 2; omega, q2, ?_, ?_, ?_⟩, by show 2 - (v + 1).toNat < 2 - v.toNat; omega⟩
        · show ((w ++ [p]).length : Int) = v + 1
          simp; omega
        · show ((w' ++ [b]).length : Int) = v + 1
          simp; omega
        · intro x hx
          rcases List.mem_append.1 hx with h | h
          · exact g6 x h
          · rw [List.mem_singleton.1 h]; exact m2
      · right
        rw [show decide (v < c) = false by simpa using hi, cond_false]
        exact ⟨_, rfl, k2, by show w.length = w'.length; omega, by show 1 ≤ w.length; omega, by show w'.length ≤ 2; omega, g6⟩) ((0 : Int), t1.L, t1.At, ([] : List api_Paper), ([] : List api_Booklet)) ⟨Int.le_refl _, by show (0 : Int) ≤ 2; decide, k1, rfl, rfl, fun x hx => by cases hx⟩
  simp only [] at h2 h3 h4 h5 h6
  obtain ⟨⟨sl, sa, ex⟩, f1, f2, f3, f4, f5⟩ := iter_inv (f := make_Tape_Sitting_l4 w) (fun s : Int × (List Int) × Int × (List api_Expected) => 0 ≤ s.1 ∧ s.1 ≤ 4 ∧ TOK ⟨s.2.1, s.2.2.1⟩ ∧ (s.2.2.2.length : Int) ≤ s.1 ∧ (∀ e ∈ s.2.2.2, 0 ≤ e.Candidate ∧ e.Candidate < s.1 ∧ 0 ≤ e.Variant ∧ e.Variant < w.length) ∧ s.2.2.2.Pairwise fun a b => a.Candidate ≠ b.Candidate) (fun s => 4 - s.1.toNat)
    (fun r : (List Int) × Int × (List api_Expected) => TOK ⟨r.1, r.2.1⟩ ∧ r.2.2.length ≤ 4 ∧ (∀ e ∈ r.2.2, 0 ≤ e.Candidate ∧ e.Candidate < 4 ∧ 0 ≤ e.Variant ∧ e.Variant < w.length) ∧ r.2.2.Pairwise fun a b => a.Candidate ≠ b.Candidate) (fun s hI => by
      obtain ⟨i, tl, ta, ex⟩ := s
      obtain ⟨g1, g2, g3, g4, g5, g6⟩ := hI
      simp only [] at g1 g2 g3 g4 g5 g6
      unfold make_Tape_Sitting_l4 make_Tape_Sitting_j3
      simp only []
      by_cases hi : i < 4
      · left
        obtain ⟨c, t2, q1, q2, _⟩ := next_ok ⟨tl, ta⟩ 4 g3 (by decide)
        rw [show decide (i < (4 : Int)) = true by simpa using hi, cond_true, q1, Option.bind_some]
        simp only []
        rw [i64_id (n := i + 1) (by omega) (by omega)]
        cases decide ((0 : Int) < c)
        · rw [cond_false]
          exact ⟨_, rfl, ⟨by show 0 ≤ i + 1; omega, by show i + 1 ≤ 4; omega, q2, by show (ex.length : Int) ≤ i + 1; omega, fun e he => by have := g5 e he; show _ ∧ e.Candidate < i + 1 ∧ _; omega, g6⟩, by show 4 - (i + 1).toNat < 4 - i.toNat; omega⟩
        · obtain ⟨d, t3, r1, r2, r3, r4⟩ := range_ok t2 1 2 q2 (by decide) (by decide) (by decide)
          obtain ⟨u, t4, s1, s2, s3, s4, _⟩ := next_ok t3 (w.length : Int) r2 (by omega)
          have s5 := s4 (by omega)
          rw [cond_true, r1, Option.bind_some]
          simp only []
          rw [s1, Option.bind_some]
          simp only []
          rw [req_pos (by simp; omega)]
          refine ⟨_, rfl, ⟨by show 0 ≤ i + 1; omega, by show i + 1 ≤ 4; omega, s2, ?_, ?_, ?_⟩, by show 4 - (i + 1).toNat < 4 - i.toNat; omega⟩
          · show ((ex ++ [_]).length : Int) ≤ i + 1
            simp; omega
          · intro e he
            show _ ∧ e.Candidate < i + 1 ∧ _
            rcases List.mem_append.1 he with h | h
            · have := g5 e h; omega
            · rw [List.mem_singleton.1 h]
              exact ⟨g1, by show i < i + 1; omega, s3, s5⟩
          · show (ex ++ [_]).Pairwise _
            rw [List.pairwise_append]
            refine ⟨g6, List.pairwise_singleton _ _, fun a ha b hb => ?_⟩
            rw [List.mem_singleton.1 hb]
            have := g5 a ha
            show a.Candidate ≠ i
            omega
      · right
        rw [show decide (i < (4 : Int)) = false by simpa using hi, cond_false]
        exact ⟨_, rfl, g3, by show ex.length ≤ 4; omega, fun e he => by have := g5 e he; omega, g6⟩) ((0 : Int), tl, ta, ([] : List api_Expected)) ⟨Int.le_refl _, by show (0 : Int) ≤ 4; decide, h2, Int.le_refl _, (fun x hx => by cases hx), List.Pairwise.nil⟩
  simp only [] at f2 f3 f4 f5
  unfold make_Tape_Sitting
  rw [e1, Option.bind_some]
  simp only []
  rw [h1, Option.bind_some]
  simp only []
  unfold make_Tape_Sitting_j5
  rw [f1, Option.bind_some]
  simp only []
  unfold make_Tape_Sitting_j2 make_Tape_Sitting_j1
  rw [show decide ((0 : Int) < 0) = false from rfl, cond_false]
  exact ⟨_, _, rfl, f2, ⟨a1, by show y < 32; omega, h5, h6, f3, by rw [h3] at f4; exact f4, f5⟩⟩
end Go.LS
namespace Go.LS
open Go.Proofs
set_option linter.all false
set_option maxRecDepth 20000

noncomputable def pgN (x : api_Sitting) (e : api_Expected) : Nat := (ix x.Booklets e.Variant).Pages.length
noncomputable def rowL (x : api_Sitting) (e : api_Expected) : List api_Label := (List.range (pgN x e)).map fun k : Nat => ⟨x.Number, e.Candidate, (k : Int), e.Variant⟩
theorem foldl_app {α β : Type} (f : α → List β) : ∀ (l : List α) (b : List β), l.foldl (fun b e => b ++ f e) b = b ++ l.flatMap f
  | [], b => by simp
  | x :: l, b => by rw [List.foldl_cons, foldl_app f l, List.flatMap_cons, List.append_assoc]
theorem foldl_one {α β : Type} (f : α → β) : ∀ (l : List α) (b : List β), l.foldl (fun b e => b ++ [f e]) b = b ++ l.map f
  | [], b => by simp
  | x :: l, b => by rw [List.foldl_cons, foldl_one f l, List.map_cons, List.append_assoc]; rfl
theorem pages_row {x : api_Sitting} (hx : okSit x) (i : Nat) (hi : i < x.Expected.length) (out : List api_Label) (ho : out.length ≤ 100) :
    iter (top_pagesOf_l3 x (i : Int)) ((0 : Int), out) = some (out ++ rowL x x.Expected[i]) := by
  have he := hx.e _ (List.getElem_mem hi)
  have hpn : pgN x x.Expected[i] ≤ 12 := by
    unfold pgN
    exact hx.pg _ (ix_mem _ _ he.2.2.1 he.2.2.2)
  have := iter_fold (List.range (pgN x x.Expected[i])) (top_pagesOf_l3 x (i : Int)) (fun b k => b ++ [(⟨x.Number, x.Expected[i].Candidate, (k : Int), x.Expected[i].Variant⟩ : api_Label)]) (fun b => b) (fun k b => b.length ≤ 100 + k)
    (fun k b hk hI => by
      rw [List.length_range] at hk
      unfold top_pagesOf_l3 bindV
      simp only []
      rw [ix_nat x.Expected i hi, req_pos ⟨he.2.2.1, he.2.2.2⟩]
      rw [show decide ((k : Int) < (((ix x.Booklets x.Expected[i].Variant).Pages).length : Int)) = true by
        show decide ((k : Int) < ((pgN x x.Expected[i] : Nat) : Int)) = true
        simp; omega, cond_true, req_pos (by simp; omega), i64_add1 k (by omega)]
      rw [List.getElem_range]
      exact ⟨rfl, by simp; omega⟩)
    (fun b hI => by
      rw [List.length_range]
      unfold top_pagesOf_l3
      simp only []
      rw [ix_nat x.Expected i hi, req_pos ⟨he.2.2.1, he.2.2.2⟩]
      rw [show decide (((pgN x x.Expected[i] : Nat) : Int) < (((ix x.Booklets x.Expected[i].Variant).Pages).length : Int)) = false by
        show decide (((pgN x x.Expected[i] : Nat) : Int) < ((pgN x x.Expected[i] : Nat) : Int)) = false
        simp, cond_false])
    out ho
  rw [this]
  congr 1
  exact foldl_one (fun k : Nat => (⟨x.Number, x.Expected[i].Candidate, (k : Int), x.Expected[i].Variant⟩ : api_Label)) (List.range (pgN x x.Expected[i])) out
theorem pages_ok {x : api_Sitting} (hx : okSit x) : ∃ L, top_pagesOf x = some L ∧ (∀ l ∈ L, okLabel l) ∧ L.Pairwise (· ≠ ·) ∧ L.length ≤ 100 := by
  have hp : ∀ e ∈ x.Expected, pgN x e ≤ 12 := fun e h => by
    have he := hx.e e h
    unfold pgN
    exact hx.pg _ (ix_mem _ _ he.2.2.1 he.2.2.2)
  have h1 := iter_fold x.Expected (top_pagesOf_l4 x) (fun b e => b ++ rowL x e) (fun b => b) (fun k b => b.length ≤ 12 * k)
    (fun k b hk hI => by
      have hel := hx.el
      unfold top_pagesOf_l4 top_pagesOf_j2
      simp only []
      rw [show decide ((k : Int) < (x.Expected.length : Int)) = true by simp; omega, cond_true, req_pos ⟨by omega, by omega⟩, pages_row hx k hk b (by omega), Option.bind_some, i64_add1 k (by omega)]
      refine ⟨rfl, ?_⟩
      have := hp _ (List.getElem_mem hk)
      rw [List.length_append]
      unfold rowL
      rw [List.length_map, List.length_range]
      omega)
    (fun b hI => by
      unfold top_pagesOf_l4
      simp only []
      rw [show decide ((x.Expected.length : Int) < (x.Expected.length : Int)) = false by simp, cond_false]) [] (by simp)
  rw [foldl_app, List.nil_append] at h1
  refine ⟨x.Expected.flatMap (rowL x), ?_, ?_, ?_, ?_⟩
  · unfold top_pagesOf top_pagesOf_j1
    rw [h1, Option.bind_some]
  · intro l hl
    obtain ⟨e, h2, h3⟩ := List.mem_flatMap.1 hl
    unfold rowL at h3
    obtain ⟨k, h4, rfl⟩ := List.mem_map.1 h3
    have h5 := List.mem_range.1 h4
    have h6 := hp e h2
    have h7 := hx.e e h2
    have h8 := hx.b2
    exact ⟨hx.n1, hx.n2, h7.1, by show e.Candidate ≤ 9999; omega, by show 0 ≤ (k : Int); omega, by show (k : Int) < 32; omega, h7.2.2.1, by show e.Variant < 32; omega⟩
  · rw [List.pairwise_flatMap]
    refine ⟨fun e _ => ?_, hx.dis.imp ?_⟩
    · unfold rowL
      rw [List.pairwise_map]
      refine List.nodup_range.imp ?_
      intro a b hne e
      apply hne
      injection e with _ _ e3 _
      omega
    · intro a b hne u hu v hv e
      apply hne
      unfold rowL at hu hv
      obtain ⟨k, _, rfl⟩ := List.mem_map.1 hu
      obtain ⟨m, _, rfl⟩ := List.mem_map.1 hv
      injection e
  · have : ∀ l : List api_Expected, (∀ e ∈ l, pgN x e ≤ 12) → (l.flatMap (rowL x)).length ≤ 12 * l.length := by
      intro l
      induction l with
      | nil => intro _; simp
      | cons e l ih =>
        intro h
        rw [List.flatMap_cons, List.length_append, List.length_cons]
        have := ih (fun e he => h e (by simp [he]))
        have h2 := h e (by simp)
        unfold rowL at this ⊢
        rw [List.length_map, List.length_range]
        omega
    have h2 := this x.Expected hp
    have := hx.el
    omega
theorem label_eta {l : api_Label} (h : okLabel l) : (⟨(l.Paper.toNat : Int), (l.Candidate.toNat : Int), (l.Page.toNat : Int), (l.Variant.toNat : Int)⟩ : api_Label) = l := by
  obtain ⟨a1, a2, a3, a4, a5, a6, a7, a8⟩ := h
  rw [Int.toNat_of_nonneg a1, Int.toNat_of_nonneg a3, Int.toNat_of_nonneg a5, Int.toNat_of_nonneg a7]
theorem wordL_len {l : api_Label} (h : okLabel l) : (wordL l).length = 12 := by
  unfold wordL
  rw [List.length_map]; exact (codeL_ok h).2.2
theorem apart {L : List api_Label} (hL : ∀ l ∈ L, okLabel l) (hd : L.Pairwise (· ≠ ·)) (hn : L.length ≤ 100) (i : Nat) (hi : i < L.length) :
    iter (top_TopLabels_l4 ((L.take i).map wordL) (wordL L[i])) (0 : Int) = some (.inl ()) := by
  have hlen : ((L.take i).map wordL).length = i := by rw [List.length_map, List.length_take]; omega
  have := iter_scan ((L.take i).map wordL) (top_TopLabels_l4 ((L.take i).map wordL) (wordL L[i])) (fun _ => false) (fun _ => .inl ()) (.inl ()) (fun k hk => by
    rw [hlen] at hk
    have hk' : k < L.length := by omega
    have hne : L[i] ≠ L[k] := fun e => (List.pairwise_iff_getElem.1 hd k i hk' hi hk) e.symm
    have hw : ix ((L.take i).map wordL) (k : Int) = wordL L[k] := by
      rw [ix_nat _ k (by omega), List.getElem_map, List.getElem_take]
    unfold top_TopLabels_l4
    rw [hlen, show decide ((k : Int) < (i : Int)) = true by simp; omega, cond_true, req_pos ⟨by omega, by omega⟩, hw, dist_eq _ _ (wordL_len (hL _ (List.getElem_mem hi))) (wordL_len (hL _ (List.getElem_mem hk'))), Option.bind_some]
    have hf := far (hL _ (List.getElem_mem hi)) (hL _ (List.getElem_mem hk')) hne
    rw [decide_eq_false (by omega), cond_false, i64_add1 k (by omega)]
    simp) (by
    unfold top_TopLabels_l4
    rw [show decide ((((L.take i).map wordL).length : Int) < (((L.take i).map wordL).length : Int)) = false by simp, cond_false])
  rw [this]
  have : ((L.take i).map wordL).find? (fun _ => false) = none := by simp
  rw [this]
theorem labels_ok {L : List api_Label} (hL : ∀ l ∈ L, okLabel l) (hd : L.Pairwise (· ≠ ·)) (hn : L.length ≤ 100) : ∀ (m i : Nat) (t : make_Tape), L.length - i = m → i ≤ L.length → TOK t →
    iter (top_TopLabels_l5 L) ((i : Int), (L.take i).map wordL, t.L, t.At) = some (.inl ()) := by
  intro m
  induction m with
  | zero =>
    intro i t hm hi ht
    have : i = L.length := by omega
    subst this
    refine iter_inr ?_
    unfold top_TopLabels_l5
    simp only []
    rw [show decide ((L.length : Int) < (L.length : Int)) = false by simp, cond_false]
  | succ m ih =>
    intro i t hm hi ht
    have hi' : i < L.length := by omega
    have hl := hL _ (List.getElem_mem hi')
    obtain ⟨c1, c2, c3⟩ := codeL_ok hl
    obtain ⟨a1, a2, a3, a4, a5, a6, a7, a8⟩ := id hl
    have hn' := hn
    obtain ⟨y, t', d1, d2, e, d3⟩ := damage_ok (pa := L[i].Paper.toNat) (ca := L[i].Candidate.toNat) (pg := L[i].Page.toNat) (va := L[i].Variant.toNat) t ht (by omega) (by omega) (by omega) (by omega)
    rw [label_eta hl] at d3
    have htake : (L.take (i + 1)).map wordL = (L.take i).map wordL ++ [wordL L[i]] := by
      rw [List.take_succ, List.getElem?_eq_getElem hi', List.map_append]; rfl
    have hlen : ((L.take i).map wordL).length = i := by rw [List.length_map, List.length_take]; omega
    rw [iter_inl, ih (i + 1) t' (by omega) (by omega) d2]
    unfold top_TopLabels_l5
    simp only []
    rw [show decide ((i : Int) < (L.length : Int)) = true by simp; omega, cond_true, req_pos ⟨by omega, by omega⟩, ix_nat L i hi', draw_eq hl, Option.bind_some]
    simp only []
    rw [word_draw c3 c1, Option.bind_some]
    simp only []
    rw [codeword_eq c3 c2, req_pos (by intro _; rfl), draw_len c3]
    rw [show ((((0 : Int) != 0) || ((0 : Int) != 0)) || (((74 : Nat) : Int) != 74)) = false from rfl, Bool.false_or]
    rw [show (!((some true : Option Bool).getD default)) = false from rfl, cond_false]
    have hap := apart hL hd hn i hi'
    unfold wordL at hap
    rw [show (wordL : api_Label → List Int) = fun l => (codeL l).map fun x : Nat => (x : Int) from rfl]
    rw [hap, Option.bind_some]
    simp only []
    unfold top_TopLabels_j3 top_TopLabels_j2
    rw [req_pos (by simp; omega), tmk]
    unfold codeL
    rw [d1, Option.bind_some]
    simp only []
    rw [d3, Option.bind_some]
    simp only []
    rw [req_pos (by intro _; omega), ix_nat L i hi', i64_add1 i (by omega)]
    have hb : ((L[i].Paper == L[i].Paper) && ((L[i].Candidate == L[i].Candidate) && ((L[i].Page == L[i].Page) && (L[i].Variant == L[i].Variant)))) = true := by simp
    rw [hb, show (((0 : Int) != 0) || (!true)) = false from rfl, cond_false, List.take_succ, List.getElem?_eq_getElem hi', List.map_append]
    rfl
theorem pure_TopLabels (t : List Int) : top_TopLabels t = some true := by
  obtain ⟨t0, e0, k0⟩ := new_ok t
  obtain ⟨x, t1, e1, k1, hx⟩ := sitting_ok t0 k0
  obtain ⟨L, e2, hL, hd, hn⟩ := pages_ok hx
  have h := labels_ok hL hd hn _ 0 t1 rfl (by omega) k1
  rw [show ((0 : Nat) : Int) = 0 from rfl, show (L.take 0).map wordL = [] from rfl] at h
  unfold top_TopLabels
  rw [e0, Option.bind_some, e1, Option.bind_some]
  simp only []
  rw [e2, Option.bind_some, h, Option.bind_some]
  simp only []
  unfold top_TopLabels_j1
  rw [awake_ok]
  rfl
end Go.LS
