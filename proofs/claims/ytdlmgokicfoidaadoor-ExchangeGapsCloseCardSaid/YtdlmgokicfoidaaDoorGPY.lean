/-
  Law 03: GapsClose. No condition.
-/
import Derived.Test.YtdlmgokicfoidaaDoorGD1
namespace Go.LS
set_option linter.all false
set_option linter.unusedSimpArgs false
set_option linter.unusedVariables false
set_option maxRecDepth 20000
theorem ix_nat {α : Type} [Inhabited α] (l : List α) (k : Nat) (h : k < l.length) : ix l (k : Int) = l[k] := by simp [ix, List.getD, h]
theorem ix_mem {α : Type} [Inhabited α] (l : List α) (n : Int) (h0 : 0 ≤ n) (h : n < l.length) : ix l n ∈ l := by
  have : n.toNat < l.length := by omega
  simp [ix, List.getD, this]
theorem i64_add1 (k : Nat) (h : k < 4611686018427387904) : IntKind.i64.wrap ((k : Int) + 1) = ((k + 1 : Nat) : Int) := by
  rw [wrap64 (by omega) (by omega)]; omega
theorem i64_id {n : Int} (h1 : -9223372036854775808 ≤ n) (h2 : n < 9223372036854775808) : IntKind.i64.wrap n = n := wrap64 h1 h2

theorem iter_fold {α β ρ : Type} (l : List α) (f : Int × β → Option ((Int × β) ⊕ ρ)) (g : β → α → β) (fin : β → ρ) (I : Nat → β → Prop)
    (hstep : ∀ (k : Nat) (b : β) (hk : k < l.length), I k b → f ((k : Int), b) = some (.inl (((k + 1 : Nat) : Int), g b l[k])) ∧ I (k + 1) (g b l[k]))
    (hend : ∀ b, I l.length b → f ((l.length : Int), b) = some (.inr (fin b))) (b : β) (h0 : I 0 b) : iter f ((0 : Int), b) = some (fin (l.foldl g b)) := by
  have key : ∀ (n k : Nat) (b : β), l.length - k = n → k ≤ l.length → I k b → iter f ((k : Int), b) = some (fin ((l.drop k).foldl g b)) := by
    intro n
    induction n with
    | zero =>
      intro k b hn hk hI
      have : k = l.length := by omega
      subst this
      rw [iter_inr (hend b hI), List.drop_length]; rfl
    | succ n ih =>
      intro k b hn hk hI
      have hk' : k < l.length := by omega
      obtain ⟨h1, h2⟩ := hstep k b hk' hI
      rw [iter_inl h1, ih (k + 1) _ (by omega) (by omega) h2, List.drop_eq_getElem_cons hk']; rfl
  have := key _ 0 b rfl (by omega) h0
  simpa using this
theorem iter_scan {α ρ : Type} (l : List α) (f : Int → Option (Int ⊕ ρ)) (p : α → Bool) (hit : α → ρ) (miss : ρ)
    (hstep : ∀ (k : Nat) (hk : k < l.length), f (k : Int) = some (if p l[k] = true then .inr (hit l[k]) else .inl ((k + 1 : Nat) : Int)))
    (hend : f (l.length : Int) = some (.inr miss)) : iter f (0 : Int) = some (match l.find? p with | some a => hit a | none => miss) := by
  have key : ∀ (n k : Nat), l.length - k = n → k ≤ l.length → iter f (k : Int) = some (match (l.drop k).find? p with | some a => hit a | none => miss) := by
    intro n
    induction n with
    | zero =>
      intro k hn hk
      have : k = l.length := by omega
      subst this
      rw [iter_inr hend, List.drop_length]; rfl
    | succ n ih =>
      intro k hn hk
      have hk' : k < l.length := by omega
      have h1 := hstep k hk'
      rw [List.drop_eq_getElem_cons hk', List.find?_cons]
      cases hp : p l[k] with
      | true => rw [hp, if_pos rfl] at h1; rw [iter_inr h1]
      | false => rw [hp, if_neg (by simp)] at h1; rw [iter_inl h1, ih (k + 1) (by omega) (by omega)]
  have := key _ 0 rfl (by omega)
  simpa using this
theorem find_any {α β : Type} (l : List α) (p : α → Bool) (x y : β) : (match l.find? p with | some _ => x | none => y) = if l.any p = true then x else y := by
  cases h : l.find? p with
  | none =>
    rw [List.find?_eq_none] at h
    have : l.any p = false := by rw [List.any_eq_false]; exact h
    simp [this]
  | some a =>
    have : l.any p = true := List.any_eq_true.2 ⟨a, List.mem_of_find?_eq_some h, List.find?_some h⟩
    simp [this]

theorem bOr_nat (a b : Nat) (ha : a < 9223372036854775808) (hb : b < 9223372036854775808) : bOr .i64 (a : Int) (b : Int) = ((a ||| b : Nat) : Int) := by
  have h := Nat.or_lt_two_pow (n := 63) (by simpa using ha) (by simpa using hb)
  have e : ∀ n : Nat, n < 9223372036854775808 → (BitVec.ofInt (IntKind.bits .i64) (n : Int)).toNat = n := fun n hn => by
    simp only [IntKind.bits, BitVec.toNat_ofInt]; omega
  unfold bOr
  rw [BitVec.toNat_or, e a ha, e b hb, wrap64 (by omega) (by omega)]
theorem bAnd_nat (a b : Nat) (ha : a < 9223372036854775808) (hb : b < 9223372036854775808) : bAnd .i64 (a : Int) (b : Int) = ((a &&& b : Nat) : Int) := by
  have h : a &&& b ≤ a := Nat.and_le_left
  have e : ∀ n : Nat, n < 9223372036854775808 → (BitVec.ofInt (IntKind.bits .i64) (n : Int)).toNat = n := fun n hn => by
    simp only [IntKind.bits, BitVec.toNat_ofInt]; omega
  unfold bAnd
  rw [BitVec.toNat_and, e a ha, e b hb, wrap64 (by omega) (by omega)]
structure TOK (t : make_Tape) : Prop where
  len : t.L.length ≤ 600
  lo : 0 ≤ t.At
  hi : t.At ≤ t.L.length
theorem new_ok (l : List Int) : ∃ t, make_New l = some t ∧ TOK t := by
  unfold make_New make_New_j1
  rcases bcases (decide ((600 : Int) < (l.length : Int))) with h | h <;> rw [h]
  · have h' : (600 : Int) < l.length := by simpa using h
    refine ⟨_, by rw [cond_true, req_pos (by omega)], ?_⟩
    exact ⟨by simp; omega, by simp, by simp⟩
  · have h' : (l.length : Int) ≤ 600 := by simpa using h
    exact ⟨_, by rw [cond_false], ⟨by simp; omega, by simp, by simp⟩⟩
theorem cut_ok (x n : Int) (h : n ≤ 4611686018427387904) : ∃ y, make_Cut x n = some y ∧ 0 ≤ y ∧ (1 ≤ n → y < n) ∧ (n < 1 → y = 0) := by
  unfold make_Cut make_Cut_j1
  rcases bcases (decide (n < (1 : Int))) with hc | hc <;> rw [hc]
  · have : n < 1 := by simpa using hc
    exact ⟨0, rfl, by omega, by omega, fun _ => rfl⟩
  · have h1 : 1 ≤ n := by simpa using hc
    rw [cond_false, req_pos (by omega)]
    have h3 := Int.tmod_lt_of_pos x (show 0 < n by omega)
    have h4 : -n < x.tmod n := Int.lt_tmod_of_pos x (show 0 < n by omega)
    rcases bcases (decide (Int.tmod x n < (0 : Int))) with hd | hd <;> rw [hd]
    · have : x.tmod n < 0 := by simpa using hd
      exact ⟨_, rfl, by rw [wrap64 (by omega) (by omega)]; omega, by rw [wrap64 (by omega) (by omega)]; omega, by omega⟩
    · have : 0 ≤ x.tmod n := by simpa using hd
      exact ⟨_, rfl, this, fun _ => h3, by omega⟩
theorem raw_ok (t : make_Tape) (h : TOK t) : ∃ y t', make_Tape_Raw t = some (y, t') ∧ TOK t' := by
  obtain ⟨h1, h2, h3⟩ := h
  unfold make_Tape_Raw
  rcases bcases (decide ((t.L.length : Int) ≤ t.At)) with hc | hc <;> rw [hc]
  · exact ⟨_, _, rfl, h1, h2, h3⟩
  · have hlt : t.At < t.L.length := by simpa using hc
    rw [cond_false, wrap64 (n := t.At + 1) (by omega) (by omega), wrap64 (by omega) (by omega), req_pos (by omega)]
    exact ⟨_, _, rfl, h1, by show 0 ≤ t.At + 1; omega, by show t.At + 1 ≤ (t.L.length : Int); omega⟩
theorem next_ok (t : make_Tape) (n : Int) (h : TOK t) (hn : n ≤ 4611686018427387904) : ∃ y t', make_Tape_Next t n = some (y, t') ∧ TOK t' ∧ 0 ≤ y ∧ (1 ≤ n → y < n) ∧ (n < 1 → y = 0) := by
  obtain ⟨y, t', e1, h1⟩ := raw_ok t h
  obtain ⟨z, e2, h2⟩ := cut_ok y n hn
  exact ⟨z, t', by unfold make_Tape_Next; rw [e1]; simp only [Option.bind]; rw [e2], h1, h2⟩
theorem range_ok (t : make_Tape) (lo hi : Int) (h : TOK t) (h1 : -1152921504606846976 ≤ lo) (h2 : hi ≤ 1152921504606846976) (h3 : lo ≤ hi) : ∃ y t', make_Tape_Range t lo hi = some (y, t') ∧ TOK t' ∧ lo ≤ y ∧ y ≤ hi := by
  obtain ⟨y, t', e1, h4, h5, h6, h7⟩ := next_ok t (hi - lo + 1) h (by omega)
  refine ⟨lo + y, t', ?_, h4, by omega, by have := h6 (by omega); omega⟩
  unfold make_Tape_Range
  rw [wrap64 (n := hi - lo) (by omega) (by omega), wrap64 (by omega) (by omega), e1]
  simp only [Option.bind]
  rw [wrap64 (by omega) (by have := h6 (by omega); omega)]
theorem one_ok (t : make_Tape) (n : Int) (h : TOK t) (hn : n ≤ 4611686018427387904) : ∃ y t', make_Tape_One t n = some (y, t') ∧ TOK t' := by
  obtain ⟨y, t', e1, h1, _⟩ := next_ok t n h hn
  exact ⟨_, t', by unfold make_Tape_One; rw [e1]; rfl, h1⟩
theorem pick_ok (t : make_Tape) (l : List Int) (h : TOK t) (h1 : 1 ≤ l.length) (h2 : l.length ≤ 1000) : ∃ y t', make_Tape_Pick t l = some (y, t') ∧ TOK t' ∧ y ∈ l := by
  obtain ⟨y, t', e1, h3, h4, h5, _⟩ := next_ok t l.length h (by omega)
  have h6 := h5 (by omega)
  exact ⟨_, t', by unfold make_Tape_Pick; rw [e1]; simp only [Option.bind]; rw [req_pos ⟨h4, h6⟩], h3, ix_mem l y h4 h6⟩
theorem tmk (t : make_Tape) : make_Tape.mk t.L t.At = t := rfl
theorem some_bind {α β : Type} (x : α) (f : α → Option β) : (some x).bind f = f x := rfl
theorem sx_nat (s : Str) (k : Nat) (h : k < s.length) : sx s (k : Int) = ((s[k].toNat : Nat) : Int) := by
  unfold sx
  rw [Int.toNat_natCast]
  simp [List.getD, h]
theorem iter_up {σ ρ : Type} (f : σ → Option (σ ⊕ ρ)) (st : Nat → σ) (n : Nat) (r : ρ) (hstep : ∀ k, k < n → f (st k) = some (.inl (st (k + 1)))) (hend : f (st n) = some (.inr r)) : iter f (st 0) = some r := by
  have key : ∀ m k, n - k = m → k ≤ n → iter f (st k) = some r := by
    intro m
    induction m with
    | zero =>
      intro k h1 h2
      have : k = n := by omega
      subst this
      exact iter_inr hend
    | succ m ih =>
      intro k h1 h2
      rw [iter_inl (hstep k (by omega))]
      exact ih (k + 1) (by omega) (by omega)
  exact key n 0 (by omega) (by omega)
theorem tmod_nat (a b : Nat) : Int.tmod (a : Int) (b : Int) = ((a % b : Nat) : Int) := rfl
theorem lt_t {a b : Nat} (h : a < b) : decide ((a : Int) < (b : Int)) = true := by simpa using h
theorem lt_f {a b : Nat} (h : b ≤ a) : decide ((a : Int) < (b : Int)) = false := by simpa using h
def badK (c : UInt8) : Bool := decide (((c.toNat : Nat) : Int) < 65) || decide ((90 : Int) < ((c.toNat : Nat) : Int))
def badF (c : UInt8) : Bool := (((c.toNat : Nat) : Int) != 10) && (decide (((c.toNat : Nat) : Int) < 32) || decide ((126 : Int) < ((c.toNat : Nat) : Int)))
def kindB (s : Str) : Bool := if 1 ≤ s.length ∧ s.length ≤ 8 then !(s.any badK) else false
def headB (k : Str) (so nu : Int) : Bool := kindB k && (((decide ((0 : Int) ≤ so) && decide (so ≤ 99)) && decide ((0 : Int) ≤ nu)) && decide (nu ≤ 9999))
def fieldB (s : Str) : Bool := if s.length ≤ 40 then !(s.any badF) else false
def rowB (r : List Str) : Bool := if 1 ≤ r.length ∧ r.length ≤ 8 then !(r.any fun f => !(fieldB f)) else false
def rowsB (l : List (List Str)) : Bool := if l.length ≤ 40 then !(l.any fun r => !(rowB r)) else false
def validB (f : api_File) : Bool := headB f.Kind f.Source f.Number && rowsB f.Rows
theorem kind_loop (s : Str) (hs : s.length ≤ 8) : iter (exchange_validHead_l2 s) (0 : Int) = some (if s.any badK = true then .inr false else .inl ()) := by
  have h := iter_scan s (exchange_validHead_l2 s) badK (fun _ => Sum.inr false) (Sum.inl ()) (fun k hk => by
    simp only [exchange_validHead_l2]
    rw [lt_t hk, cond_true, req_pos ⟨by omega, fun _ => by omega⟩, sx_nat s k hk]
    show (bif badK s[k] then _ else _) = _
    rcases bcases (badK s[k]) with h | h <;> rw [h]
    · rfl
    · rw [cond_false, i64_add1 k (by omega)]; rfl) (by
    simp only [exchange_validHead_l2]
    rw [lt_f (Nat.le_refl _), cond_false])
  rw [h, find_any]
theorem validHead_eq (k : Str) (so nu : Int) : exchange_validHead k so nu = some (headB k so nu) := by
  unfold exchange_validHead headB kindB
  by_cases hl : 1 ≤ k.length ∧ k.length ≤ 8
  · rw [show (decide ((k.length : Int) < 1) || decide ((8 : Int) < (k.length : Int))) = false by simp only [Bool.or_eq_false_iff, decide_eq_false_iff_not]; omega, cond_false, kind_loop k hl.2, some_bind, if_pos hl]
    rcases bcases (k.any badK) with h | h <;> rw [h]
    · rfl
    · simp only [exchange_validHead_j1, Bool.false_eq_true, if_false, Bool.not_false, Bool.true_and]
  · rw [show (decide ((k.length : Int) < 1) || decide ((8 : Int) < (k.length : Int))) = true by simp only [Bool.or_eq_true, decide_eq_true_eq]; omega, cond_true, if_neg hl]; rfl
theorem field_loop (s : Str) (hs : s.length ≤ 40) : iter (exchange_validField_l2 s) (0 : Int) = some (if s.any badF = true then .inr false else .inl ()) := by
  have h := iter_scan s (exchange_validField_l2 s) badF (fun _ => Sum.inr false) (Sum.inl ()) (fun k hk => by
    simp only [exchange_validField_l2]
    rw [lt_t hk, cond_true, req_pos (by omega), sx_nat s k hk]
    show (bif badF s[k] then _ else _) = _
    rcases bcases (badF s[k]) with h | h <;> rw [h]
    · rfl
    · rw [cond_false, i64_add1 k (by omega)]; rfl) (by
    simp only [exchange_validField_l2]
    rw [lt_f (Nat.le_refl _), cond_false])
  rw [h, find_any]
theorem len40 (n : Nat) : decide ((40 : Int) < (n : Int)) = !(decide (n ≤ 40)) := by
  by_cases h : n ≤ 40 <;> simp [h] <;> omega
theorem validField_eq (s : Str) : exchange_validField s = some (fieldB s) := by
  unfold exchange_validField fieldB
  by_cases hl : s.length ≤ 40
  · rw [len40, decide_eq_true hl, Bool.not_true, cond_false, field_loop s hl, some_bind, if_pos hl]
    rcases bcases (s.any badF) with h | h <;> rw [h] <;> rfl
  · rw [len40, decide_eq_false hl, Bool.not_false, cond_true, if_neg hl]
theorem row_loop (f : api_File) (v : Nat) (hv : v < f.Rows.length) (hs : f.Rows[v].length ≤ 8) : iter (exchange_Valid_l3 f (v : Int)) (0 : Int) = some (if (f.Rows[v].any fun x => !(fieldB x)) = true then .inr (.inr (.inr false)) else .inl ()) := by
  have hr : ix f.Rows (v : Int) = f.Rows[v] := ix_nat _ _ hv
  have h := iter_scan f.Rows[v] (exchange_Valid_l3 f (v : Int)) (fun x => !(fieldB x)) (fun _ => Sum.inr (.inr (.inr false))) (Sum.inl ()) (fun k hk => by
    simp only [exchange_Valid_l3]
    rw [hr, lt_t hk, cond_true, req_pos (by omega), ix_nat _ _ hk, validField_eq, some_bind]
    rcases bcases (fieldB f.Rows[v][k]) with h | h <;> simp only [h, Bool.not_true, Bool.not_false, cond_true, cond_false]
    · rw [i64_add1 k (by omega)]; rfl
    · rfl) (by
    simp only [exchange_Valid_l3]
    rw [hr, lt_f (Nat.le_refl _), cond_false])
  rw [h, find_any]
theorem len18 (n : Nat) : (decide ((n : Int) < 1) || decide ((8 : Int) < (n : Int))) = !(decide (1 ≤ n ∧ n ≤ 8)) := by
  by_cases h : 1 ≤ n ∧ n ≤ 8
  · rw [decide_eq_true h, Bool.not_true]; simp only [Bool.or_eq_false_iff, decide_eq_false_iff_not]; omega
  · rw [decide_eq_false h, Bool.not_false]; simp only [Bool.or_eq_true, decide_eq_true_eq]; omega
theorem rows_loop (f : api_File) (hs : f.Rows.length ≤ 40) : iter (exchange_Valid_l4 f) (0 : Int) = some (if (f.Rows.any fun r => !(rowB r)) = true then .inr false else .inl ()) := by
  have h := iter_scan f.Rows (exchange_Valid_l4 f) (fun r => !(rowB r)) (fun _ => Sum.inr false) (Sum.inl ()) (fun k hk => by
    simp only [exchange_Valid_l4]
    rw [lt_t hk, cond_true, req_pos (by omega), ix_nat _ _ hk, len18]
    unfold rowB
    by_cases hl : 1 ≤ f.Rows[k].length ∧ f.Rows[k].length ≤ 8
    · rw [decide_eq_true hl, Bool.not_true, cond_false, row_loop f k hk hl.2, some_bind, if_pos hl]
      rcases bcases (f.Rows[k].any fun x => !(fieldB x)) with h | h <;> simp only [h]
      · rfl
      · simp only [exchange_Valid_j2, Bool.false_eq_true, if_false, Bool.not_false, Bool.not_true]
        rw [i64_add1 k (by omega)]
    · rw [decide_eq_false hl, Bool.not_false, cond_true, if_neg hl]; rfl) (by
    simp only [exchange_Valid_l4]
    rw [lt_f (Nat.le_refl _), cond_false])
  rw [h, find_any]
theorem valid_eq (f : api_File) : exchange_Valid f = some (validB f) := by
  unfold exchange_Valid validB
  rw [validHead_eq, some_bind]
  rcases bcases (headB f.Kind f.Source f.Number) with h | h <;> rw [h]
  · rw [Bool.not_true, Bool.false_or, len40, Bool.true_and]
    unfold rowsB
    by_cases hl : f.Rows.length ≤ 40
    · rw [decide_eq_true hl, Bool.not_true, cond_false, rows_loop f hl, some_bind, if_pos hl]
      rcases bcases (f.Rows.any fun r => !(rowB r)) with h | h <;> simp only [h] <;> rfl
    · rw [decide_eq_false hl, Bool.not_false, cond_true, if_neg hl]
  · rw [Bool.not_false, Bool.true_or, cond_true, Bool.false_and]
def wsum : Str → Nat → Nat
  | [], _ => 0
  | c :: l, i => (i % 251 + 1) * c.toNat + wsum l (i + 1)
theorem wsum_append : ∀ (a b : Str) (i : Nat), wsum (a ++ b) i = wsum a i + wsum b (i + a.length)
  | [], b, i => by simp [wsum]
  | c :: a, b, i => by
    simp only [List.cons_append, wsum, List.length_cons]
    rw [wsum_append a b (i + 1), show i + 1 + a.length = i + (a.length + 1) by omega]
    omega
theorem wsum_snoc (a : Str) (c : UInt8) (i : Nat) : wsum (a ++ [c]) i = wsum a i + ((i + a.length) % 251 + 1) * c.toNat := by
  rw [wsum_append]; simp [wsum]
def chkN (s : Str) : Nat := wsum s 0 % 9973
theorem chkN_lt (s : Str) : chkN s < 9973 := Nat.mod_lt _ (by decide)
theorem check_loop (s : Str) (hs : s.length ≤ 4000000000) : iter (exchange_Check_l2 s) ((0 : Int), (0 : Int)) = some ((chkN s : Nat) : Int) := by
  refine iter_up (exchange_Check_l2 s) (fun k => (((chkN (s.take k) : Nat) : Int), (k : Int))) s.length _ (fun k hk => ?_) ?_
  · simp only [exchange_Check_l2]
    rw [lt_t hk, cond_true, req_pos (by omega), sx_nat s k hk]
    unfold bindV
    have hc : s[k].toNat < 256 := UInt8.toNat_lt s[k]
    have h1 := chkN_lt (s.take k)
    have e1 : Int.tmod (k : Int) 251 = ((k % 251 : Nat) : Int) := tmod_nat k 251
    have hm := Nat.mod_lt k (show 0 < 251 by decide)
    have e2 : ((k % 251 : Nat) : Int) + 1 = ((k % 251 + 1 : Nat) : Int) := by omega
    have hp : (k % 251 + 1) * s[k].toNat ≤ 251 * 255 := Nat.mul_le_mul (by omega) (by omega)
    rw [e1, e2, wrap64 (n := ((k % 251 + 1 : Nat) : Int)) (by omega) (by omega), wrap64 (n := ((s[k].toNat : Nat) : Int)) (by omega) (by omega), ← Int.natCast_mul, wrap64 (n := (((k % 251 + 1) * s[k].toNat : Nat) : Int)) (by omega) (by omega),
      ← Int.natCast_add, wrap64 (n := ((chkN (s.take k) + (k % 251 + 1) * s[k].toNat : Nat) : Int)) (by omega) (by omega), i64_add1 k (by omega), show Int.tmod ((chkN (s.take k) + (k % 251 + 1) * s[k].toNat : Nat) : Int) 9973 = _ from tmod_nat _ 9973]
    have e4 : chkN (s.take (k + 1)) = (chkN (s.take k) + (k % 251 + 1) * s[k].toNat) % 9973 := by
      unfold chkN
      rw [List.take_succ_eq_append_getElem hk, wsum_snoc, Nat.zero_add, List.length_take, Nat.min_eq_left (by omega)]
      omega
    show some _ = some (Sum.inl (((chkN (s.take (k + 1)) : Nat) : Int), ((k + 1 : Nat) : Int)))
    rw [e4]
  · simp only [exchange_Check_l2]
    rw [lt_f (Nat.le_refl _), cond_false, List.take_length]
theorem check_eq (s : Str) (hs : s.length ≤ 4000000000) : exchange_Check s = some ((chkN s : Nat) : Int) := by
  unfold exchange_Check
  rw [check_loop s hs]; rfl
open Go.Proofs
abbrev dd (n : Nat) : Str := Lib.decDigits n
def ch (d : Nat) : UInt8 := UInt8.ofNat (48 + d)
theorem ch_nat (d : Nat) (h : d < 10) : (ch d).toNat = 48 + d := by unfold ch; rw [UInt8.toNat_ofNat']; omega
theorem dd_small {n : Nat} (h : n < 10) : dd n = [ch n] := by unfold dd; rw [Lib.decDigits, dif_pos h]; rfl
theorem dd_big {n : Nat} (h : ¬ n < 10) : dd n = dd (n / 10) ++ [ch (n % 10)] := by
  show Lib.decDigits n = _
  rw [Lib.decDigits, dif_neg h]; rfl
theorem dd_pos (n : Nat) : 1 ≤ (dd n).length := by
  by_cases h : n < 10
  · rw [dd_small h]; simp
  · rw [dd_big h]; simp
theorem dd_len (k : Nat) : ∀ n : Nat, 1 ≤ k → n < 10 ^ k → (dd n).length ≤ k := by
  induction k with
  | zero => intro n h; omega
  | succ k ih =>
    intro n _ hn
    by_cases h : n < 10
    · rw [dd_small h]; simp
    · rw [dd_big h, List.length_append]
      have hk : 1 ≤ k := by
        rcases Nat.eq_zero_or_pos k with g | g
        · subst g; simp at hn; omega
        · exact g
      have := ih (n / 10) hk (by rw [Nat.pow_succ] at hn; omega)
      simp; omega
theorem itoa_nat (n : Nat) : Lib.itoa (n : Int) = dd n := by
  unfold Lib.itoa
  rw [if_neg (by omega)]; rfl
theorem strOf_ch (d : Nat) (h : d < 10) : strOf [IntKind.u8.wrap (IntKind.i64.wrap ((48 : Int) + (d : Int)))] = [ch d] := by
  rw [show (48 : Int) + (d : Int) = ((48 + d : Nat) : Int) by omega, wrap64 (by omega) (by omega)]
  have : IntKind.u8.wrap ((48 + d : Nat) : Int) = ((48 + d : Nat) : Int) := by
    simp only [IntKind.wrap, IntKind.bits, IntKind.signed]; simp; omega
  rw [this]; rfl
theorem drop_take1 (s : Str) (k : Nat) (hk : k < s.length) : (s.take (k + 1)).drop k = [s[k]] := by
  rw [List.take_succ_eq_append_getElem hk, List.drop_append]
  simp [Nat.min_eq_left (Nat.le_of_lt hk)]
theorem eq_byte (c : UInt8) (n : Nat) (hn : n < 256) : (((c.toNat : Nat) : Int) == (n : Int)) = decide (c = UInt8.ofNat n) := by
  by_cases h : c = UInt8.ofNat n
  · subst h; simp [UInt8.toNat_ofNat']; omega
  · rw [decide_eq_false h, beq_eq_false_iff_ne]
    intro he
    apply h
    apply UInt8.toNat_inj.1
    rw [UInt8.toNat_ofNat']
    omega
def Small (f : api_File) : Prop := f.Kind.length ≤ 1000 ∧ f.Rows.length ≤ 1000 ∧ (∀ r ∈ f.Rows, r.length ≤ 1000) ∧ (∀ r ∈ f.Rows, ∀ x ∈ r, x.length ≤ 1000)
theorem row_small {r : List Str} (h : rowB r = true) : 1 ≤ r.length ∧ r.length ≤ 8 ∧ ∀ x ∈ r, fieldB x = true := by
  unfold rowB at h
  split at h
  · rename_i hl
    refine ⟨hl.1, hl.2, fun x hx => ?_⟩
    have h' : (r.any fun f => !(fieldB f)) = false := by simpa using h
    have := List.any_eq_false.1 h' x hx
    simpa using this
  · cases h
theorem field_small {s : Str} (h : fieldB s = true) : s.length ≤ 40 ∧ ∀ c ∈ s, badF c = false := by
  unfold fieldB at h
  split at h
  · rename_i hl
    have h' : s.any badF = false := by simpa using h
    exact ⟨hl, fun c hc => by simpa using List.any_eq_false.1 h' c hc⟩
  · cases h
theorem head_small {k : Str} {so nu : Int} (h : headB k so nu = true) : 1 ≤ k.length ∧ k.length ≤ 8 ∧ (∀ c ∈ k, badK c = false) ∧ 0 ≤ so ∧ so ≤ 99 ∧ 0 ≤ nu ∧ nu ≤ 9999 := by
  unfold headB kindB at h
  simp only [Bool.and_eq_true, decide_eq_true_eq] at h
  obtain ⟨h1, ⟨⟨h2, h3⟩, h4⟩, h5⟩ := h
  split at h1
  · rename_i hl
    have h' : k.any badK = false := by simpa using h1
    exact ⟨hl.1, hl.2, fun c hc => by simpa using List.any_eq_false.1 h' c hc, h2, h3, h4, h5⟩
  · cases h1
theorem rows_small {l : List (List Str)} (h : rowsB l = true) : l.length ≤ 40 ∧ ∀ r ∈ l, rowB r = true := by
  unfold rowsB at h
  split at h
  · rename_i hl
    have h' : (l.any fun r => !(rowB r)) = false := by simpa using h
    exact ⟨hl, fun r hr => by simpa using List.any_eq_false.1 h' r hr⟩
  · cases h
theorem valid_parts {f : api_File} (h : validB f = true) : headB f.Kind f.Source f.Number = true ∧ rowsB f.Rows = true := by
  unfold validB at h; simpa using h
theorem valid_small {f : api_File} (h : validB f = true) : Small f := by
  obtain ⟨h1, h2⟩ := valid_parts h
  obtain ⟨a1, a2, _⟩ := head_small h1
  obtain ⟨b1, b2⟩ := rows_small h2
  exact ⟨by omega, by omega, fun r hr => by have := row_small (b2 r hr); omega, fun r hr x hx => by have := field_small ((row_small (b2 r hr)).2.2 x hx); omega⟩
def bodyF (f : api_File) : Str := bodyT f.Kind f.Source f.Number f.Rows
def fullF (f : api_File) : Str := fullT f.Kind f.Source f.Number f.Rows ((chkN (bodyF f) : Nat) : Int)
def fmtP (f : api_File) : Str × Int := if validB f = false then ([], 1) else if 8192 < (fullF f).length then ([], 3) else (fullF f, 0)
theorem rowT_len8 (r : List Str) (h : rowB r = true) : (rowT r).length ≤ 4 + 8 * 81 := by
  obtain ⟨h1, h2, h3⟩ := row_small h
  have := flat_len fldT 81 r (fun x hx => by
    have := field_small (h3 x hx)
    have h2 := escP_len x
    unfold fldT; simp; omega)
  unfold rowT
  have h4 := Nat.mul_le_mul_right 81 h2
  simp only [List.length_append, List.length_cons, List.length_nil]; omega
theorem rows_len40 (l : List (List Str)) (h : rowsB l = true) : (l.flatMap rowT).length ≤ 40 * 652 := by
  obtain ⟨h1, h2⟩ := rows_small h
  have := flat_len rowT 652 l (fun r hr => rowT_len8 r (h2 r hr))
  have h4 := Nat.mul_le_mul_right 652 h1
  omega
theorem rowsB_take {l : List (List Str)} (h : rowsB l = true) (k : Nat) : rowsB (l.take k) = true := by
  obtain ⟨h1, h2⟩ := rows_small h
  unfold rowsB
  rw [if_pos (by rw [List.length_take]; omega)]
  rw [show ((l.take k).any fun r => !(rowB r)) = false from List.any_eq_false.2 fun r hr => by rw [h2 r (List.mem_of_mem_take hr)]; simp]
  rfl
theorem headT_len9 (k : Str) (so nu : Int) (h : headB k so nu = true) : (headT k so nu).length ≤ 100 := by
  obtain ⟨h1, h2, _, h3, h4, h5, h6⟩ := head_small h
  have e1 : so = ((so.toNat : Nat) : Int) := by omega
  have e2 : nu = ((nu.toNat : Nat) : Int) := by omega
  unfold headT
  rw [e1, e2, itoa_nat, itoa_nat]
  have g1 := dd_len 4 so.toNat (by omega) (by simp; omega)
  have g2 := dd_len 4 nu.toNat (by omega) (by simp; omega)
  simp; omega
theorem body_len (f : api_File) (h : validB f = true) : (bodyF f).length ≤ 26180 := by
  obtain ⟨h1, h2⟩ := valid_parts h
  have := headT_len9 _ _ _ h1
  have := rows_len40 _ h2
  unfold bodyF bodyT
  rw [List.length_append]; omega
theorem format_eq (f : api_File) (hs : Small f) (h1 : -9223372036854775808 ≤ f.Source ∧ f.Source ≤ 9223372036854775807) (h2 : -9223372036854775808 ≤ f.Number ∧ f.Number ≤ 9223372036854775807) : exchange_Format f = some (fmtP f) := by
  obtain ⟨s1, s2, s3, s4⟩ := hs
  unfold exchange_Format
  rw [req_pos ⟨s1, h1, h2, s2, s3, s4⟩, valid_eq, some_bind]
  have hb : ∃ c : Int, exchange_Check (bodyT f.Kind f.Source f.Number f.Rows) = some c ∧ -9223372036854775808 ≤ c ∧ c ≤ 9223372036854775807 ∧ (validB f = true → c = ((chkN (bodyF f) : Nat) : Int)) := by
    rcases bcases (validB f) with h | h
    · have := body_len f h
      have hc := chkN_lt (bodyF f)
      exact ⟨_, check_eq _ (by unfold bodyF at this; omega), (by have : bodyT f.Kind f.Source f.Number f.Rows = bodyF f := rfl; rw [this]; omega), (by have : bodyT f.Kind f.Source f.Number f.Rows = bodyF f := rfl; rw [this]; omega), fun _ => rfl⟩
    · have hc := chkN_lt (bodyT f.Kind f.Source f.Number f.Rows)
      have l1 := rows_len f.Rows s2 s3 s4
      have l2 := headT_len f.Kind f.Source f.Number s1 (itoa_len _ h1) (itoa_len _ h2)
      exact ⟨_, check_eq _ (by unfold bodyT; rw [List.length_append]; omega), by omega, by omega, fun _ => rfl⟩
  obtain ⟨c, e1, e2, e3, e4⟩ := hb
  rw [e1, some_bind, req_pos ⟨e2, e3⟩]
  unfold fmtP
  rcases bcases (validB f) with h | h
  · rw [e4 h, h]; rfl
  · rw [h]; rfl
open Go.Proofs
def cutL (b : UInt8) : Str → List Str
  | [] => [[]]
  | c :: l => if c = b then [] :: cutL b l else (c :: (cutL b l).headD []) :: (cutL b l).tail
theorem cutL_pos (b : UInt8) : ∀ l : Str, ∃ h t, cutL b l = h :: t
  | [] => ⟨_, _, rfl⟩
  | c :: l => by
    unfold cutL
    split
    · exact ⟨_, _, rfl⟩
    · exact ⟨_, _, rfl⟩
theorem cutL_miss {b : UInt8} : ∀ {a : Str}, (∀ c ∈ a, c ≠ b) → cutL b a = [a]
  | [], _ => rfl
  | c :: a, h => by
    unfold cutL
    rw [if_neg (h c (List.mem_cons_self ..)), cutL_miss fun x hx => h x (List.mem_cons_of_mem _ hx)]
    rfl
theorem cutL_hit {b : UInt8} : ∀ {a : Str} (r : Str), (∀ c ∈ a, c ≠ b) → cutL b (a ++ b :: r) = a :: cutL b r
  | [], r, _ => by
    show cutL b (b :: r) = _
    rw [cutL, if_pos rfl]
  | c :: a, r, h => by
    show cutL b (c :: (a ++ b :: r)) = _
    rw [cutL, if_neg (h c (List.mem_cons_self ..)), cutL_hit r fun x hx => h x (List.mem_cons_of_mem _ hx)]
    rfl
theorem first_b (b : UInt8) : ∀ s : Str, (∀ c ∈ s, c ≠ b) ∨ ∃ a r, s = a ++ b :: r ∧ ∀ c ∈ a, c ≠ b
  | [] => .inl fun c hc => by cases hc
  | c :: s => by
    by_cases hc : c = b
    · exact .inr ⟨[], s, by rw [hc]; rfl, fun x hx => by cases hx⟩
    · rcases first_b b s with h | ⟨a, r, h1, h2⟩
      · exact .inl fun x hx => by
          rcases List.mem_cons.1 hx with rfl | hx
          · exact hc
          · exact h x hx
      · exact .inr ⟨c :: a, r, by rw [h1]; rfl, fun x hx => by
          rcases List.mem_cons.1 hx with rfl | hx
          · exact hc
          · exact h2 x hx⟩
theorem cutL_len (b : UInt8) : ∀ s : Str, (cutL b s).length ≤ s.length + 1
  | [] => by simp [cutL]
  | c :: s => by
    have := cutL_len b s
    unfold cutL
    split
    · simp; omega
    · simp; omega
theorem cutL_free (b : UInt8) : ∀ (s : Str), ∀ x ∈ cutL b s, ∀ c ∈ x, c ≠ b ∧ c ∈ s
  | [], x, hx, c, hc => by
    simp [cutL] at hx; subst hx; cases hc
  | d :: s, x, hx, c, hc => by
    obtain ⟨h, t, e⟩ := cutL_pos b s
    unfold cutL at hx
    split at hx
    · rcases List.mem_cons.1 hx with rfl | hx
      · cases hc
      · obtain ⟨h1, h2⟩ := cutL_free b s x hx c hc
        exact ⟨h1, List.mem_cons_of_mem _ h2⟩
    · rename_i hd
      rw [e] at hx
      rcases List.mem_cons.1 hx with rfl | hx
      · rcases List.mem_cons.1 hc with rfl | hc
        · exact ⟨hd, List.mem_cons_self ..⟩
        · obtain ⟨h1, h2⟩ := cutL_free b s h (by rw [e]; exact List.mem_cons_self ..) c hc
          exact ⟨h1, List.mem_cons_of_mem _ h2⟩
      · obtain ⟨h1, h2⟩ := cutL_free b s x (by rw [e]; exact List.mem_cons_of_mem _ hx) c hc
        exact ⟨h1, List.mem_cons_of_mem _ h2⟩
theorem index1_none {b : UInt8} {s : Str} (h : ∀ c ∈ s, c ≠ b) : Lib.index s [b] = -1 := Lib.index_none fun j hj => by
  cases ho : Lib.occAt s [b] j with
  | false => rfl
  | true =>
    have := Lib.occAt_head rfl ho
    exact absurd rfl (h b (List.mem_of_getElem? this))
theorem index1_hit {b : UInt8} {a : Str} (r : Str) (h : ∀ c ∈ a, c ≠ b) : Lib.index (a ++ b :: r) [b] = (a.length : Int) := by
  refine Lib.index_first (by simp) ?_ fun j hj => ?_
  · rw [Lib.occAt_iff_take _ _ _ (by simp)]
    simp
  · cases ho : Lib.occAt (a ++ b :: r) [b] j with
    | false => rfl
    | true =>
      have := Lib.occAt_head rfl ho
      rw [List.getElem?_append_left hj] at this
      exact absurd rfl (h b (List.mem_of_getElem? this))
theorem split_eq (b : UInt8) : ∀ (n : Nat) (s : Str), s.length ≤ n → splitL s [b] = cutL b s := by
  intro n
  induction n with
  | zero =>
    intro s hs
    have : s = [] := List.eq_nil_of_length_eq_zero (by omega)
    subst this
    unfold splitL
    rw [Lib.count_miss (index1_none (fun c hc => by cases hc))]
    rfl
  | succ n ih =>
    intro s hs
    rcases first_b b s with h | ⟨a, r, h1, h2⟩
    · unfold splitL
      rw [Lib.count_miss (index1_none h), cutL_miss h]
      rfl
    · subst h1
      have hi := index1_hit r h2
      have hd : (a ++ b :: r).drop (a.length + 1) = r := by
        rw [show a ++ b :: r = (a ++ [b]) ++ r by simp, show a.length + 1 = (a ++ [b]).length by simp, List.drop_left]
      have := ih r (by simp at hs; omega)
      unfold splitL at this ⊢
      rw [Lib.count_hit (by simp) hi, show [b].length = 1 from rfl, hd, Nat.add_comm, Lib.splitK, if_neg (by rw [hi]; simp), hi, Int.toNat_natCast, show [b].length = 1 from rfl, hd, this, cutL_hit r h2]
      simp
theorem Split_eq (s : Str) (hs : s.length ≤ 100000) : strings_Split s [124] = some (cutL 124 s) := by
  unfold strings_Split
  rw [if_pos (by simp; omega), split_eq 124 _ s (Nat.le_refl _)]
theorem linesL_hit {a : Str} (r : Str) (h : ∀ c ∈ a, c ≠ 10) : linesL (a ++ 10 :: r) = a :: linesL r := by
  have hi : Lib.indexByte (a ++ 10 :: r) 10 = ((a.length : Nat) : Int) := by
    induction a with
    | nil => rfl
    | cons c a ih =>
      have hc : (c == (10 : UInt8)) = false := by simpa using h c (List.mem_cons_self ..)
      have := ih fun x hx => h x (List.mem_cons_of_mem _ hx)
      show Lib.indexByte (c :: (a ++ 10 :: r)) 10 = _
      rw [Lib.indexByte, hc, this]
      simp
  obtain ⟨c, l, e⟩ : ∃ c l, a ++ 10 :: r = c :: l := by
    cases a with
    | nil => exact ⟨_, _, rfl⟩
    | cons c a => exact ⟨_, _, rfl⟩
  rw [e] at hi ⊢
  rw [linesL]
  split
  · rename_i e' he
    have : e' = a.length := by
      have h1 : ((e' : Nat) : Int) = ((a.length : Nat) : Int) := he.symm.trans hi
      omega
    subst this
    rw [← e, List.take_left, show a ++ 10 :: r = (a ++ [10]) ++ r by simp, show a.length + 1 = (a ++ [10]).length by simp, List.drop_left]
  · rename_i k' he
    have := he.symm.trans hi
    simp at this
theorem lines_eq : ∀ (n : Nat) (t : Str), t.length ≤ n → linesL (t ++ [10]) = cutL 10 t := by
  intro n
  induction n with
  | zero =>
    intro t ht
    have : t = [] := List.eq_nil_of_length_eq_zero (by omega)
    subst this
    have := linesL_hit (a := []) [] (fun c hc => by cases hc)
    rw [show ([] : Str) ++ 10 :: [] = [] ++ [10] from rfl] at this
    rw [this]
    simp [linesL, cutL]
  | succ n ih =>
    intro t ht
    rcases first_b 10 t with h | ⟨a, r, h1, h2⟩
    · rw [cutL_miss h, linesL_hit [] h]
      simp [linesL]
    · subst h1
      rw [cutL_hit r h2, show (a ++ 10 :: r) ++ [10] = a ++ 10 :: (r ++ [10]) by simp, linesL_hit _ h2, ih r (by simp at ht; omega)]
def isD (c : UInt8) : Bool := decide (48 ≤ c.toNat ∧ c.toNat ≤ 57)
def valF : List UInt8 → Nat → Nat
  | [], n => n
  | c :: l, n => valF l (n * 10 + (c.toNat - 48))
def numP (s : Str) : Int × Bool := if (1 ≤ s.length ∧ s.length ≤ 4) ∧ ¬ (1 < s.length ∧ s.head? = some 48) ∧ (s.all isD) = true then (((valF s 0 : Nat) : Int), true) else (0, false)
theorem num_loop (s : Str) (hs : s.length ≤ 4) : ∀ (m k n : Nat), s.length - k = m → k ≤ s.length → n < 10 ^ k →
    iter (exchange_numberOf_l2 s) ((n : Int), (k : Int)) = some (if ((s.drop k).all isD) = true then .inl ((valF (s.drop k) n : Nat) : Int) else .inr ((0 : Int), false)) := by
  intro m
  induction m with
  | zero =>
    intro k n hm hk hn
    have : k = s.length := by omega
    subst this
    rw [List.drop_length]
    refine iter_inr ?_
    simp [exchange_numberOf_l2, valF]
  | succ m ih =>
    intro k n hm hk hn
    have hk' : k < s.length := by omega
    have hp : 10 ^ k ≤ 1000 := by
      have := Nat.pow_le_pow_right (show 0 < 10 by omega) (show k ≤ 3 by omega)
      simpa using this
    have hall : (s.drop k).all isD = (isD s[k] && (s.drop (k + 1)).all isD) := by rw [List.drop_eq_getElem_cons hk']; rfl
    have hval : valF (s.drop k) n = valF (s.drop (k + 1)) (n * 10 + (s[k].toNat - 48)) := by rw [List.drop_eq_getElem_cons hk']; rfl
    rw [hall, hval]
    have hf : exchange_numberOf_l2 s ((n : Int), (k : Int)) = some (if isD s[k] = true then .inl (((n * 10 + (s[k].toNat - 48) : Nat) : Int), ((k + 1 : Nat) : Int)) else .inr (.inr ((0 : Int), false))) := by
      simp only [exchange_numberOf_l2]
      rw [lt_t hk', cond_true, req_pos ⟨by omega, fun _ => by omega⟩, sx_nat s k hk']
      by_cases hd : isD s[k] = true
      · have hc : 48 ≤ s[k].toNat ∧ s[k].toNat ≤ 57 := by simpa [isD] using hd
        rw [if_pos hd, show (decide (((s[k].toNat : Nat) : Int) < 48) || decide ((57 : Int) < ((s[k].toNat : Nat) : Int))) = false by simp only [Bool.or_eq_false_iff, decide_eq_false_iff_not]; omega, cond_false, req_pos (by omega)]
        have e1 : IntKind.u8.wrap (((s[k].toNat : Nat) : Int) - 48) = ((s[k].toNat - 48 : Nat) : Int) := by
          simp only [IntKind.wrap, IntKind.bits, IntKind.signed]; simp; omega
        unfold bindV
        rw [e1, wrap64 (n := ((s[k].toNat - 48 : Nat) : Int)) (by omega) (by omega), wrap64 (n := (n : Int) * 10) (by omega) (by omega), wrap64 (n := (n : Int) * 10 + ((s[k].toNat - 48 : Nat) : Int)) (by omega) (by omega), i64_add1 k (by omega), show (n : Int) * 10 + ((s[k].toNat - 48 : Nat) : Int) = ((n * 10 + (s[k].toNat - 48) : Nat) : Int) by omega]
      · have hc : ¬ (48 ≤ s[k].toNat ∧ s[k].toNat ≤ 57) := by simpa [isD] using hd
        rw [if_neg hd, show (decide (((s[k].toNat : Nat) : Int) < 48) || decide ((57 : Int) < ((s[k].toNat : Nat) : Int))) = true by simp only [Bool.or_eq_true, decide_eq_true_eq]; omega, cond_true]
    by_cases hd : isD s[k] = true
    · have hc : 48 ≤ s[k].toNat ∧ s[k].toNat ≤ 57 := by simpa [isD] using hd
      rw [if_pos hd] at hf
      rw [iter_inl hf, ih (k + 1) _ (by omega) (by omega) (by rw [Nat.pow_succ]; omega), hd, Bool.true_and]
    · rw [if_neg hd] at hf
      rw [iter_inr hf, show isD s[k] = false by simpa using hd, Bool.false_and]
      simp
theorem num_eq (s : Str) : exchange_numberOf s = some (numP s) := by
  unfold exchange_numberOf numP
  by_cases hl : 1 ≤ s.length ∧ s.length ≤ 4
  · rw [req_pos (fun _ => by omega), show (decide ((s.length : Int) < 1) || decide ((4 : Int) < (s.length : Int))) = false by simp only [Bool.or_eq_false_iff, decide_eq_false_iff_not]; omega, Bool.false_or]
    have h0 : (decide ((1 : Int) < (s.length : Int)) && (sx s (0 : Int) == (48 : Int))) = decide (1 < s.length ∧ s.head? = some 48) := by
      have e := sx_nat s 0 (by omega)
      rw [show ((0 : Nat) : Int) = 0 from rfl] at e
      have e2 : s.head? = some s[0] := by rw [List.head?_eq_getElem?]; exact List.getElem?_eq_getElem (by omega)
      rw [e, e2, show (((s[0].toNat : Nat) : Int) == 48) = decide (s[0] = UInt8.ofNat 48) from eq_byte s[0] 48 (by omega), show decide ((1 : Int) < (s.length : Int)) = decide (1 < s.length) by by_cases h : 1 < s.length <;> simp [h] <;> omega, ← Bool.decide_and]
      congr 1
      simp
    rw [h0]
    by_cases hz : 1 < s.length ∧ s.head? = some 48
    · rw [decide_eq_true hz, cond_true, if_neg (fun h => h.2.1 hz)]
    · rw [decide_eq_false hz, cond_false]
      have := num_loop s hl.2 s.length 0 0 (by omega) (by omega) (by decide)
      rw [List.drop_zero] at this
      rw [show ((0 : Int), (0 : Int)) = (((0 : Nat) : Int), ((0 : Nat) : Int)) by rfl, this, some_bind]
      by_cases ha : (s.all isD) = true
      · rw [if_pos ha, if_pos ⟨hl, hz, ha⟩]; rfl
      · rw [if_neg ha, if_neg (fun h => ha h.2.2)]
  · rw [req_pos (fun h => by simp at h; omega), show (decide ((s.length : Int) < 1) || decide ((4 : Int) < (s.length : Int))) = true by simp only [Bool.or_eq_true, decide_eq_true_eq]; omega, Bool.true_or, cond_true, if_neg (fun h => hl h.1)]
def unP (s : Str) : Str × Bool := match unescP s with | none => ([], false) | some o => (o, fieldB o)
theorem unesc_len : ∀ (n : Nat) (s o : Str), s.length ≤ n → unescP s = some o → o.length ≤ s.length := by
  intro n
  induction n with
  | zero =>
    intro s o h1 h2
    have : s = [] := List.eq_nil_of_length_eq_zero (by omega)
    subst this
    unfold unescP at h2
    simp at h2; subst h2; simp
  | succ n ih =>
    intro s o h1 h2
    match s, h1, h2 with
    | [], _, h2 => unfold unescP at h2; simp at h2; subst h2; simp
    | c :: l, h1, h2 =>
      by_cases hc : c = 92
      · subst hc
        cases l with
        | nil => rw [un_last] at h2; cases h2
        | cons d r =>
          rw [un_esc] at h2
          cases hu : unC d with
          | none => rw [hu] at h2; cases h2
          | some x =>
            rw [hu] at h2
            obtain ⟨o', e1, rfl⟩ := Option.map_eq_some_iff.1 h2
            have := ih r o' (by simp at h1; omega) e1
            simp; omega
      · by_cases hb : c = 124 ∨ c = 10
        · rw [un_bad _ _ hb] at h2; cases h2
        · rw [un_other _ _ (fun h => hb (.inl h)) (fun h => hb (.inr h)) hc] at h2
          obtain ⟨o', e1, rfl⟩ := Option.map_eq_some_iff.1 h2
          have := ih l o' (by simp at h1; omega) e1
          simp; omega
def unRes3 (out : Str) : Option Str → Str ⊕ (Str × Bool)
  | none => .inr ([], false)
  | some o => .inl (out ++ o)
open Go.Proofs
def zeroF : api_File := ⟨[], 0, 0, []⟩
def headO : List Str → Option api_File
  | [a, k, so, nu] => if a = [70, 73, 76, 69] ∧ (numP so).2 = true ∧ (numP nu).2 = true ∧ headB k (numP so).1 (numP nu).1 = true then some ⟨k, (numP so).1, (numP nu).1, []⟩ else none
  | _ => none
def trailO : List Str → Option (Int × Int)
  | [a, n, c] => if a = [69, 78, 68] ∧ (numP n).2 = true ∧ (numP c).2 = true then some ((numP n).1, (numP c).1) else none
  | _ => none
def unRow : List Str → Option (List Str)
  | [] => some []
  | w :: l => match unescP w with
    | none => none
    | some o => if fieldB o = true then (unRow l).map (o :: ·) else none
def rowP (line : Str) : List Str × Bool :=
  if (cutL 124 line).headD [] = [82, 79, 87] ∧ 2 ≤ (cutL 124 line).length ∧ (cutL 124 line).length ≤ 9 then
    match unRow (cutL 124 line).tail with
    | none => ([], false)
    | some r => (r, true)
  else ([], false)
def unRows : List Str → Option (List (List Str))
  | [] => some []
  | l :: t => match rowP l with
    | (r, true) => (unRows t).map (r :: ·)
    | (_, false) => none
def parseL (L : List Str) (s : Str) : api_File × Int :=
  if L.length < 2 then (zeroF, 7) else
  match headO (cutL 124 (L.headD [])) with
  | none => (zeroF, 20)
  | some f => match trailO (cutL 124 (L.getLastD [])) with
    | none => (zeroF, 21)
    | some (n, c) => match unRows L.tail.dropLast with
      | none => (zeroF, 7)
      | some rows => if n ≠ (rows.length : Int) ∨ 40 < rows.length then (zeroF, 22) else
        if c ≠ ((chkN (s.take (s.length - 1 - (L.getLastD []).length)) : Nat) : Int) then (zeroF, 23) else (⟨f.Kind, f.Source, f.Number, rows⟩, 0)
def parseP (s : Str) : api_File × Int :=
  if 8192 < s.length then (zeroF, 3) else if s.getLast? ≠ some 10 then (zeroF, 7) else parseL (cutL 10 s.dropLast) s
theorem beq_str (a b : Str) : (a == b) = decide (a = b) := by
  by_cases h : a = b
  · subst h; simp
  · rw [decide_eq_false h]; simpa using h
theorem headO4 (a k so nu : Str) : headO [a, k, so, nu] = if a = [70, 73, 76, 69] ∧ (numP so).2 = true ∧ (numP nu).2 = true ∧ headB k (numP so).1 (numP nu).1 = true then some ⟨k, (numP so).1, (numP nu).1, []⟩ else none := rfl
theorem trailO3 (a n c : Str) : trailO [a, n, c] = if a = [69, 78, 68] ∧ (numP n).2 = true ∧ (numP c).2 = true then some ((numP n).1, (numP c).1) else none := rfl
theorem header_eq (line : Str) (hl : line.length ≤ 100000) : exchange_header line = some (match headO (cutL 124 line) with | some f => (f, true) | none => (zeroF, false)) := by
  unfold exchange_header
  rw [Split_eq line hl, some_bind]
  generalize cutL 124 line = y
  match y with
  | [a, k, so, nu] =>
    rw [headO4, req_pos (fun _ => by simp), show ((([a, k, so, nu] : List Str).length : Int) != 4) = false by simp, Bool.false_or, show ix [a, k, so, nu] (0 : Int) = a from rfl, beq_str]
    by_cases ha : a = [70, 73, 76, 69]
    · rw [decide_eq_true ha, Bool.not_true, cond_false, req_pos (by simp), show ix [a, k, so, nu] (2 : Int) = so from rfl, num_eq, some_bind, show ix [a, k, so, nu] (3 : Int) = nu from rfl, num_eq]
      generalize numP so = p
      generalize numP nu = q
      obtain ⟨n1, b1⟩ := p
      obtain ⟨n2, b2⟩ := q
      cases b1 with
      | false => simp; rfl
      | true =>
        simp only [Bool.not_true, cond_false]
        rw [req_pos (by simp), some_bind]
        cases b2 with
        | false =>
          simp only [Bool.not_false, Bool.true_or, cond_true, Bool.not_true]
          rw [req_pos (by simp)]
          simp; rfl
        | true =>
          simp only [Bool.not_true, Bool.false_or, Bool.not_false]
          rw [show ix [a, k, so, nu] (1 : Int) = k from rfl, validHead_eq, req_pos (by simp)]
          rcases bcases (headB k n1 n2) with hh | hh <;> rw [hh]
          · simp only [Option.getD_some, Bool.not_true, cond_false]
            rw [req_pos (by simp)]
            simp [ha]
          · simp; rfl
    · rw [decide_eq_false ha, Bool.not_false, cond_true, if_neg (fun h => ha h.1)]; rfl
  | [] => rw [req_pos (fun h => by simp at h)]; rfl
  | [a] => rw [req_pos (fun _ => by simp)]; rfl
  | [a, b] => rw [req_pos (fun _ => by simp)]; rfl
  | [a, b, c] => rw [req_pos (fun _ => by simp)]; rfl
  | a :: b :: c :: d :: e :: l =>
    rw [req_pos (fun _ => by simp; omega), show (((a :: b :: c :: d :: e :: l : List Str).length : Int) != 4) = true by simp; omega, Bool.true_or, cond_true]; rfl
theorem validHeadF (k : Str) (a b : Int) : validB ⟨k, a, b, []⟩ = headB k a b := by
  unfold validB
  have : rowsB ([] : List (List Str)) = true := rfl
  simp [this]
theorem trailer_eq (line : Str) (hl : line.length ≤ 100000) : ∃ a b ok, exchange_trailer line = some (a, b, ok) ∧ trailO (cutL 124 line) = if ok = true then some (a, b) else none := by
  unfold exchange_trailer
  rw [Split_eq line hl, some_bind]
  generalize cutL 124 line = y
  match y with
  | [a, n, c] =>
    rw [trailO3, req_pos (fun _ => by simp), show ((([a, n, c] : List Str).length : Int) != 3) = false by simp, Bool.false_or, show ix [a, n, c] (0 : Int) = a from rfl, beq_str]
    by_cases ha : a = [69, 78, 68]
    · rw [decide_eq_true ha, Bool.not_true, cond_false, req_pos (by simp), show ix [a, n, c] (1 : Int) = n from rfl, num_eq, some_bind, show ix [a, n, c] (2 : Int) = c from rfl, num_eq]
      generalize numP n = p
      generalize numP c = q
      obtain ⟨n1, b1⟩ := p
      obtain ⟨n2, b2⟩ := q
      cases b1 with
      | false => exact ⟨_, _, _, rfl, by simp⟩
      | true =>
        simp only [Bool.not_true, cond_false]
        rw [req_pos (by simp), some_bind]
        exact ⟨_, _, _, rfl, by simp [ha]⟩
    · rw [decide_eq_false ha, Bool.not_false, cond_true]
      exact ⟨_, _, _, rfl, by rw [if_neg (show ¬ (a = [69, 78, 68] ∧ _) from fun h => ha h.1)]; rfl⟩
  | [] => exact ⟨_, _, _, by rw [req_pos (fun h => by simp at h)]; rfl, rfl⟩
  | [a] => exact ⟨_, _, _, by rw [req_pos (fun _ => by simp)]; rfl, rfl⟩
  | [a, b] => exact ⟨_, _, _, by rw [req_pos (fun _ => by simp)]; rfl, rfl⟩
  | a :: b :: c :: d :: l =>
    exact ⟨_, _, _, by rw [req_pos (fun _ => by simp; omega), show (((a :: b :: c :: d :: l : List Str).length : Int) != 3) = true by simp; omega, Bool.true_or, cond_true], rfl⟩
def rowRes (acc : List Str) : Option (List Str) → List Str ⊕ (List Str × Bool)
  | none => .inr ([], false)
  | some r => .inl (acc ++ r)
theorem fields_loop (h : Str) (T : List Str) (hT : T.length ≤ 8) (hl : ∀ w ∈ T, w.length ≤ 100000) : ∀ (m v : Nat) (acc : List Str), T.length - v = m → v ≤ T.length → acc.length ≤ v →
    iter (exchange_fieldsOf_l2 (h :: T)) ((v : Int), acc) = some (rowRes acc (unRow (T.drop v))) := by
  intro m
  induction m with
  | zero =>
    intro v acc h1 h2 h3
    have : v = T.length := by omega
    subst this
    rw [List.drop_length]
    refine iter_inr ?_
    simp only [exchange_fieldsOf_l2]
    rw [show (List.drop (1 : Int).toNat (h :: T)) = T from rfl, lt_f (Nat.le_refl _), cond_false]
    simp [unRow, rowRes]
  | succ m ih =>
    intro v acc h1 h2 h3
    have hv : v < T.length := by omega
    have hw := hl T[v] (List.getElem_mem hv)
    rw [List.drop_eq_getElem_cons hv]
    have hf : exchange_fieldsOf_l2 (h :: T) ((v : Int), acc) = match unescP T[v] with
        | none => some (.inr (.inr ([], false)))
        | some o => if fieldB o = true then some (.inl (((v + 1 : Nat) : Int), acc ++ [o])) else some (.inr (.inr ([], false))) := by
      simp only [exchange_fieldsOf_l2]
      rw [show (List.drop (1 : Int).toNat (h :: T)) = T from rfl, lt_t hv, cond_true, req_pos (by omega), ix_nat _ _ hv]
      unfold exchange_unescape
      rw [if_pos hw, some_bind]
      cases hu : unescP T[v] with
      | none =>
        dsimp only
        rw [req_pos (by simp)]
        rfl
      | some o =>
        dsimp only
        rw [validField_eq, req_pos (by simp)]
        rcases bcases (fieldB o) with hb | hb <;> rw [hb]
        · rw [if_pos rfl]
          simp only [Option.getD_some, Bool.not_true, Bool.or_false, cond_false]
          rw [req_pos (by simp; omega), i64_add1 v (by omega)]
        · rw [if_neg (by simp)]
          rfl
    unfold unRow
    cases hu : unescP T[v] with
    | none =>
      rw [hu] at hf
      rw [iter_inr hf]; rfl
    | some o =>
      rw [hu] at hf
      dsimp only at hf ⊢
      rcases bcases (fieldB o) with hb | hb
      · rw [if_pos hb] at hf ⊢
        rw [iter_inl hf, ih (v + 1) _ (by omega) (by omega) (by simp; omega)]
        cases unRow (T.drop (v + 1)) with
        | none => rfl
        | some r => simp [rowRes]
      · rw [if_neg (by rw [hb]; simp)] at hf ⊢
        rw [iter_inr hf]; rfl
theorem cutL_elem (b : UInt8) : ∀ (s : Str), ∀ x ∈ cutL b s, x.length ≤ s.length
  | [], x, hx => by simp [cutL] at hx; subst hx; simp
  | d :: s, x, hx => by
    obtain ⟨h, t, e⟩ := cutL_pos b s
    unfold cutL at hx
    split at hx
    · rcases List.mem_cons.1 hx with rfl | hx
      · simp
      · have := cutL_elem b s x hx; simp; omega
    · rw [e] at hx
      rcases List.mem_cons.1 hx with rfl | hx
      · have := cutL_elem b s h (by rw [e]; exact List.mem_cons_self ..)
        simp at this ⊢; omega
      · have := cutL_elem b s x (by rw [e]; exact List.mem_cons_of_mem _ hx)
        simp; omega
theorem row_eq (line : Str) (hl : line.length ≤ 100000) : exchange_fieldsOf line = some (rowP line) := by
  unfold exchange_fieldsOf rowP
  rw [Split_eq line hl, some_bind]
  have hel := cutL_elem 124 line
  obtain ⟨h, T, e⟩ := cutL_pos 124 line
  rw [e] at hel ⊢
  rw [req_pos (by simp), show ix (h :: T) (0 : Int) = h from rfl, beq_str, show (h :: T).headD [] = h from rfl, show (h :: T).tail = T from rfl]
  have hw : IntKind.i64.wrap (((h :: T).length : Int) - 1) = ((T.length : Nat) : Int) ∨ 9 < (h :: T).length := by
    by_cases hb : 9 < (h :: T).length
    · exact .inr hb
    · left
      rw [wrap64 (by omega) (by omega)]; simp
  have hL : (T.length : Int) + 1 ≤ 100001 := by
    have := cutL_len 124 line
    rw [e] at this
    simp at this; omega
  have hw : IntKind.i64.wrap (((h :: T).length : Int) - 1) = ((T.length : Nat) : Int) := by
    rw [wrap64 (by simp only [List.length_cons]; omega) (by simp only [List.length_cons]; omega)]; simp
  rw [hw]
  by_cases hc : h = [82, 79, 87] ∧ 2 ≤ (h :: T).length ∧ (h :: T).length ≤ 9
  · obtain ⟨c1, c2, c3⟩ := hc
    rw [if_pos ⟨c1, c2, c3⟩, decide_eq_true c1, Bool.not_true, Bool.false_or, show (decide (((h :: T).length : Int) < 2) || decide ((8 : Int) < ((T.length : Nat) : Int))) = false by simp only [Bool.or_eq_false_iff, decide_eq_false_iff_not]; simp at c2 c3 ⊢; omega, cond_false, req_pos (by simp; omega)]
    have := fields_loop h T (by simp at c3; omega) (fun w hw => by have := hel w (List.mem_cons_of_mem _ hw); omega) T.length 0 [] (by omega) (by omega) (by simp)
    rw [List.drop_zero] at this
    rw [show ((0 : Int), ([] : List Str)) = (((0 : Nat) : Int), []) from rfl, this, some_bind]
    cases unRow T with
    | none => rfl
    | some r => rfl
  · rw [if_neg hc, show ((!(decide (h = [82, 79, 87])) || decide (((h :: T).length : Int) < 2)) || decide ((8 : Int) < ((T.length : Nat) : Int))) = true by
      by_cases c1 : h = [82, 79, 87]
      · simp only [c1, decide_true, Bool.not_true, Bool.false_or, Bool.or_eq_true, decide_eq_true_eq]
        by_cases c2 : 2 ≤ (h :: T).length
        · right
          have : ¬ (h :: T).length ≤ 9 := fun c3 => hc ⟨c1, c2, c3⟩
          simp at this; omega
        · left; simp only [List.length_cons] at c2 ⊢; omega
      · simp [c1], cond_true]
def rowsRes (acc : List (List Str)) : Option (List (List Str)) → List (List Str) ⊕ (api_File × Int)
  | none => .inr (zeroF, 7)
  | some r => .inl (acc ++ r)
theorem rowsP_loop (M : List Str) (hM : M.length ≤ 100000) (hl : ∀ w ∈ M, w.length ≤ 100000) : ∀ (m v : Nat) (acc : List (List Str)), M.length - v = m → v ≤ M.length → acc.length ≤ v →
    iter (exchange_Parse_l2 M) ((v : Int), acc) = some (rowsRes acc (unRows (M.drop v))) := by
  intro m
  induction m with
  | zero =>
    intro v acc h1 h2 h3
    have : v = M.length := by omega
    subst this
    rw [List.drop_length]
    refine iter_inr ?_
    simp only [exchange_Parse_l2]
    rw [lt_f (Nat.le_refl _), cond_false]
    simp [unRows, rowsRes]
  | succ m ih =>
    intro v acc h1 h2 h3
    have hv : v < M.length := by omega
    have hw := hl M[v] (List.getElem_mem hv)
    rw [List.drop_eq_getElem_cons hv]
    unfold unRows
    rcases hr : rowP M[v] with ⟨r, b⟩
    cases b with
    | true =>
      have hf : exchange_Parse_l2 M ((v : Int), acc) = some (.inl (((v + 1 : Nat) : Int), acc ++ [r])) := by
        simp only [exchange_Parse_l2]
        rw [lt_t hv, cond_true, req_pos (by omega), ix_nat _ _ hv, row_eq _ hw, some_bind, hr]
        simp only [Bool.not_true, cond_false]
        rw [req_pos (by simp; omega), i64_add1 v (by omega)]
      rw [iter_inl hf, ih (v + 1) _ (by omega) (by omega) (by simp; omega)]
      dsimp only
      cases unRows (M.drop (v + 1)) with
      | none => rfl
      | some r => simp [rowsRes]
    | false =>
      refine iter_inr ?_
      simp only [exchange_Parse_l2]
      rw [lt_t hv, cond_true, req_pos (by omega), ix_nat _ _ hv, row_eq _ hw, some_bind, hr]
      rfl
theorem unRows_len : ∀ (M : List Str) (r : List (List Str)), unRows M = some r → r.length = M.length
  | [], r, h => by simp [unRows] at h; subst h; rfl
  | l :: M, r, h => by
    unfold unRows at h
    split at h
    · obtain ⟨r', e, rfl⟩ := Option.map_eq_some_iff.1 h
      have := unRows_len M r' e
      simp [this]
    · cases h
theorem two_parts (L : List Str) (hl : 2 ≤ L.length) : ∃ h M z, L = h :: (M ++ [z]) := by
  match L, hl with
  | a :: b :: l, _ =>
    have hne : (b :: l) ≠ [] := by simp
    exact ⟨a, (b :: l).dropLast, (b :: l).getLast hne, by rw [List.dropLast_concat_getLast hne]⟩
theorem last_snoc (s : Str) (h : s.getLast? = some 10) : s = s.dropLast ++ [10] := by
  rcases List.eq_nil_or_concat s with rfl | ⟨l, a, rfl⟩
  · cases h
  · simp at h; subst h; simp
theorem parse_eq (s : Str) : exchange_Parse s = some (parseP s) := by
  unfold exchange_Parse parseP
  by_cases h1 : 8192 < s.length
  · rw [show decide ((8192 : Int) < (s.length : Int)) = true by simp; omega, cond_true, if_pos h1]; rfl
  · rw [show decide ((8192 : Int) < (s.length : Int)) = false by simp; omega, cond_false, if_neg h1]
    by_cases h0 : s = []
    · subst h0
      rw [req_pos (fun h => by simp at h), if_pos (by simp)]; rfl
    · have hpos : 0 < s.length := List.length_pos_iff.2 h0
      have hw : IntKind.i64.wrap ((s.length : Int) - 1) = ((s.length - 1 : Nat) : Int) := by rw [wrap64 (by omega) (by omega)]; omega
      rw [hw, req_pos (fun _ => by omega), show ((s.length : Int) == 0) = false by simpa using h0, Bool.false_or, sx_nat s (s.length - 1) (by omega)]
      have hg : s.getLast? = some s[s.length - 1] := by rw [List.getLast?_eq_getElem?]; exact List.getElem?_eq_getElem (by omega)
      by_cases h2 : s.getLast? = some 10
      · have h3 : s[s.length - 1] = 10 := by rw [hg] at h2; exact Option.some.inj h2
        rw [h3, show ((((10 : UInt8).toNat : Nat) : Int) != 10) = false by decide, cond_false, req_pos (by omega), if_neg (fun h => h h2)]
        have hs := last_snoc s h2
        have hlen : s.dropLast.length = s.length - 1 := List.length_dropLast
        have hL : linesL s = cutL 10 s.dropLast := by
          have := lines_eq _ s.dropLast (Nat.le_refl _)
          rw [← hs] at this; exact this
        have hel := cutL_elem 10 s.dropLast
        have hln := cutL_len 10 s.dropLast
        unfold bindV parseL
        rw [hL]
        generalize cutL 10 s.dropLast = L at hel hln
        dsimp only
        by_cases h4 : L.length < 2
        · rw [show decide ((L.length : Int) < 2) = true by simp; omega, cond_true, if_pos h4]; rfl
        · rw [show decide ((L.length : Int) < 2) = false by simp; omega, cond_false, if_neg h4]
          obtain ⟨h, M, z, rfl⟩ := two_parts L (by omega)
          have hlh := hel h (by simp)
          have hlz := hel z (by simp)
          have hlM : M.length ≤ 100000 := by simp at hln; omega
          rw [req_pos (by simp; omega), show ix (h :: (M ++ [z])) (0 : Int) = h from rfl, header_eq h (by omega), some_bind, show (h :: (M ++ [z])).headD [] = h from rfl]
          cases headO (cutL 124 h) with
          | none => rfl
          | some f =>
            dsimp only
            rw [Bool.not_true, cond_false]
            have hw2 : IntKind.i64.wrap (((h :: (M ++ [z])).length : Int) - 1) = ((M.length + 1 : Nat) : Int) := by
              rw [wrap64 (by simp; omega) (by simp; omega)]; simp
            have hix : ix (h :: (M ++ [z])) ((M.length + 1 : Nat) : Int) = z := by
              rw [ix_nat _ _ (by simp), List.getElem_cons_succ, List.getElem_append_right (Nat.le_refl _)]; simp
            have hgl : (h :: (M ++ [z])).getLastD [] = z := by
              rw [show h :: (M ++ [z]) = (h :: M) ++ [z] by simp, List.getLastD_concat]
            rw [hw2, req_pos (by simp; omega), hix, hgl]
            obtain ⟨a, b, ok, e1, e2⟩ := trailer_eq z (by omega)
            rw [e1, some_bind, e2]
            cases ok with
            | false => rfl
            | true =>
              dsimp only
              rw [Bool.not_true, cond_false, if_pos rfl, req_pos (by simp; omega), show List.drop (1 : Int).toNat (List.take (((M.length + 1 : Nat) : Int)).toNat (h :: (M ++ [z]))) = M by
                rw [Int.toNat_natCast, List.take_succ_cons]
                show List.take M.length (M ++ [z]) = M
                exact List.take_left, show (h :: (M ++ [z])).tail.dropLast = M by simp]
              have hlo := rowsP_loop M hlM (fun w hw => by have := hel w (by simp [hw]); omega) M.length 0 [] (by omega) (by omega) (by simp)
              rw [List.drop_zero] at hlo
              rw [show ((0 : Int), ([] : List (List Str))) = (((0 : Nat) : Int), []) from rfl, hlo, some_bind]
              cases hr : unRows M with
              | none => rfl
              | some rows =>
                have hrl := unRows_len M rows hr
                simp only [rowsRes, List.nil_append]
                unfold exchange_Parse_j1
                rw [hw2, hix, show IntKind.i64.wrap ((s.length : Int) - (z.length : Int)) = ((s.length - z.length : Nat) : Int) by rw [wrap64 (by omega) (by omega)]; omega,
                  show IntKind.i64.wrap (((s.length - z.length : Nat) : Int) - 1) = ((s.length - 1 - z.length : Nat) : Int) by rw [wrap64 (by omega) (by omega)]; omega, Int.toNat_natCast]
                by_cases h5 : a ≠ (rows.length : Int) ∨ 40 < rows.length
                · rw [if_pos h5, show ((a != (rows.length : Int)) || decide ((40 : Int) < (rows.length : Int))) = true by
                    rcases h5 with h5 | h5
                    · simp [h5]
                    · simp; right; omega, cond_true]; rfl
                · rw [if_neg h5, show ((a != (rows.length : Int)) || decide ((40 : Int) < (rows.length : Int))) = false by
                    have : a = (rows.length : Int) := Classical.byContradiction fun h => h5 (.inl h)
                    have h6 : ¬ 40 < rows.length := fun h => h5 (.inr h)
                    simp [this]; omega, cond_false, req_pos (by omega), check_eq _ (by rw [List.length_take]; omega), some_bind]
                  by_cases h7 : b = ((chkN (s.take (s.length - 1 - z.length)) : Nat) : Int)
                  · rw [if_neg (fun h => h h7), show (b != ((chkN (s.take (s.length - 1 - z.length)) : Nat) : Int)) = false by simp [h7], cond_false]
                  · rw [if_pos h7, show (b != ((chkN (s.take (s.length - 1 - z.length)) : Nat) : Int)) = true by simp [h7], cond_true]; rfl
      · have h3 : ¬ s[s.length - 1] = 10 := fun h => h2 (by rw [hg, h])
        rw [if_pos h2, show ((((s[s.length - 1]).toNat : Nat) : Int) != 10) = true by
          have := eq_byte s[s.length - 1] 10 (by omega)
          rw [show ((10 : Nat) : Int) = 10 from rfl] at this
          rw [bne, this, show decide (s[s.length - 1] = UInt8.ofNat 10) = false from decide_eq_false h3]; rfl, cond_true]; rfl
open Go.Proofs
theorem ch_isD (d : Nat) (h : d < 10) : isD (ch d) = true := by unfold isD; rw [ch_nat d h]; simp; omega
theorem dd_all (n : Nat) : ((dd n).all isD) = true := by
  induction n using Nat.strongRecOn with
  | _ n ih =>
    by_cases h : n < 10
    · rw [dd_small h]; simp [ch_isD n h]
    · rw [dd_big h, List.all_append, ih (n / 10) (by omega)]
      simp [ch_isD (n % 10) (by omega)]
theorem valF_snoc : ∀ (l : List UInt8) (c : UInt8) (n : Nat), valF (l ++ [c]) n = valF l n * 10 + (c.toNat - 48)
  | [], c, n => rfl
  | a :: l, c, n => by simp only [List.cons_append, valF]; exact valF_snoc l c _
theorem dd_val (n : Nat) : valF (dd n) 0 = n := by
  induction n using Nat.strongRecOn with
  | _ n ih =>
    by_cases h : n < 10
    · rw [dd_small h]; simp only [valF]; rw [ch_nat n h]; omega
    · rw [dd_big h, valF_snoc, ih (n / 10) (by omega), ch_nat _ (by omega)]; omega
theorem head_app {a b : Str} (h : a ≠ []) : (a ++ b).head? = a.head? := by
  cases a with
  | nil => exact absurd rfl h
  | cons x a => rfl
theorem dd_head (n : Nat) (h1 : 1 ≤ n) : (dd n).head? ≠ some 48 := by
  induction n using Nat.strongRecOn with
  | _ n ih =>
    by_cases h : n < 10
    · rw [dd_small h]
      intro he
      have he : ch n = 48 := by simpa using he
      have := ch_nat n h
      rw [he] at this
      have : (48 : Nat) = 48 + n := this
      omega
    · rw [dd_big h]
      have hp := dd_pos (n / 10)
      have := ih (n / 10) (by omega) (by omega)
      rw [head_app (by intro e; rw [e] at hp; simp at hp)]
      exact this
theorem numP_dd (n : Nat) (h : n ≤ 9999) : numP (dd n) = ((n : Int), true) := by
  unfold numP
  have h1 := dd_len 4 n (by omega) (by simp; omega)
  have hz : ¬ (1 < (dd n).length ∧ (dd n).head? = some 48) := by
    rintro ⟨h2, h3⟩
    by_cases h4 : n < 10
    · rw [dd_small h4] at h2; simp at h2
    · exact dd_head n (by omega) h3
  rw [if_pos ⟨⟨dd_pos n, h1⟩, hz, dd_all n⟩, dd_val]
theorem isD_ch (c : UInt8) (h : isD c = true) : c.toNat - 48 < 10 ∧ ch (c.toNat - 48) = c := by
  have hc : 48 ≤ c.toNat ∧ c.toNat ≤ 57 := by simpa [isD] using h
  refine ⟨by omega, ?_⟩
  apply UInt8.toNat_inj.1
  rw [ch_nat _ (by omega)]; omega
theorem dd_of (k : Nat) : ∀ (s : Str), s.length = k + 1 → (s.all isD) = true → ¬ (1 < s.length ∧ s.head? = some 48) → dd (valF s 0) = s := by
  induction k with
  | zero =>
    intro s h1 h2 h3
    match s, h1 with
    | [c], _ =>
      have hc : isD c = true := by simpa using h2
      obtain ⟨g1, g2⟩ := isD_ch c hc
      simp only [valF]
      rw [show 0 * 10 + (c.toNat - 48) = c.toNat - 48 by omega, dd_small g1, g2]
  | succ k ih =>
    intro s h1 h2 h3
    rcases List.eq_nil_or_concat s with rfl | ⟨l, c, rfl⟩
    · cases h1
    · rw [List.concat_eq_append] at *
      have hl : l.length = k + 1 := by simp at h1; exact h1
      rw [List.all_append, Bool.and_eq_true] at h2
      have hc : isD c = true := by simpa using h2.2
      have hne : l ≠ [] := by intro e; rw [e] at hl; cases hl
      have hh : l.head? ≠ some 48 := fun e => h3 ⟨by simp; omega, by rw [head_app hne]; exact e⟩
      have hr := ih l hl h2.1 (fun h => hh h.2)
      have hpos : 1 ≤ valF l 0 := by
        rcases Nat.eq_zero_or_pos (valF l 0) with g | g
        · rw [g, dd_small (by omega)] at hr
          exfalso; apply hh; rw [← hr]; rfl
        · exact g
      obtain ⟨g1, g2⟩ := isD_ch c hc
      rw [valF_snoc, dd_big (by omega), show (valF l 0 * 10 + (c.toNat - 48)) / 10 = valF l 0 by omega, hr, show (valF l 0 * 10 + (c.toNat - 48)) % 10 = c.toNat - 48 by omega, g2]
theorem numP_inv {s : Str} (h : (numP s).2 = true) : ∃ n : Nat, (numP s).1 = (n : Int) ∧ dd n = s := by
  unfold numP at h ⊢
  split at h
  · rename_i hc
    rw [if_pos hc]
    obtain ⟨⟨h1, h2⟩, h3, h4⟩ := hc
    exact ⟨_, rfl, dd_of (s.length - 1) s (by omega) h4 h3⟩
  · cases h
theorem esc_nil : unescP [] = some [] := by unfold unescP; rfl
theorem unesc_esc : ∀ f : Str, unescP (escP f) = some f
  | [] => esc_nil
  | c :: f => by
    have ih := unesc_esc f
    show unescP (escC c ++ escP f) = _
    unfold escC
    split
    · rename_i h; subst h
      show unescP (92 :: 92 :: escP f) = _
      rw [un_esc, ih]; rfl
    · split
      · rename_i h; subst h
        show unescP (92 :: 112 :: escP f) = _
        rw [un_esc, ih]; rfl
      · split
        · rename_i h; subst h
          show unescP (92 :: 110 :: escP f) = _
          rw [un_esc, ih]; rfl
        · rename_i h1 h2 h3
          show unescP (c :: escP f) = _
          rw [un_other _ _ h2 h3 h1, ih]; rfl
theorem esc_free : ∀ f : Str, ∀ c ∈ escP f, c ≠ 124 ∧ c ≠ 10
  | [], c, hc => by cases hc
  | d :: f, c, hc => by
    have ih := esc_free f
    have hc : c ∈ escC d ++ escP f := hc
    rcases List.mem_append.1 hc with hc | hc
    · unfold escC at hc
      split at hc
      · simp at hc; subst hc; decide
      · split at hc
        · simp at hc; rcases hc with rfl | rfl <;> decide
        · split at hc
          · simp at hc; rcases hc with rfl | rfl <;> decide
          · simp at hc; subst hc; exact ⟨by assumption, by assumption⟩
    · exact ih c hc
theorem esc_unesc : ∀ (n : Nat) (s o : Str), s.length ≤ n → unescP s = some o → escP o = s := by
  intro n
  induction n with
  | zero =>
    intro s o h1 h2
    have : s = [] := List.eq_nil_of_length_eq_zero (by omega)
    subst this
    rw [esc_nil] at h2; cases h2; rfl
  | succ n ih =>
    intro s o h1 h2
    match s, h1, h2 with
    | [], _, h2 => rw [esc_nil] at h2; cases h2; rfl
    | c :: l, h1, h2 =>
      by_cases hc : c = 92
      · subst hc
        cases l with
        | nil => rw [un_last] at h2; cases h2
        | cons d r =>
          rw [un_esc] at h2
          cases hu : unC d with
          | none => rw [hu] at h2; cases h2
          | some x =>
            rw [hu] at h2
            obtain ⟨o', e1, rfl⟩ := Option.map_eq_some_iff.1 h2
            have := ih r o' (by simp at h1; omega) e1
            show escC x ++ escP o' = _
            rw [this]
            unfold unC at hu
            split at hu
            · rename_i hd; subst hd; cases hu; rfl
            · split at hu
              · rename_i hd; subst hd; cases hu; rfl
              · split at hu
                · rename_i hd; subst hd; cases hu; rfl
                · cases hu
      · by_cases hb : c = 124 ∨ c = 10
        · rw [un_bad _ _ hb] at h2; cases h2
        · have b1 : c ≠ 124 := fun h => hb (.inl h)
          have b2 : c ≠ 10 := fun h => hb (.inr h)
          rw [un_other _ _ b1 b2 hc] at h2
          obtain ⟨o', e1, rfl⟩ := Option.map_eq_some_iff.1 h2
          have := ih l o' (by simp at h1; omega) e1
          show escC c ++ escP o' = _
          rw [this]
          unfold escC
          rw [if_neg hc, if_neg b1, if_neg b2]; rfl
def barred (t : List Str) : Str := t.flatMap (124 :: ·)
theorem cut_bars : ∀ (h : Str) (t : List Str), (∀ p ∈ h :: t, ∀ c ∈ p, c ≠ 124) → cutL 124 (h ++ barred t) = h :: t
  | h, [], hf => by
    unfold barred
    rw [List.flatMap_nil, List.append_nil]
    exact cutL_miss (hf h (by simp))
  | h, p :: t, hf => by
    have e : h ++ barred (p :: t) = h ++ 124 :: (p ++ barred t) := by simp [barred]
    rw [e, cutL_hit _ (hf h (by simp)), cut_bars p t (fun q hq => hf q (List.mem_cons_of_mem _ hq))]
theorem bars_cut : ∀ (s : Str) (h : Str) (t : List Str), cutL 124 s = h :: t → s = h ++ barred t
  | [], h, t, e => by
    simp [cutL] at e
    obtain ⟨rfl, rfl⟩ := e
    rfl
  | c :: s, h, t, e => by
    obtain ⟨h', t', e'⟩ := cutL_pos 124 s
    have ih := bars_cut s h' t' e'
    unfold cutL at e
    split at e
    · rename_i hc
      subst hc
      rw [e'] at e
      obtain ⟨rfl, rfl⟩ := List.cons.inj e
      rw [ih]; simp [barred]
    · rw [e'] at e
      obtain ⟨rfl, rfl⟩ := List.cons.inj e
      rw [ih]; rfl
def joinL (ls : List Str) : Str := ls.flatMap (· ++ [10])
theorem join_cons (l : Str) (ls : List Str) : joinL (l :: ls) = l ++ 10 :: joinL ls := by simp [joinL]
theorem join_append (a b : List Str) : joinL (a ++ b) = joinL a ++ joinL b := by simp [joinL]
theorem cut_join : ∀ (l : Str) (ls : List Str), (∀ x ∈ l :: ls, ∀ c ∈ x, c ≠ 10) → cutL 10 (joinL (l :: ls)).dropLast = l :: ls
  | l, [], hf => by
    rw [join_cons]
    rw [show joinL [] = [] from rfl, List.dropLast_concat]
    exact cutL_miss (hf l (by simp))
  | l, l2 :: ls, hf => by
    have ih := cut_join l2 ls (fun x hx => hf x (List.mem_cons_of_mem _ hx))
    have hne : joinL (l2 :: ls) ≠ [] := by rw [join_cons]; simp
    rw [join_cons, List.dropLast_append_of_ne_nil (by simp), List.dropLast_cons_of_ne_nil hne, cutL_hit _ (hf l (by simp)), ih]
theorem join_cut : ∀ t : Str, joinL (cutL 10 t) = t ++ [10]
  | [] => rfl
  | c :: t => by
    have ih := join_cut t
    obtain ⟨h', t', e'⟩ := cutL_pos 10 t
    unfold cutL
    split
    · rename_i hc; subst hc
      rw [join_cons, ih]; rfl
    · rw [e'] at ih ⊢
      rw [join_cons] at ih
      show joinL ((c :: h') :: t') = _
      rw [join_cons, List.cons_append, ih]; rfl
def rowW (r : List Str) : Str := [82, 79, 87] ++ barred (r.map escP)
def headW (f : api_File) : Str := [70, 73, 76, 69] ++ barred [f.Kind, dd f.Source.toNat, dd f.Number.toNat]
def trailW (n c : Nat) : Str := [69, 78, 68] ++ barred [dd n, dd c]
theorem rowT_W (r : List Str) : rowT r = rowW r ++ [10] := by
  unfold rowT rowW barred
  rw [List.flatMap_map]; rfl
theorem rows_W (l : List (List Str)) : l.flatMap rowT = joinL (l.map rowW) := by
  unfold joinL
  rw [List.flatMap_map]
  congr 1
  funext r
  exact rowT_W r
theorem headT_W (f : api_File) (h : headB f.Kind f.Source f.Number = true) : headT f.Kind f.Source f.Number = headW f ++ [10] := by
  obtain ⟨_, _, _, a3, a4, a5, a6⟩ := head_small h
  have e1 : f.Source = ((f.Source.toNat : Nat) : Int) := by omega
  have e2 : f.Number = ((f.Number.toNat : Nat) : Int) := by omega
  unfold headT headW barred
  rw [show Lib.itoa f.Source = dd f.Source.toNat by rw [e1]; exact itoa_nat _, show Lib.itoa f.Number = dd f.Number.toNat by rw [e2]; exact itoa_nat _]
  simp
theorem body_W (f : api_File) (h : headB f.Kind f.Source f.Number = true) : bodyF f = joinL (headW f :: f.Rows.map rowW) := by
  unfold bodyF bodyT
  rw [headT_W f h, rows_W, join_cons]; simp
theorem full_W (f : api_File) (h : headB f.Kind f.Source f.Number = true) : fullF f = bodyF f ++ (trailW f.Rows.length (chkN (bodyF f)) ++ [10]) := by
  unfold fullF fullT
  rw [itoa_nat, itoa_nat]
  show bodyF f ++ _ = bodyF f ++ _
  congr 1
  simp [trailW, barred]
theorem full_join (f : api_File) (h : headB f.Kind f.Source f.Number = true) : fullF f = joinL (headW f :: (f.Rows.map rowW ++ [trailW f.Rows.length (chkN (bodyF f))])) := by
  rw [full_W f h, body_W f h]
  rw [show headW f :: (f.Rows.map rowW ++ [trailW f.Rows.length (chkN (joinL (headW f :: f.Rows.map rowW)))]) = (headW f :: f.Rows.map rowW) ++ [trailW f.Rows.length (chkN (joinL (headW f :: f.Rows.map rowW)))] by simp, join_append]
  simp [joinL]
theorem isD_free (c : UInt8) (h : isD c = true) : c ≠ 124 ∧ c ≠ 10 := by
  constructor
  · rintro rfl; revert h; decide
  · rintro rfl; revert h; decide
theorem dd_free (n : Nat) : ∀ c ∈ dd n, c ≠ 124 ∧ c ≠ 10 := fun c hc => isD_free c (List.all_eq_true.1 (dd_all n) c hc)
theorem badK_free (c : UInt8) (h : badK c = false) : c ≠ 124 ∧ c ≠ 10 := by
  constructor
  · rintro rfl; revert h; decide
  · rintro rfl; revert h; decide
theorem barred_mem {t : List Str} {c : UInt8} (h : c ∈ barred t) : c = 124 ∨ ∃ p ∈ t, c ∈ p := by
  obtain ⟨p, hp, hc⟩ := List.mem_flatMap.1 h
  rcases List.mem_cons.1 hc with hc | hc
  · exact .inl hc
  · exact .inr ⟨p, hp, hc⟩
theorem row_no10 (r : List Str) : ∀ c ∈ rowW r, c ≠ 10 := by
  intro c hc
  rcases List.mem_append.1 hc with hc | hc
  · simp at hc; rcases hc with rfl | rfl | rfl <;> decide
  · rcases barred_mem hc with rfl | ⟨p, hp, hc⟩
    · decide
    · obtain ⟨f, _, rfl⟩ := List.mem_map.1 hp
      exact (esc_free f c hc).2
theorem head_no10 (f : api_File) (h : headB f.Kind f.Source f.Number = true) : ∀ c ∈ headW f, c ≠ 10 := by
  obtain ⟨_, _, a3, _⟩ := head_small h
  intro c hc
  rcases List.mem_append.1 hc with hc | hc
  · simp at hc; rcases hc with rfl | rfl | rfl | rfl <;> decide
  · rcases barred_mem hc with rfl | ⟨p, hp, hc⟩
    · decide
    · simp at hp
      rcases hp with rfl | rfl | rfl
      · exact (badK_free c (a3 c hc)).2
      · exact (dd_free _ c hc).2
      · exact (dd_free _ c hc).2
theorem trail_no10 (n k : Nat) : ∀ c ∈ trailW n k, c ≠ 10 := by
  intro c hc
  rcases List.mem_append.1 hc with hc | hc
  · simp at hc; rcases hc with rfl | rfl | rfl <;> decide
  · rcases barred_mem hc with rfl | ⟨p, hp, hc⟩
    · decide
    · simp at hp
      rcases hp with rfl | rfl <;> exact (dd_free _ c hc).2
theorem cut_head (f : api_File) (h : headB f.Kind f.Source f.Number = true) : cutL 124 (headW f) = [[70, 73, 76, 69], f.Kind, dd f.Source.toNat, dd f.Number.toNat] := by
  obtain ⟨_, _, a3, _⟩ := head_small h
  refine cut_bars _ _ ?_
  intro p hp c hc
  simp at hp
  rcases hp with rfl | rfl | rfl | rfl
  · simp at hc; rcases hc with rfl | rfl | rfl | rfl <;> decide
  · exact (badK_free c (a3 c hc)).1
  · exact (dd_free _ c hc).1
  · exact (dd_free _ c hc).1
theorem cut_trail (n k : Nat) : cutL 124 (trailW n k) = [[69, 78, 68], dd n, dd k] := by
  refine cut_bars _ _ ?_
  intro p hp c hc
  simp at hp
  rcases hp with rfl | rfl | rfl
  · simp at hc; rcases hc with rfl | rfl | rfl <;> decide
  · exact (dd_free _ c hc).1
  · exact (dd_free _ c hc).1
theorem cut_row (r : List Str) : cutL 124 (rowW r) = [82, 79, 87] :: r.map escP := by
  refine cut_bars _ _ ?_
  intro p hp c hc
  rcases List.mem_cons.1 hp with rfl | hp
  · simp at hc; rcases hc with rfl | rfl | rfl <;> decide
  · obtain ⟨f, _, rfl⟩ := List.mem_map.1 hp
    exact (esc_free f c hc).1
theorem headO_W (f : api_File) (h : headB f.Kind f.Source f.Number = true) : headO (cutL 124 (headW f)) = some ⟨f.Kind, f.Source, f.Number, []⟩ := by
  obtain ⟨_, _, _, a3, a4, a5, a6⟩ := head_small h
  have e1 : ((f.Source.toNat : Nat) : Int) = f.Source := by omega
  have e2 : ((f.Number.toNat : Nat) : Int) = f.Number := by omega
  rw [cut_head f h, headO4, numP_dd _ (by omega), numP_dd _ (by omega)]
  dsimp only
  rw [e1, e2, if_pos ⟨rfl, rfl, rfl, h⟩]
theorem trailO_W (n k : Nat) (hn : n ≤ 9999) (hk : k ≤ 9999) : trailO (cutL 124 (trailW n k)) = some ((n : Int), (k : Int)) := by
  rw [cut_trail, trailO3, numP_dd _ hn, numP_dd _ hk]
  exact if_pos ⟨rfl, rfl, rfl⟩
theorem unRow_W : ∀ (r : List Str), (∀ x ∈ r, fieldB x = true) → unRow (r.map escP) = some r
  | [], _ => rfl
  | x :: r, h => by
    show unRow (escP x :: r.map escP) = _
    unfold unRow
    rw [unesc_esc]
    dsimp only
    rw [if_pos (h x (by simp)), unRow_W r (fun y hy => h y (List.mem_cons_of_mem _ hy))]; rfl
theorem rowP_W (r : List Str) (h : rowB r = true) : rowP (rowW r) = (r, true) := by
  obtain ⟨h1, h2, h3⟩ := row_small h
  unfold rowP
  rw [cut_row]
  rw [if_pos ⟨rfl, by simp; omega, by simp; omega⟩, show ([82, 79, 87] :: r.map escP : List Str).tail = r.map escP from rfl, unRow_W r h3]
theorem unRows_W : ∀ (l : List (List Str)), (∀ r ∈ l, rowB r = true) → unRows (l.map rowW) = some l
  | [], _ => rfl
  | r :: l, h => by
    show unRows (rowW r :: l.map rowW) = _
    unfold unRows
    rw [rowP_W r (h r (by simp))]
    dsimp only
    rw [unRows_W l (fun x hx => h x (List.mem_cons_of_mem _ hx))]; rfl
theorem parse_full (f : api_File) (h : validB f = true) (hl : (fullF f).length ≤ 8192) : parseP (fullF f) = (f, 0) := by
  obtain ⟨h1, h2⟩ := valid_parts h
  obtain ⟨b1, b2⟩ := rows_small h2
  have hc := chkN_lt (bodyF f)
  have hW := full_W f h1
  have hJ := full_join f h1
  unfold parseP
  rw [if_neg (by omega), if_neg (by rw [hW]; simp)]
  have hcut : cutL 10 (fullF f).dropLast = headW f :: (f.Rows.map rowW ++ [trailW f.Rows.length (chkN (bodyF f))]) := by
    rw [hJ]
    refine cut_join _ _ ?_
    intro x hx c hc
    simp only [List.mem_cons, List.mem_append, List.mem_map, List.not_mem_nil, or_false] at hx
    rcases hx with rfl | ⟨r, _, rfl⟩ | rfl
    · exact head_no10 f h1 c hc
    · exact row_no10 r c hc
    · exact trail_no10 _ _ c hc
  rw [hcut]
  unfold parseL
  have hgl : (headW f :: (f.Rows.map rowW ++ [trailW f.Rows.length (chkN (bodyF f))])).getLastD [] = trailW f.Rows.length (chkN (bodyF f)) := by
    rw [show headW f :: (f.Rows.map rowW ++ [trailW f.Rows.length (chkN (bodyF f))]) = (headW f :: f.Rows.map rowW) ++ [trailW f.Rows.length (chkN (bodyF f))] by simp, List.getLastD_concat]
  rw [if_neg (by simp), hgl, show (headW f :: (f.Rows.map rowW ++ [trailW f.Rows.length (chkN (bodyF f))])).headD [] = headW f from rfl, headO_W f h1]
  dsimp only
  rw [trailO_W _ _ (by omega) (by omega)]
  dsimp only
  rw [show (headW f :: (f.Rows.map rowW ++ [trailW f.Rows.length (chkN (bodyF f))])).tail.dropLast = f.Rows.map rowW by simp, unRows_W _ b2]
  dsimp only
  rw [if_neg (by rintro (h | h); exact h rfl; omega)]
  have ht : (fullF f).take ((fullF f).length - 1 - (trailW f.Rows.length (chkN (bodyF f))).length) = bodyF f := by
    have hlen : (fullF f).length - 1 - (trailW f.Rows.length (chkN (bodyF f))).length = (bodyF f).length := by
      rw [hW]; simp only [List.length_append, List.length_cons, List.length_nil]; omega
    rw [hlen, hW, List.take_left]
  rw [ht, if_neg (fun h => h rfl)]
theorem unRow_inv : ∀ (T r : List Str), unRow T = some r → T = r.map escP ∧ ∀ x ∈ r, fieldB x = true
  | [], r, h => by simp [unRow] at h; subst h; exact ⟨rfl, fun x hx => by cases hx⟩
  | w :: T, r, h => by
    unfold unRow at h
    cases hu : unescP w with
    | none => rw [hu] at h; cases h
    | some o =>
      rw [hu] at h
      dsimp only at h
      split at h
      · rename_i hf
        obtain ⟨r', e, rfl⟩ := Option.map_eq_some_iff.1 h
        obtain ⟨g1, g2⟩ := unRow_inv T r' e
        refine ⟨by rw [g1, List.map_cons, esc_unesc _ w o (Nat.le_refl _) hu], fun x hx => ?_⟩
        rcases List.mem_cons.1 hx with rfl | hx
        · exact hf
        · exact g2 x hx
      · cases h
theorem rowP_inv {line : Str} {r : List Str} (h : rowP line = (r, true)) : line = rowW r ∧ rowB r = true := by
  unfold rowP at h
  obtain ⟨hd, T, e⟩ := cutL_pos 124 line
  rw [e] at h
  split at h
  · rename_i hc
    obtain ⟨c1, c2, c3⟩ := hc
    have c1 : hd = [82, 79, 87] := c1
    subst c1
    have hb := bars_cut line _ T e
    rw [show ([82, 79, 87] :: T : List Str).tail = T from rfl] at h
    cases hu : unRow T with
    | none => rw [hu] at h; cases h
    | some r' =>
      rw [hu] at h
      cases h
      obtain ⟨g1, g2⟩ := unRow_inv T r hu
      refine ⟨by rw [hb, g1]; rfl, ?_⟩
      have hlen : T.length = r.length := by rw [g1]; simp
      unfold rowB
      rw [if_pos (by simp at c2 c3; omega), show (r.any fun f => !(fieldB f)) = false from List.any_eq_false.2 fun x hx => by rw [g2 x hx]; simp]
      rfl
  · cases h
theorem unRows_inv : ∀ (M : List Str) (rows : List (List Str)), unRows M = some rows → M = rows.map rowW ∧ ∀ r ∈ rows, rowB r = true
  | [], rows, h => by simp [unRows] at h; subst h; exact ⟨rfl, fun x hx => by cases hx⟩
  | l :: M, rows, h => by
    unfold unRows at h
    rcases hr : rowP l with ⟨r, b⟩
    rw [hr] at h
    cases b with
    | false => cases h
    | true =>
      dsimp only at h
      obtain ⟨r', e, rfl⟩ := Option.map_eq_some_iff.1 h
      obtain ⟨g1, g2⟩ := unRows_inv M r' e
      obtain ⟨k1, k2⟩ := rowP_inv hr
      refine ⟨by rw [g1, k1]; rfl, fun x hx => ?_⟩
      rcases List.mem_cons.1 hx with rfl | hx
      · exact k2
      · exact g2 x hx
theorem headO_inv {line : Str} {f : api_File} (h : headO (cutL 124 line) = some f) : line = headW f ∧ headB f.Kind f.Source f.Number = true := by
  generalize he : cutL 124 line = y at h
  match y, he, h with
  | [a, k, so, nu], he, h =>
    rw [headO4] at h
    split at h
    · rename_i hc
      obtain ⟨c1, c2, c3, c4⟩ := hc
      obtain ⟨n1, e1, e2⟩ := numP_inv c2
      obtain ⟨n2, e3, e4⟩ := numP_inv c3
      cases h
      have hb := bars_cut line _ _ he
      refine ⟨?_, c4⟩
      rw [hb, c1]
      unfold headW
      dsimp only
      rw [e1, e3, Int.toNat_natCast, Int.toNat_natCast, e2, e4]
    · cases h
  | [], he, h => cases h
  | [a], he, h => cases h
  | [a, b], he, h => cases h
  | [a, b, c], he, h => cases h
  | a :: b :: c :: d :: e :: l, he, h => cases h
theorem trailO_inv {line : Str} {n c : Int} (h : trailO (cutL 124 line) = some (n, c)) : ∃ n' c' : Nat, n = n' ∧ c = c' ∧ line = trailW n' c' := by
  generalize he : cutL 124 line = y at h
  match y, he, h with
  | [a, x, z], he, h =>
    rw [trailO3] at h
    split at h
    · rename_i hc
      obtain ⟨c1, c2, c3⟩ := hc
      obtain ⟨n1, e1, e2⟩ := numP_inv c2
      obtain ⟨n2, e3, e4⟩ := numP_inv c3
      cases h
      have hb := bars_cut line _ _ he
      refine ⟨n1, n2, e1, e3, ?_⟩
      rw [hb, c1]
      unfold trailW
      rw [e2, e4]
    · cases h
  | [], he, h => cases h
  | [a], he, h => cases h
  | [a, b], he, h => cases h
  | a :: b :: c :: d :: l, he, h => cases h
theorem parse_inv {u : Str} {p : api_File} (h : parseP u = (p, 0)) : validB p = true ∧ fullF p = u ∧ u.length ≤ 8192 := by
  unfold parseP at h
  split at h
  · cases h
  · rename_i hlen
    split at h
    · cases h
    · rename_i hlast
      have hlast : u.getLast? = some 10 := Classical.byContradiction fun e => hlast e
      have hu := last_snoc u hlast
      unfold parseL at h
      split at h
      · cases h
      · rename_i h2
        have hjoin := join_cut u.dropLast
        rw [← hu] at hjoin
        obtain ⟨hd, M, z, e⟩ := two_parts (cutL 10 u.dropLast) (by omega)
        rw [e] at h hjoin
        have hgl : (hd :: (M ++ [z])).getLastD [] = z := by
          rw [show hd :: (M ++ [z]) = (hd :: M) ++ [z] by simp, List.getLastD_concat]
        rw [hgl, show (hd :: (M ++ [z])).headD [] = hd from rfl, show (hd :: (M ++ [z])).tail.dropLast = M by simp] at h
        cases hh : headO (cutL 124 hd) with
        | none => rw [hh] at h; cases h
        | some f =>
          rw [hh] at h
          dsimp only at h
          cases ht : trailO (cutL 124 z) with
          | none => rw [ht] at h; cases h
          | some nc =>
            obtain ⟨n, c⟩ := nc
            rw [ht] at h
            dsimp only at h
            cases hr : unRows M with
            | none => rw [hr] at h; cases h
            | some rows =>
              rw [hr] at h
              dsimp only at h
              split at h
              · cases h
              · rename_i h5
                split at h
                · cases h
                · rename_i h6
                  have h6 : c = _ := Classical.byContradiction fun e => h6 e
                  cases h
                  obtain ⟨k1, k2⟩ := headO_inv hh
                  obtain ⟨n', c', g1, g2, g3⟩ := trailO_inv ht
                  obtain ⟨m1, m2⟩ := unRows_inv M rows hr
                  have g4 : n = (rows.length : Int) := Classical.byContradiction fun e => h5 (.inl e)
                  have g5 : ¬ 40 < rows.length := fun e => h5 (.inr e)
                  have hn : n' = rows.length := by omega
                  have hv : validB ⟨f.Kind, f.Source, f.Number, rows⟩ = true := by
                    unfold validB
                    rw [k2, Bool.true_and]
                    unfold rowsB
                    rw [if_pos (show rows.length ≤ 40 by omega), show (rows.any fun r => !(rowB r)) = false from List.any_eq_false.2 fun x hx => by rw [m2 x hx]; simp]
                    rfl
                  have hbody : bodyF ⟨f.Kind, f.Source, f.Number, rows⟩ = joinL (hd :: M) := by
                    rw [body_W ⟨f.Kind, f.Source, f.Number, rows⟩ k2, m1, k1]; rfl
                  have hsplit : u = joinL (hd :: M) ++ (z ++ [10]) := by
                    rw [← hjoin, show hd :: (M ++ [z]) = (hd :: M) ++ [z] by simp, join_append]
                    simp [joinL]
                  have htake : u.take (u.length - 1 - z.length) = joinL (hd :: M) := by
                    have hl : u.length - 1 - z.length = (joinL (hd :: M)).length := by
                      have := congrArg List.length hsplit
                      simp only [List.length_append, List.length_cons, List.length_nil] at this
                      omega
                    rw [hl]
                    conv => lhs; rw [hsplit]
                    exact List.take_left
                  refine ⟨hv, ?_, by omega⟩
                  rw [full_W ⟨f.Kind, f.Source, f.Number, rows⟩ k2, hbody]
                  rw [htake] at h6
                  have hc : c' = chkN (joinL (hd :: M)) := by omega
                  rw [hsplit, g3, hn, hc]
theorem same_row (a : api_File) (i : Nat) (hi : i < a.Rows.length) (hl : a.Rows[i].length ≤ 1000000) : iter (law03_same_l3 a a (i : Int)) (0 : Int) = some (.inl ()) := by
  refine iter_up (law03_same_l3 a a (i : Int)) (fun k => (k : Int)) a.Rows[i].length _ (fun k hk => ?_) ?_
  · simp only [law03_same_l3]
    rw [req_pos (by omega), ix_nat _ _ hi, lt_t hk, cond_true, req_pos (by omega), beq_self_eq_true, Bool.not_true, cond_false, i64_add1 k (by omega)]
  · simp only [law03_same_l3]
    rw [req_pos (by omega), ix_nat _ _ hi, lt_f (Nat.le_refl _), cond_false]
theorem same_self (a : api_File) (h1 : a.Rows.length ≤ 1000000) (h2 : ∀ r ∈ a.Rows, r.length ≤ 1000000) : law03_same a a = some true := by
  unfold law03_same
  rw [show ((((!(a.Kind == a.Kind)) || (a.Source != a.Source)) || (a.Number != a.Number)) || ((a.Rows.length : Int) != (a.Rows.length : Int))) = false by simp, cond_false]
  have : iter (law03_same_l4 a a) (0 : Int) = some (.inl ()) := by
    refine iter_up (law03_same_l4 a a) (fun k => (k : Int)) a.Rows.length _ (fun k hk => ?_) ?_
    · simp only [law03_same_l4]
      rw [lt_t hk, cond_true, req_pos (by omega), bne_self_eq_false, cond_false, same_row a k hk (h2 _ (List.getElem_mem hk)), some_bind]
      unfold law03_same_j2
      dsimp only
      rw [i64_add1 k (by omega)]
    · simp only [law03_same_l4]
      rw [lt_f (Nat.le_refl _), cond_false]
  rw [this]; rfl
theorem same_small (a : api_File) (h : Small a) : law03_same a a = some true := same_self a (by have := h.2.1; omega) (fun r hr => by have := h.2.2.1 r hr; omega)
def fA : api_File := ⟨[69, 78, 84, 82, 89], 7, 3, [[[49, 50], [97, 124, 98]]]⟩
theorem validA : validB fA = true := by decide
theorem dd7 : Lib.itoa 7 = [55] := by rw [show (7 : Int) = ((7 : Nat) : Int) from rfl, itoa_nat, dd_small (by omega)]; rfl
theorem dd3 : Lib.itoa 3 = [51] := by rw [show (3 : Int) = ((3 : Nat) : Int) from rfl, itoa_nat, dd_small (by omega)]; rfl
theorem bodyA : bodyF fA = [70, 73, 76, 69, 124, 69, 78, 84, 82, 89, 124, 55, 124, 51, 10, 82, 79, 87, 124, 49, 50, 124, 97, 92, 112, 98, 10] := by
  unfold bodyF bodyT headT
  rw [show fA.Source = 7 from rfl, show fA.Number = 3 from rfl, dd7, dd3]
  decide
theorem awake_ok : law03_awake = some true := by
  unfold law03_awake
  have hs := valid_small validA
  have hb : (bodyF fA).length = 27 := by rw [bodyA]; rfl
  have hW := full_W fA (valid_parts validA).1
  have hc := chkN_lt (bodyF fA)
  have l4 := dd_len 4 (chkN (bodyF fA)) (by omega) (by simp; omega)
  have l5 := dd_len 4 fA.Rows.length (by omega) (by decide)
  have hlen : (fullF fA).length ≤ 8192 ∧ 30 < (fullF fA).length := by
    have := dd_pos (chkN (bodyF fA))
    have := dd_pos fA.Rows.length
    rw [hW]
    simp only [List.length_append, hb, trailW, barred, List.flatMap_cons, List.flatMap_nil, List.length_cons, List.length_nil]
    omega
  have hf : exchange_Format fA = some (fullF fA, 0) := by
    rw [format_eq fA hs (by decide) (by decide)]
    unfold fmtP
    rw [if_neg (by rw [validA]; simp), if_neg (by omega)]
  have hp : exchange_Parse (fullF fA) = some (fA, 0) := by rw [parse_eq, parse_full fA validA hlen.1]
  have ht : (fullF fA).take 30 = [70, 73, 76, 69, 124, 69, 78, 84, 82, 89, 124, 55, 124, 51, 10, 82, 79, 87, 124, 49, 50, 124, 97, 92, 112, 98, 10, 69, 78, 68] := by
    rw [hW, bodyA]
    simp [trailW]
  show (exchange_Format fA).bind _ = _
  rw [hf, some_bind]
  show (exchange_Parse (fullF fA)).bind _ = _
  rw [hp, some_bind]
  have hsame : law03_same fA fA = some true := same_small fA hs
  dsimp only
  rw [show law03_same (api_File.mk ([69, 78, 84, 82, 89] : Str) (7 : Int) (3 : Int) ([[([49, 50] : Str), ([97, 124, 98] : Str)]])) fA = some true from hsame, req_pos ⟨fun _ => rfl, fun _ => by omega⟩, show List.take (30 : Int).toNat (fullF fA) = _ from ht, show decide ((30 : Int) < ((fullF fA).length : Int)) = true by simp; omega]
  rfl
open Go.Proofs
def alphaT : Str := [97, 98, 124, 92, 10, 48, 90, 112, 110, 69, 126, 32]
theorem alpha_ok : ∀ c ∈ alphaT, badF c = false := by decide
def TextOK (s : Str) : Prop := s.length ≤ 6 ∧ ∀ c ∈ s, badF c = false
def RowOK (r : List Str) : Prop := 1 ≤ r.length ∧ r.length ≤ 4 ∧ ∀ x ∈ r, TextOK x
theorem text_ok (t : make_Tape) (h : TOK t) : ∃ s t', make_Tape_Text t 6 = some (s, t') ∧ TOK t' ∧ TextOK s := by
  obtain ⟨y, t1, e1, h1, y0, y6⟩ := range_ok t 0 6 h (by omega) (by omega) (by omega)
  obtain ⟨r, e2, ⟨h2, h3⟩⟩ := iter_inv (f := make_Tape_Text_l2) (fun s : Str × Int × (List Int) × Int => TOK ⟨s.2.2.1, s.2.2.2⟩ ∧ 0 ≤ s.2.1 ∧ (s.1.length : Int) + s.2.1 ≤ 6 ∧ ∀ c ∈ s.1, badF c = false) (fun s => s.2.1.toNat)
    (fun r : Str × (List Int) × Int => TOK ⟨r.2.1, r.2.2⟩ ∧ TextOK r.1) (fun s hs => by
      obtain ⟨s1, i, t3, t4⟩ := s
      obtain ⟨g1, g2, g3, g4⟩ := hs
      dsimp only at g1 g2 g3 g4
      simp only [make_Tape_Text_l2]
      by_cases hi : (0 : Int) < i
      · left
        obtain ⟨z, t', e, k1, k2, k3, _⟩ := next_ok ⟨t3, t4⟩ 12 g1 (by omega)
        have k4 := k3 (by omega)
        rw [decide_eq_true hi, cond_true, e, some_bind]
        try dsimp only
        have hz : z = ((z.toNat : Nat) : Int) := by omega
        have hlt : z.toNat < ([97, 98, 124, 92, 10, 48, 90, 112, 110, 69, 126, 32] : Str).length := by simp; omega
        have hw : IntKind.i64.wrap (z + 1) = ((z.toNat + 1 : Nat) : Int) := by rw [wrap64 (by omega) (by omega)]; omega
        rw [hw, Int.toNat_natCast, drop_take1 _ _ hlt, req_pos ⟨⟨k2, by omega, by simp; omega, by omega⟩, by simp; omega⟩]
        refine ⟨_, rfl, ⟨k1, ?_, ?_, ?_⟩, ?_⟩
        · dsimp only; rw [wrap64 (by omega) (by omega)]; omega
        · dsimp only; rw [wrap64 (by omega) (by omega)]; simp; omega
        · intro c hc
          rcases List.mem_append.1 hc with hc | hc
          · exact g4 c hc
          · have : c = ([97, 98, 124, 92, 10, 48, 90, 112, 110, 69, 126, 32] : Str)[z.toNat] := by simpa using hc
            rw [this]
            exact alpha_ok _ (List.getElem_mem hlt)
        · dsimp only; rw [wrap64 (by omega) (by omega)]; omega
      · right
        rw [decide_eq_false hi, cond_false]
        exact ⟨_, rfl, g1, by dsimp only; omega, g4⟩) (([] : Str), y, t1.L, t1.At) ⟨by exact h1, y0, by simp; omega, fun c hc => by cases hc⟩
  obtain ⟨s2, t5, t6⟩ := r
  refine ⟨s2, ⟨t5, t6⟩, ?_, h2, h3⟩
  unfold make_Tape_Text
  rw [e1, some_bind]
  try dsimp only
  rw [e2, some_bind]; rfl
theorem rowT_ok (t : make_Tape) (h : TOK t) (k : Int) (k1 : 1 ≤ k) (k4 : k ≤ 4) : ∃ a b r, iter make_Tape_File_l5 (k, t.L, t.At, ([] : List Str)) = some (a, b, r) ∧ TOK ⟨a, b⟩ ∧ RowOK r := by
  obtain ⟨r, e2, ⟨h2, h3⟩⟩ := iter_inv (f := make_Tape_File_l5) (fun s : Int × (List Int) × Int × (List Str) => TOK ⟨s.2.1, s.2.2.1⟩ ∧ 0 ≤ s.1 ∧ (s.2.2.2.length : Int) + s.1 = k ∧ ∀ x ∈ s.2.2.2, TextOK x) (fun s => s.1.toNat)
    (fun r : (List Int) × Int × (List Str) => TOK ⟨r.1, r.2.1⟩ ∧ RowOK r.2.2) (fun s hs => by
      obtain ⟨i, t3, t4, row⟩ := s
      obtain ⟨g1, g2, g3, g4⟩ := hs
      dsimp only at g1 g2 g3 g4
      simp only [make_Tape_File_l5]
      by_cases hi : (0 : Int) < i
      · left
        obtain ⟨z, t', e, m1, m2⟩ := text_ok ⟨t3, t4⟩ g1
        rw [decide_eq_true hi, cond_true, e, some_bind]
        try dsimp only
        rw [req_pos (by simp; omega)]
        refine ⟨_, rfl, ⟨m1, ?_, ?_, ?_⟩, ?_⟩
        · dsimp only; rw [wrap64 (by omega) (by omega)]; omega
        · dsimp only; rw [wrap64 (by omega) (by omega)]; simp; omega
        · intro c hc
          rcases List.mem_append.1 hc with hc | hc
          · exact g4 c hc
          · have : c = z := by simpa using hc
            rw [this]; exact m2
        · dsimp only; rw [wrap64 (by omega) (by omega)]; omega
      · right
        rw [decide_eq_false hi, cond_false]
        exact ⟨_, rfl, g1, by dsimp only; omega, by dsimp only; omega, g4⟩) (k, t.L, t.At, ([] : List Str)) ⟨h, by omega, by simp, fun c hc => by cases hc⟩
  obtain ⟨a, b, row⟩ := r
  exact ⟨a, b, row, e2, h2, h3⟩
theorem rowsT_ok (t : make_Tape) (h : TOK t) (k : Int) (k0 : 0 ≤ k) (k4 : k ≤ 4) : ∃ a b w, iter make_Tape_File_l6 (k, t.L, t.At, ([] : List (List Str))) = some (a, b, w) ∧ TOK ⟨a, b⟩ ∧ w.length ≤ 4 ∧ ∀ r ∈ w, RowOK r := by
  obtain ⟨r, e2, ⟨h2, h3, h4⟩⟩ := iter_inv (f := make_Tape_File_l6) (fun s : Int × (List Int) × Int × (List (List Str)) => TOK ⟨s.2.1, s.2.2.1⟩ ∧ 0 ≤ s.1 ∧ (s.2.2.2.length : Int) + s.1 ≤ 4 ∧ ∀ x ∈ s.2.2.2, RowOK x) (fun s => s.1.toNat)
    (fun r : (List Int) × Int × (List (List Str)) => TOK ⟨r.1, r.2.1⟩ ∧ r.2.2.length ≤ 4 ∧ ∀ x ∈ r.2.2, RowOK x) (fun s hs => by
      obtain ⟨i, t3, t4, w⟩ := s
      obtain ⟨g1, g2, g3, g4⟩ := hs
      dsimp only at g1 g2 g3 g4
      simp only [make_Tape_File_l6]
      by_cases hi : (0 : Int) < i
      · left
        obtain ⟨z, t', e, m1, m2, m3⟩ := range_ok ⟨t3, t4⟩ 1 4 g1 (by omega) (by omega) (by omega)
        obtain ⟨a, b, r, e3, m4, m5⟩ := rowT_ok t' m1 z m2 m3
        rw [decide_eq_true hi, cond_true, e, some_bind]
        try dsimp only
        rw [e3, some_bind]
        try dsimp only
        unfold make_Tape_File_j4 make_Tape_File_j3
        rw [req_pos (by simp; omega)]
        refine ⟨_, rfl, ⟨m4, ?_, ?_, ?_⟩, ?_⟩
        · dsimp only; rw [wrap64 (by omega) (by omega)]; omega
        · dsimp only; rw [wrap64 (by omega) (by omega)]; simp; omega
        · intro c hc
          rcases List.mem_append.1 hc with hc | hc
          · exact g4 c hc
          · have : c = r := by simpa using hc
            rw [this]; exact m5
        · dsimp only; rw [wrap64 (by omega) (by omega)]; omega
      · right
        rw [decide_eq_false hi, cond_false]
        exact ⟨_, rfl, g1, by dsimp only; omega, g4⟩) (k, t.L, t.At, ([] : List (List Str))) ⟨h, by omega, by simp; omega, fun c hc => by cases hc⟩
  obtain ⟨a, b, w⟩ := r
  exact ⟨a, b, w, e2, h2, h3, h4⟩
theorem rowOK_B {r : List Str} (h : RowOK r) : rowB r = true := by
  obtain ⟨h1, h2, h3⟩ := h
  unfold rowB
  rw [if_pos (by omega), show (r.any fun f => !(fieldB f)) = false from List.any_eq_false.2 fun x hx => by
    obtain ⟨g1, g2⟩ := h3 x hx
    unfold fieldB
    rw [if_pos (by omega), show x.any badF = false from List.any_eq_false.2 fun c hc => by rw [g2 c hc]; simp]
    simp]
  rfl
theorem rowOK_len {r : List Str} (h : RowOK r) : (rowT r).length ≤ 56 := by
  obtain ⟨h1, h2, h3⟩ := h
  have := flat_len fldT 13 r (fun x hx => by
    have := (h3 x hx).1
    have h2 := escP_len x
    unfold fldT; simp; omega)
  unfold rowT
  have h4 := Nat.mul_le_mul_right 13 h2
  simp only [List.length_append, List.length_cons, List.length_nil]; omega
def InRF (f : api_File) : Prop := (-9223372036854775808 ≤ f.Source ∧ f.Source ≤ 9223372036854775807) ∧ (-9223372036854775808 ≤ f.Number ∧ f.Number ≤ 9223372036854775807)
def kindsT : List Str := [[69, 78, 84, 82, 89], [82, 69, 71, 73, 83, 84, 69, 82], [65], [77, 65, 82, 75, 83]]
theorem kinds_ok : ∀ k ∈ kindsT, kindB k = true := by decide
theorem wild_ok (t : make_Tape) (h : TOK t) : ∃ y t', make_Tape_Wild t = some (y, t') ∧ TOK t' ∧ -9223372036854775808 ≤ y ∧ y ≤ 9223372036854775807 := by
  obtain ⟨y, t', e, h1, h2⟩ := pick_ok t ([(-1 : Int), (0 : Int), (1 : Int), (2 : Int), (31 : Int), (32 : Int), (99 : Int), (100 : Int), (200 : Int), (201 : Int), (9999 : Int), (10000 : Int), (1000000 : Int), (1000001 : Int), (1152921504606846976 : Int), (1152921504606846977 : Int), (-1152921504606846976 : Int), (9223372036854775807 : Int), (-9223372036854775808 : Int)]) h (by simp) (by simp)
  refine ⟨y, t', by unfold make_Tape_Wild; rw [e]; rfl, h1, ?_⟩
  simp only [List.mem_cons, List.not_mem_nil, or_false] at h2
  omega
structure Base (f : api_File) : Prop where
  valid : validB f = true
  len : (fullF f).length ≤ 400
  pos : 13 ≤ (fullF f).length
theorem full_len (f : api_File) (h : validB f = true) : 13 ≤ (fullF f).length ∧ (fullF f).length ≤ (headT f.Kind f.Source f.Number).length + (f.Rows.flatMap rowT).length + 14 := by
  obtain ⟨h1, h2⟩ := valid_parts h
  obtain ⟨b1, _⟩ := rows_small h2
  have hW := full_W f h1
  have hc := chkN_lt (bodyF f)
  have l4 := dd_len 4 (chkN (bodyF f)) (by omega) (by simp; omega)
  have l5 := dd_len 4 f.Rows.length (by omega) (by simp; omega)
  have p4 := dd_pos (chkN (bodyF f))
  have p5 := dd_pos f.Rows.length
  have hb : (bodyF f).length = (headT f.Kind f.Source f.Number).length + (f.Rows.flatMap rowT).length := by
    unfold bodyF bodyT; rw [List.length_append]
  have hh : 5 ≤ (headT f.Kind f.Source f.Number).length := by unfold headT; simp only [List.length_append, List.length_cons, List.length_nil]; omega
  rw [hW]
  simp only [List.length_append, trailW, barred, List.flatMap_cons, List.flatMap_nil, List.length_cons, List.length_nil]
  omega
theorem base_mk (k : Str) (so nu : Int) (w : List (List Str)) (hk : kindB k = true) (h1 : 0 ≤ so) (h2 : so ≤ 3) (h3 : 0 ≤ nu) (h4 : nu ≤ 9) (h5 : w.length ≤ 4) (h6 : ∀ r ∈ w, RowOK r) : Base ⟨k, so, nu, w⟩ := by
  have hh : headB k so nu = true := by
    unfold headB
    rw [hk, decide_eq_true h1, decide_eq_true (show so ≤ 99 by omega), decide_eq_true h3, decide_eq_true (show nu ≤ 9999 by omega)]; rfl
  have hv : validB ⟨k, so, nu, w⟩ = true := by
    unfold validB
    rw [hh, Bool.true_and]
    unfold rowsB
    rw [if_pos (show w.length ≤ 40 by omega), show (w.any fun r => !(rowB r)) = false from List.any_eq_false.2 fun x hx => by rw [rowOK_B (h6 x hx)]; simp]
    rfl
  obtain ⟨g1, g2⟩ := full_len _ hv
  have g3 := headT_len9 k so nu hh
  have g4 := flat_len rowT 56 w (fun r hr => rowOK_len (h6 r hr))
  have g5 := Nat.mul_le_mul_right 56 h5
  exact ⟨hv, by dsimp only at g2; omega, g1⟩
theorem file_base (t : make_Tape) (n : Int) (h : TOK t) : ∃ k so nu w a b, make_Tape_File t n = make_Tape_File_j2 n so nu k a b w ∧ TOK ⟨a, b⟩ ∧ Base ⟨k, so, nu, w⟩ ∧ w.length ≤ 4 := by
  obtain ⟨y, t1, e1, h1, y0, y1, _⟩ := next_ok t 4 h (by omega)
  have y1 := y1 (by omega)
  obtain ⟨so, t2, e2, h2, s0, s1⟩ := range_ok t1 0 3 h1 (by omega) (by omega) (by omega)
  obtain ⟨nu, t3, e3, h3, n0, n1⟩ := range_ok t2 0 9 h2 (by omega) (by omega) (by omega)
  obtain ⟨m, t4, e4, h4, m0, m1, _⟩ := next_ok t3 5 h3 (by omega)
  have m1 := m1 (by omega)
  obtain ⟨a, b, w, e5, h5, h6, h7⟩ := rowsT_ok t4 h4 m m0 (by omega)
  refine ⟨ix kindsT y, so, nu, w, a, b, ?_, h5, base_mk _ _ _ _ (kinds_ok _ (ix_mem kindsT y y0 (by simp [kindsT]; omega))) s0 s1 n0 n1 h6 h7, h6⟩
  unfold make_Tape_File bindV
  rw [e1, some_bind]
  try dsimp only
  rw [req_pos (by simp; omega), e2, some_bind]
  try dsimp only
  rw [e3, some_bind]
  try dsimp only
  rw [e4, some_bind]
  try dsimp only
  rw [e5, some_bind]; rfl
theorem file0 (t : make_Tape) (h : TOK t) : ∃ f t', make_Tape_File t 0 = some (f, t') ∧ TOK t' ∧ Base f := by
  obtain ⟨k, so, nu, w, a, b, e, h1, h2, _⟩ := file_base t 0 h
  exact ⟨_, _, by rw [e]; rfl, h1, h2⟩
theorem bad_kinds : ∀ k ∈ ([[], [101, 110, 116, 114, 121], [84, 79, 79, 76, 79, 78, 71, 65, 75, 73, 78, 68], [65, 124, 66]] : List Str), k.length ≤ 1000 := by decide
theorem base_small {f : api_File} (h : Base f) : Small f ∧ InRF f := by
  obtain ⟨h1, _⟩ := valid_parts h.valid
  obtain ⟨_, _, _, a3, a4, a5, a6⟩ := head_small h1
  exact ⟨valid_small h.valid, by omega, by omega⟩
theorem fileN (t : make_Tape) (n : Int) (h : TOK t) (hn : n ≤ 1000) : ∃ f t', make_Tape_File t n = some (f, t') ∧ TOK t' ∧ Small f ∧ InRF f := by
  obtain ⟨k, so, nu, w, a, b, e, h1, h2, h3⟩ := file_base t n h
  obtain ⟨⟨s1, s2, s3, s4⟩, r1, r2⟩ := base_small h2
  dsimp only at s1 s2 s3 s4 r1 r2
  rw [e]
  unfold make_Tape_File_j2 make_Tape_File_j1 bindV
  by_cases hn0 : (0 : Int) < n
  · rw [decide_eq_true hn0, cond_true]
    obtain ⟨y6, t7, e7, h7⟩ := one_ok ⟨a, b⟩ n h1 (by omega)
    rw [e7, some_bind]
    try dsimp only
    cases y6 with
    | false => exact ⟨_, _, rfl, h7, ⟨s1, s2, s3, s4⟩, r1, r2⟩
    | true =>
      rw [cond_true]
      obtain ⟨y8, t9, e9, h9, y80, y81, _⟩ := next_ok t7 5 h7 (by omega)
      rw [e9, some_bind]
      try dsimp only
      rcases bcases (y8 == (0 : Int)) with c0 | c0 <;> rw [c0]
      · rw [cond_true]
        obtain ⟨y10, t11, e11, h11, y100, y101, _⟩ := next_ok t9 4 h9 (by omega)
        have y101 := y101 (by omega)
        rw [e11, some_bind]
        try dsimp only
        rw [req_pos (by simp; omega)]
        exact ⟨_, _, rfl, h11, ⟨bad_kinds _ (ix_mem _ y10 y100 (by simp; omega)), s2, s3, s4⟩, r1, r2⟩
      · rw [cond_false]
        rcases bcases (y8 == (1 : Int)) with c1 | c1 <;> rw [c1]
        · obtain ⟨z, t13, e13, h13, z1, z2⟩ := wild_ok t9 h9
          rw [cond_true, e13, some_bind]
          exact ⟨_, _, rfl, h13, ⟨s1, s2, s3, s4⟩, ⟨z1, z2⟩, r2⟩
        · rw [cond_false]
          rcases bcases (y8 == (2 : Int)) with c2 | c2 <;> rw [c2]
          · obtain ⟨z, t13, e13, h13, z1, z2⟩ := wild_ok t9 h9
            rw [cond_true, e13, some_bind]
            exact ⟨_, _, rfl, h13, ⟨s1, s2, s3, s4⟩, r1, ⟨z1, z2⟩⟩
          · rw [cond_false]
            rcases bcases (y8 == (3 : Int)) with c3 | c3 <;> rw [c3]
            · rw [cond_true, req_pos (by simp; omega)]
              refine ⟨_, _, rfl, h9, ⟨s1, by simp; omega, fun r hr => ?_, fun r hr => ?_⟩, r1, r2⟩
              · rcases List.mem_append.1 hr with hr | hr
                · exact s3 r hr
                · simp at hr; subst hr; simp
              · rcases List.mem_append.1 hr with hr | hr
                · exact s4 r hr
                · simp at hr; subst hr; intro x hx; cases hx
            · rw [cond_false, req_pos (by simp; omega)]
              refine ⟨_, _, rfl, h9, ⟨s1, by simp; omega, fun r hr => ?_, fun r hr => ?_⟩, r1, r2⟩
              · rcases List.mem_append.1 hr with hr | hr
                · exact s3 r hr
                · simp at hr; subst hr; simp
              · rcases List.mem_append.1 hr with hr | hr
                · exact s4 r hr
                · simp at hr; subst hr; intro x hx; simp at hx; subst hx; simp
  · rw [decide_eq_false hn0, cond_false]
    exact ⟨_, _, rfl, h1, ⟨s1, s2, s3, s4⟩, r1, r2⟩
theorem format_ok {f : api_File} (h : Small f) (h2 : InRF f) : exchange_Format f = some (fmtP f) := format_eq f h h2.1 h2.2
theorem zero_small : Small zeroF := by
  refine ⟨by decide, by decide, ?_, ?_⟩ <;> intro r hr <;> cases hr
theorem req_is {α β : Type} {P : Prop} (a : β) (x : Option α) : req (P → (some a).isSome = true) x = x := req_pos (fun _ => rfl) x
theorem parse_small (s : Str) : Small (parseP s).1 := by
  rcases hp : parseP s with ⟨p, e⟩
  by_cases he : e = 0
  · subst he
    exact valid_small (parse_inv hp).1
  · have : p = zeroF := by
      unfold parseP at hp
      split at hp
      · cases hp; rfl
      · split at hp
        · cases hp; rfl
        · unfold parseL at hp
          split at hp
          · cases hp; rfl
          · split at hp
            · cases hp; rfl
            · split at hp
              · cases hp; rfl
              · split at hp
                · cases hp; rfl
                · split at hp
                  · cases hp; rfl
                  · split at hp
                    · cases hp; rfl
                    · cases hp; exact absurd rfl he
    rw [this]; exact zero_small
open Go.Proofs
def TR (n c : Nat) : Str := trailW n c ++ [10]
structure WF (u b : Str) (n c : Nat) : Prop where
  eq : u = b ++ TR n c
  chk : c = chkN b
  last : b.getLast? = some 10
  rows : n + 1 = (cutL 10 b.dropLast).length
theorem wf_full (f : api_File) (h : validB f = true) : WF (fullF f) (bodyF f) f.Rows.length (chkN (bodyF f)) := by
  obtain ⟨h1, h2⟩ := valid_parts h
  refine ⟨full_W f h1, rfl, ?_, ?_⟩
  · rw [body_W f h1]
    have : ∀ (l : Str) (ls : List Str), (joinL (l :: ls)).getLast? = some 10 := by
      intro l ls
      induction ls generalizing l with
      | nil => rw [join_cons]; simp [joinL]
      | cons l2 ls ih =>
        have := ih l2
        rw [join_cons]
        rw [List.getLast?_append, List.getLast?_cons, this]; rfl
    exact this _ _
  · rw [body_W f h1, cut_join]
    · simp
    · intro x hx c hc
      rcases List.mem_cons.1 hx with rfl | hx
      · exact head_no10 f h1 c hc
      · obtain ⟨r, _, rfl⟩ := List.mem_map.1 hx
        exact row_no10 r c hc
theorem tr_len (n c : Nat) : 5 ≤ (TR n c).length := by
  have := dd_pos n
  have := dd_pos c
  unfold TR trailW barred
  simp only [List.length_append, List.flatMap_cons, List.flatMap_nil, List.length_cons, List.length_nil]
  omega
theorem tr_zero (n c : Nat) : (TR n c)[0]? = some 69 := rfl
theorem tr_rest (n c : Nat) : ∃ R, TR n c = 69 :: R ∧ ∀ x ∈ R, x ≠ 69 := by
  refine ⟨[78, 68] ++ barred [dd n, dd c] ++ [10], rfl, ?_⟩
  intro x hx
  rcases List.mem_append.1 hx with hx | hx
  · rcases List.mem_append.1 hx with hx | hx
    · simp at hx; rcases hx with rfl | rfl <;> decide
    · rcases barred_mem hx with rfl | ⟨p, hp, hc⟩
      · decide
      · have hd : isD x = true := by
          simp at hp
          rcases hp with rfl | rfl <;> exact List.all_eq_true.1 (dd_all _) x hc
        rintro rfl; revert hd; decide
  · simp at hx; subst hx; decide
theorem tr_E (n c j : Nat) (hj : 1 ≤ j) : (TR n c)[j]? ≠ some 69 := by
  obtain ⟨R, e, h⟩ := tr_rest n c
  rw [e]
  intro he
  cases j with
  | zero => omega
  | succ j =>
    rw [List.getElem?_cons_succ] at he
    exact h _ (List.mem_of_getElem? he) rfl
theorem tr_N (n c j : Nat) (h : (TR n c)[j]? = some 10) : j + 1 = (TR n c).length := by
  have hl := (List.getElem?_eq_some_iff.1 h).1
  unfold TR at h hl ⊢
  by_cases hj : j < (trailW n c).length
  · rw [List.getElem?_append_left hj] at h
    exact absurd rfl (trail_no10 n c 10 (List.mem_of_getElem? h))
  · simp only [List.length_append, List.length_cons, List.length_nil] at hl ⊢; omega
theorem tr_inj {n c n' c' : Nat} (h : TR n c = TR n' c') : n = n' ∧ c = c' := by
  unfold TR at h
  have h := List.append_cancel_right h
  have h2 := congrArg (cutL 124) h
  rw [cut_trail, cut_trail] at h2
  have e1 : dd n = dd n' := by simpa using (List.cons.inj (List.cons.inj h2).2).1
  have e2 : dd c = dd c' := by
    have := (List.cons.inj (List.cons.inj (List.cons.inj h2).2).2).1
    exact this
  exact ⟨by rw [← dd_val n, e1, dd_val], by rw [← dd_val c, e2, dd_val]⟩
theorem last_get {b : Str} (h : b.getLast? = some 10) : 1 ≤ b.length ∧ b[b.length - 1]? = some 10 := by
  refine ⟨?_, by rw [← List.getLast?_eq_getElem?]; exact h⟩
  cases b with
  | nil => cases h
  | cons a b => simp
theorem wf_apart {u u' b b' : Str} {n c n' c' : Nat} (h : WF u b n c) (h' : WF u' b' n' c') (hl : u.length = u'.length) (hb : b.length < b'.length) :
    u'[b'.length]? = some 69 ∧ u'[b'.length - 1]? = some 10 ∧ u[b'.length]? ≠ some 69 ∧ u[b'.length - 1]? ≠ some 10 ∧ u[b'.length]? ≠ some 10 := by
  obtain ⟨l1, l2⟩ := last_get h'.last
  have t1 := tr_len n' c'
  have e1 := congrArg List.length h.eq
  have e2 := congrArg List.length h'.eq
  rw [List.length_append] at e1 e2
  refine ⟨?_, ?_, ?_, ?_, ?_⟩
  · rw [h'.eq, List.getElem?_append_right (Nat.le_refl _), Nat.sub_self]; exact tr_zero _ _
  · rw [h'.eq, List.getElem?_append_left (by omega)]; exact l2
  · rw [h.eq, List.getElem?_append_right (by omega)]; exact tr_E _ _ _ (by omega)
  · rw [h.eq, List.getElem?_append_right (by omega)]
    intro he
    have := tr_N _ _ _ he
    omega
  · rw [h.eq, List.getElem?_append_right (by omega)]
    intro he
    have := tr_N _ _ _ he
    omega
theorem coprime_w : ∀ w : Nat, w < 252 → w ≠ 0 → Nat.gcd 9973 w = 1 := by decide
theorem mod_inj {K w x y : Nat} (h1 : 1 ≤ w) (h2 : w ≤ 251) (hx : x < 256) (hy : y < 256) (h : (K + w * y) % 9973 = (K + w * x) % 9973) : y = x := by
  have key : ∀ (K x y : Nat), x < 256 → y ≤ x → (K + w * y) % 9973 = (K + w * x) % 9973 → y = x := by
    intro K x y hx hyx h
    obtain ⟨d, rfl⟩ := Nat.exists_eq_add_of_le hyx
    rw [Nat.mul_add] at h
    have hd : 9973 ∣ w * d := by
      apply Nat.dvd_of_mod_eq_zero
      generalize w * d = z at h
      generalize w * y = z2 at h
      omega
    have hc : Nat.Coprime 9973 w := coprime_w w (by omega) (by omega)
    have := hc.dvd_of_dvd_mul_left hd
    rcases Nat.eq_zero_or_pos d with g | g
    · omega
    · have := Nat.le_of_dvd g this
      omega
  rcases Nat.le_total y x with g | g
  · exact key K x y hx g h
  · exact (key K y x hy g h.symm).symm
theorem wsum_mid (p r : Str) (y : UInt8) : wsum (p ++ y :: r) 0 = (wsum p 0 + wsum r (p.length + 1)) + (p.length % 251 + 1) * y.toNat := by
  rw [wsum_append]
  simp only [wsum, Nat.zero_add]
  omega
theorem wsum_mid2 (p r : Str) (y x : UInt8) : wsum (p ++ y :: x :: r) 0 = (wsum p 0 + wsum r (p.length + 2)) + ((p.length % 251 + 1) * y.toNat + ((p.length + 1) % 251 + 1) * x.toNat) := by
  rw [wsum_append]
  simp only [wsum, Nat.zero_add]
  rw [show p.length + 1 + 1 = p.length + 2 by omega]
  omega
theorem wf_take {u b : Str} {n c : Nat} (h : WF u b n c) : u.take b.length = b ∧ u.drop b.length = TR n c := by
  rw [h.eq]; exact ⟨List.take_left, List.drop_left⟩
theorem get_out (p s : Str) (x y : UInt8) (i : Nat) (h : i ≠ p.length) : (p ++ y :: s)[i]? = (p ++ x :: s)[i]? := by
  by_cases hi : i < p.length
  · rw [List.getElem?_append_left hi, List.getElem?_append_left hi]
  · rw [List.getElem?_append_right (by omega), List.getElem?_append_right (by omega)]
    obtain ⟨k, hk⟩ : ∃ k, i - p.length = k + 1 := ⟨i - p.length - 1, by omega⟩
    rw [hk]; rfl
theorem take_mid (p s : Str) (y : UInt8) (m : Nat) (h : p.length < m) : (p ++ y :: s).take m = p ++ y :: s.take (m - p.length - 1) := by
  rw [List.take_append, List.take_of_length_le (by omega)]
  obtain ⟨k, hk⟩ : ∃ k, m - p.length = k + 1 := ⟨m - p.length - 1, by omega⟩
  rw [hk]; rfl
theorem drop_mid (p s : Str) (y : UInt8) (m : Nat) (h : p.length < m) : (p ++ y :: s).drop m = s.drop (m - p.length - 1) := by
  rw [List.drop_append, List.drop_eq_nil_of_le (by omega)]
  obtain ⟨k, hk⟩ : ∃ k, m - p.length = k + 1 := ⟨m - p.length - 1, by omega⟩
  rw [hk]; rfl
theorem wf_body {u u' b b' : Str} {n c n' c' : Nat} (h : WF u b n c) (h' : WF u' b' n' c') (hb : b = b') : u = u' := by
  subst hb
  have : c = c' := h.chk.trans h'.chk.symm
  have hn : n = n' := by have := h.rows.trans h'.rows.symm; omega
  rw [h.eq, h'.eq, this, hn]
theorem detect1 {p s b b' : Str} {x y : UInt8} {n c n' c' : Nat} (h : WF (p ++ y :: s) b n c) (h' : WF (p ++ x :: s) b' n' c') : y = x := by
  have hl : (p ++ y :: s).length = (p ++ x :: s).length := by simp
  rcases Nat.lt_trichotomy b.length b'.length with g | g | g
  · obtain ⟨a1, a2, a3, a4, _⟩ := wf_apart h h' hl g
    exfalso
    by_cases hp : b'.length = p.length
    · apply a4
      rw [get_out p s x y _ (by omega)]; exact a2
    · apply a3
      rw [get_out p s x y _ hp]; exact a1
  · obtain ⟨k1, k2⟩ := wf_take h
    obtain ⟨k3, k4⟩ := wf_take h'
    rw [← g] at k3 k4
    by_cases hp : p.length < b.length
    · rw [take_mid _ _ _ _ hp] at k1 k3
      rw [drop_mid _ _ _ _ hp] at k2 k4
      obtain ⟨_, hc⟩ := tr_inj (k2.symm.trans k4)
      have e : chkN b = chkN b' := by rw [← h.chk, ← h'.chk, hc]
      unfold chkN at e
      rw [← k1, ← k3, wsum_mid, wsum_mid] at e
      apply UInt8.toNat_inj.1
      exact mod_inj (by omega) (by have := Nat.mod_lt p.length (show 0 < 251 by decide); omega) (UInt8.toNat_lt x) (UInt8.toNat_lt y) e
    · have e1 : b = b' := by
        rw [← k1, ← k3, List.take_append, List.take_append, Nat.sub_eq_zero_of_le (by omega)]
        rfl
      have e2 := List.append_cancel_left (wf_body h h' e1)
      exact (List.cons.inj e2).1
  · obtain ⟨a1, a2, a3, a4, _⟩ := wf_apart h' h hl.symm g
    exfalso
    by_cases hp : b.length = p.length
    · apply a4
      rw [get_out p s y x _ (by omega)]; exact a2
    · apply a3
      rw [get_out p s y x _ hp]; exact a1
theorem get_out2 (p s : Str) (x y : UInt8) (i : Nat) (h : i ≠ p.length) (h2 : i ≠ p.length + 1) : (p ++ y :: x :: s)[i]? = (p ++ x :: y :: s)[i]? := by
  by_cases hi : i < p.length
  · rw [List.getElem?_append_left hi, List.getElem?_append_left hi]
  · rw [List.getElem?_append_right (by omega), List.getElem?_append_right (by omega)]
    obtain ⟨k, hk⟩ : ∃ k, i - p.length = k + 2 := ⟨i - p.length - 2, by omega⟩
    rw [hk]; rfl
theorem get_at (p s : Str) (x : UInt8) : (p ++ x :: s)[p.length]? = some x := by
  rw [List.getElem?_append_right (Nat.le_refl _), Nat.sub_self]; rfl
theorem get_at1 (p s : Str) (x y : UInt8) : (p ++ x :: y :: s)[p.length + 1]? = some y := by
  rw [List.getElem?_append_right (by omega), show p.length + 1 - p.length = 1 by omega]; rfl
theorem swap_apart {p s b b' : Str} {x y : UInt8} {n c n' c' : Nat} (h : WF (p ++ y :: x :: s) b n c) (h' : WF (p ++ x :: y :: s) b' n' c') (g : b.length < b'.length) : False := by
  have hl : (p ++ y :: x :: s).length = (p ++ x :: y :: s).length := by simp
  obtain ⟨a1, a2, a3, a4, a5⟩ := wf_apart h h' hl g
  obtain ⟨l1, _⟩ := last_get h'.last
  by_cases hp : b'.length = p.length
  · apply a4
    rw [get_out2 p s x y _ (by omega) (by omega)]; exact a2
  · by_cases hp1 : b'.length = p.length + 1
    · apply a5
      rw [hp1] at a2 ⊢
      rw [show p.length + 1 - 1 = p.length by omega, get_at] at a2
      rw [get_at1]; exact a2
    · apply a3
      rw [get_out2 p s x y _ hp hp1]; exact a1
theorem detect2 {p s b b' : Str} {x y : UInt8} {n c n' c' : Nat} (h : WF (p ++ y :: x :: s) b n c) (h' : WF (p ++ x :: y :: s) b' n' c') : y = x := by
  rcases Nat.lt_trichotomy b.length b'.length with g | g | g
  · exact (swap_apart h h' g).elim
  · obtain ⟨k1, k2⟩ := wf_take h
    obtain ⟨k3, k4⟩ := wf_take h'
    rw [← g] at k3 k4
    by_cases hp : p.length + 1 < b.length
    · rw [take_mid _ _ _ _ (by omega), show b.length - p.length - 1 = (b.length - p.length - 2) + 1 by omega, List.take_succ_cons] at k1 k3
      rw [drop_mid _ _ _ _ (by omega), show b.length - p.length - 1 = (b.length - p.length - 2) + 1 by omega, List.drop_succ_cons] at k2 k4
      obtain ⟨_, hc⟩ := tr_inj (k2.symm.trans k4)
      have e : chkN b = chkN b' := by rw [← h.chk, ← h'.chk, hc]
      unfold chkN at e
      rw [← k1, ← k3, wsum_mid2, wsum_mid2] at e
      have hx := UInt8.toNat_lt x
      have hy := UInt8.toNat_lt y
      have hm := Nat.mod_lt p.length (show 0 < 251 by decide)
      apply UInt8.toNat_inj.1
      by_cases hw : p.length % 251 = 250
      · have hw2 : (p.length + 1) % 251 = 0 := by omega
        rw [hw, hw2] at e
        omega
      · have hw2 : (p.length + 1) % 251 = p.length % 251 + 1 := by omega
        rw [hw2, Nat.add_mul (p.length % 251 + 1) 1 x.toNat, Nat.add_mul (p.length % 251 + 1) 1 y.toNat] at e
        generalize (p.length % 251 + 1) * x.toNat = z1 at e
        generalize (p.length % 251 + 1) * y.toNat = z2 at e
        omega
    · by_cases hp2 : p.length + 1 = b.length
      · obtain ⟨_, l2⟩ := last_get h.last
        obtain ⟨_, l4⟩ := last_get h'.last
        have m2 : (p ++ y :: x :: s)[p.length]? = some 10 := by rw [h.eq, List.getElem?_append_left (by omega), show p.length = b.length - 1 by omega]; exact l2
        have m4 : (p ++ x :: y :: s)[p.length]? = some 10 := by rw [h'.eq, List.getElem?_append_left (by omega), show p.length = b'.length - 1 by omega]; exact l4
        rw [get_at] at m2 m4
        have := Option.some.inj m2
        have := Option.some.inj m4
        simp_all
      · have e1 : b = b' := by
          rw [← k1, ← k3, List.take_append, List.take_append, Nat.sub_eq_zero_of_le (by omega)]
          rfl
        have e2 := List.append_cancel_left (wf_body h h' e1)
        exact (List.cons.inj e2).1
  · exact (swap_apart h' h g).elim
theorem parse_wf {u : Str} (h : (parseP u).2 = 0) : ∃ b n c, WF u b n c := by
  rcases hp : parseP u with ⟨p, e⟩
  rw [hp] at h
  have h : e = 0 := h
  subst h
  obtain ⟨g1, g2, _⟩ := parse_inv hp
  have := wf_full p g1
  rw [g2] at this
  exact ⟨_, _, _, this⟩
theorem split_at (u : Str) (k : Nat) (h : k < u.length) : u = u.take k ++ u[k] :: u.drop (k + 1) := by
  conv => lhs; rw [← List.take_append_drop k u, List.drop_eq_getElem_cons h]
open Go.Proofs
def selP (so : Int) (f : api_File) : Bool := (f.Source == so) && validB f
def numsP (l : List api_File) (so : Int) : List Nat := (l.filter (selP so)).map fun f => f.Number.toNat
def topN (ns : List Nat) : Nat := ns.foldl (fun a n => max a (n + 1)) 0
def marks (m : Nat) (ns : List Nat) : List Bool := (List.range m).map fun i => ns.contains i
def gapsN (ns : List Nat) (k : Nat) : List Int := ((List.range k).filter fun n => !(ns.contains n)).map fun (n : Nat) => ((n : Nat) : Int)
def gapsP (l : List api_File) (so : Int) : List Int := gapsN (numsP l so) (topN (numsP l so))
theorem topN_snoc (ns : List Nat) (n : Nat) : topN (ns ++ [n]) = max (topN ns) (n + 1) := by simp [topN]
theorem foldl_max_le : ∀ (ns : List Nat) (a b : Nat), a ≤ b → (∀ n ∈ ns, n + 1 ≤ b) → ns.foldl (fun a n => max a (n + 1)) a ≤ b
  | [], a, b, h, _ => h
  | n :: ns, a, b, h, hn => foldl_max_le ns _ b (Nat.max_le.2 ⟨h, hn n (by simp)⟩) fun m hm => hn m (List.mem_cons_of_mem _ hm)
theorem foldl_max_ge : ∀ (ns : List Nat) (a : Nat), a ≤ ns.foldl (fun a n => max a (n + 1)) a ∧ ∀ n ∈ ns, n + 1 ≤ ns.foldl (fun a n => max a (n + 1)) a
  | [], a => ⟨Nat.le_refl _, fun n hn => by cases hn⟩
  | m :: ns, a => by
    obtain ⟨h1, h2⟩ := foldl_max_ge ns (max a (m + 1))
    refine ⟨Nat.le_trans (Nat.le_max_left _ _) h1, fun n hn => ?_⟩
    rcases List.mem_cons.1 hn with rfl | hn
    · exact Nat.le_trans (Nat.le_max_right _ _) h1
    · exact h2 n hn
theorem topN_le (ns : List Nat) (b : Nat) (h : ∀ n ∈ ns, n + 1 ≤ b) : topN ns ≤ b := foldl_max_le ns 0 b (Nat.zero_le _) h
theorem topN_ge (ns : List Nat) (n : Nat) (h : n ∈ ns) : n + 1 ≤ topN ns := (foldl_max_ge ns 0).2 n h
theorem sel_num {so : Int} {f : api_File} (h : selP so f = true) : 0 ≤ f.Number ∧ f.Number ≤ 9999 := by
  unfold selP at h
  have hv : validB f = true := by simp at h; exact h.2
  obtain ⟨_, _, _, _, _, a5, a6⟩ := head_small (valid_parts hv).1
  exact ⟨a5, a6⟩
theorem nums_lt (l : List api_File) (so : Int) : ∀ n ∈ numsP l so, n + 1 ≤ 10000 := by
  intro n hn
  obtain ⟨f, hf, rfl⟩ := List.mem_map.1 hn
  obtain ⟨_, h2⟩ := List.mem_filter.1 hf
  obtain ⟨h3, h4⟩ := sel_num h2
  omega
theorem nums_take (l : List api_File) (so : Int) (k : Nat) (hk : k < l.length) : numsP (l.take (k + 1)) so = if selP so l[k] = true then numsP (l.take k) so ++ [l[k].Number.toNat] else numsP (l.take k) so := by
  unfold numsP
  rw [List.take_succ_eq_append_getElem hk, List.filter_append]
  by_cases h : selP so l[k] = true
  · rw [if_pos h]; simp [h]
  · rw [if_neg h]; simp [h]
theorem marks_get (m : Nat) (ns : List Nat) (n : Nat) (h : n < m) : ix (marks m ns) (n : Int) = ns.contains n := by
  rw [ix_nat _ _ (by unfold marks; simp; exact h)]
  simp [marks]
theorem marks_len (m : Nat) (ns : List Nat) : (marks m ns).length = m := by simp [marks]
theorem marks_set (m : Nat) (ns : List Nat) (n : Nat) (h : n < m) : setI (marks m ns) (n : Int) true = marks m (ns ++ [n]) := by
  unfold setI
  rw [Int.toNat_natCast]
  apply List.ext_getElem
  · simp [marks]
  · intro i h1 h2
    rw [List.getElem_set]
    simp only [marks, List.getElem_map, List.getElem_range]
    split
    · rename_i e; subst e; simp
    · rename_i e
      have : i ≠ n := fun h => e h.symm
      simp [this]
theorem marks_nil (m : Nat) : rep (m : Int) false = marks m [] := by
  unfold rep
  rw [Int.toNat_natCast]
  apply List.ext_getElem
  · simp [marks]
  · intro i h1 h2
    simp [marks]
theorem imax_top (t n : Nat) : imax ((t : Int) - 1) (n : Int) = ((max t (n + 1) : Nat) : Int) - 1 := by
  unfold imax
  split <;> omega
theorem gapsN_succ (ns : List Nat) (k : Nat) : gapsN ns (k + 1) = if ns.contains k = true then gapsN ns k else gapsN ns k ++ [(k : Int)] := by
  unfold gapsN
  rw [List.range_succ, List.filter_append, List.map_append]
  by_cases h : ns.contains k = true
  · rw [if_pos h]; simp at h; simp [h]
  · rw [if_neg h]; simp at h; simp [h]
theorem gapsN_len (ns : List Nat) (k : Nat) : (gapsN ns k).length ≤ k := by
  unfold gapsN
  rw [List.length_map]
  have := List.length_filter_le (fun n => !(ns.contains n)) (List.range k)
  simpa using this
theorem seen_loop (l : List api_File) (so : Int) (hl : l.length ≤ 100000) : iter (exchange_Gaps_l6 l so) ((-1 : Int), (0 : Int), (rep (10000 : Int) false)) = some ((topN (numsP l so) : Int) - 1, marks 10000 (numsP l so)) := by
  have := iter_up (exchange_Gaps_l6 l so) (fun k => (((topN (numsP (l.take k) so) : Nat) : Int) - 1, (k : Int), marks 10000 (numsP (l.take k) so))) l.length ((topN (numsP l so) : Int) - 1, marks 10000 (numsP l so)) (fun k hk => by
    simp only [exchange_Gaps_l6]
    rw [lt_t hk, cond_true, req_pos (by omega), ix_nat _ _ hk, valid_eq, req_is, Option.getD_some, nums_take l so k hk]
    unfold exchange_Gaps_j5
    show (bif selP so l[k] then _ else _) = _
    rcases bcases (selP so l[k]) with h | h <;> rw [h]
    · obtain ⟨h1, h2⟩ := sel_num h
      have hn : l[k].Number = ((l[k].Number.toNat : Nat) : Int) := by omega
      rw [cond_true, req_pos (by rw [marks_len]; omega), i64_add1 k (by omega), if_pos rfl, hn, imax_top, marks_set _ _ _ (by omega), topN_snoc, Int.toNat_natCast]
    · rw [cond_false, i64_add1 k (by omega), if_neg (by simp)]) (by
    simp only [exchange_Gaps_l6]
    rw [lt_f (Nat.le_refl _), cond_false, List.take_length])
  rw [show rep (10000 : Int) false = marks 10000 [] from marks_nil 10000]
  exact this
theorem gap_loop (t : Nat) (ns : List Nat) (ht : t ≤ 10000) : iter (exchange_Gaps_l3 ((t : Int) - 1) (marks 10000 ns)) ((0 : Int), ([] : List Int)) = some (gapsN ns t) := by
  refine iter_up (exchange_Gaps_l3 ((t : Int) - 1) (marks 10000 ns)) (fun k => ((k : Int), gapsN ns k)) t _ (fun k hk => ?_) ?_
  · have := gapsN_len ns k
    simp only [exchange_Gaps_l3]
    rw [decide_eq_true (show (k : Int) ≤ (t : Int) - 1 by omega), cond_true, req_pos (by rw [marks_len]; omega), marks_get _ _ _ (by omega), gapsN_succ]
    unfold exchange_Gaps_j2
    rcases bcases (ns.contains k) with h | h <;> rw [h]
    · rw [Bool.not_true, cond_false, i64_add1 k (by omega), if_pos rfl]
    · rw [Bool.not_false, cond_true, req_pos (by simp; omega), i64_add1 k (by omega), if_neg (by simp)]
  · simp only [exchange_Gaps_l3]
    rw [decide_eq_false (by omega), cond_false]
theorem ints_self (a : List Int) (h : a.length ≤ 1000000) : law03_ints a a = some true := by
  unfold law03_ints
  have : iter (law03_ints_l2 a a) (0 : Int) = some (.inl ()) := by
    refine iter_up (law03_ints_l2 a a) (fun k => (k : Int)) a.length _ (fun k hk => ?_) ?_
    · simp only [law03_ints_l2]
      rw [lt_t hk, cond_true, req_pos (by omega), bne_self_eq_false, cond_false, i64_add1 k (by omega)]
    · simp only [law03_ints_l2]
      rw [lt_f (Nat.le_refl _), cond_false]
  rw [bne_self_eq_false, cond_false, this]; rfl
theorem gaps_len (l : List api_File) (so : Int) : (gapsP l so).length ≤ 1000000 := by
  have := gapsN_len (numsP l so) (topN (numsP l so))
  have := topN_le _ _ (nums_lt l so)
  unfold gapsP; omega
theorem files_ok (t : make_Tape) (h : TOK t) : ∃ l t', law03_files t = some (l, t') ∧ TOK t' ∧ l.length ≤ 8 := by
  obtain ⟨y, t1, e1, h1, y0, y6⟩ := range_ok t 0 8 h (by omega) (by omega) (by omega)
  obtain ⟨r, e2, ⟨h2, h3⟩⟩ := iter_inv (f := law03_files_l2) (fun s : Int × (List Int) × Int × (List api_File) => TOK ⟨s.2.1, s.2.2.1⟩ ∧ 0 ≤ s.1 ∧ (s.2.2.2.length : Int) + s.1 ≤ 8) (fun s => s.1.toNat)
    (fun r : (List Int) × Int × (List api_File) => TOK ⟨r.1, r.2.1⟩ ∧ r.2.2.length ≤ 8) (fun s hs => by
      obtain ⟨i, t3, t4, l⟩ := s
      obtain ⟨g1, g2, g3⟩ := hs
      dsimp only at g1 g2 g3
      simp only [law03_files_l2]
      by_cases hi : (0 : Int) < i
      · left
        obtain ⟨f, t', e, m1, m2, m3⟩ := fileN ⟨t3, t4⟩ 8 g1 (by omega)
        rw [decide_eq_true hi, cond_true, e, some_bind]
        try dsimp only
        rw [req_pos (by simp; omega)]
        refine ⟨_, rfl, ⟨m1, ?_, ?_⟩, ?_⟩
        · dsimp only; rw [wrap64 (by omega) (by omega)]; omega
        · dsimp only; rw [wrap64 (by omega) (by omega)]; simp; omega
        · dsimp only; rw [wrap64 (by omega) (by omega)]; omega
      · right
        rw [decide_eq_false hi, cond_false]
        exact ⟨_, rfl, g1, by dsimp only; omega⟩) (y, t1.L, t1.At, ([] : List api_File)) ⟨h1, y0, by simp; omega⟩
  obtain ⟨a, b, l⟩ := r
  refine ⟨l, ⟨a, b⟩, ?_, h2, h3⟩
  unfold law03_files
  rw [e1, some_bind]
  try dsimp only
  rw [e2, some_bind]; rfl
open Go.Proofs
def rg (k : Nat) : List Int := (List.range k).map fun (j : Nat) => (j : Int)
theorem rg_succ (k : Nat) : rg (k + 1) = rg k ++ [(k : Int)] := by simp [rg, List.range_succ]
theorem mem_rg {k : Nat} {x : Int} : x ∈ rg k ↔ 0 ≤ x ∧ x < k := by
  simp only [rg, List.mem_map, List.mem_range]
  constructor
  · rintro ⟨a, h, rfl⟩; omega
  · rintro ⟨h1, h2⟩; exact ⟨x.toNat, by omega, by omega⟩
theorem map_rg {α : Type} [Inhabited α] (l : List α) : (rg l.length).map (ix l) = l := by
  apply List.ext_getElem
  · simp [rg]
  · intro i h1 h2
    simp [rg]
    exact ix_nat l i h2
theorem ins_perm (a : Int) (l : List Int) (y : Nat) : ((([] : List Int) ++ List.take y l) ++ [a] ++ List.drop y l).Perm (l ++ [a]) := by
  have h := List.perm_middle (a := a) (l₁ := List.take y l) (l₂ := List.drop y l)
  rw [List.take_append_drop] at h
  simp only [List.nil_append, List.append_assoc, List.singleton_append]
  refine h.trans ?_
  exact (List.perm_append_singleton a l).symm
theorem order_ok (t : make_Tape) (n : Nat) (h : TOK t) (hn : n ≤ 1000) : ∃ y t', make_Tape_Order t n = some (y, t') ∧ TOK t' ∧ y.Perm (rg n) := by
  unfold make_Tape_Order
  obtain ⟨⟨out, L, A⟩, e2, g1, g2⟩ := iter_inv (f := make_Tape_Order_l2 n) (fun s => 0 ≤ s.2.1 ∧ s.2.1 ≤ n ∧ TOK ⟨s.2.2.1, s.2.2.2⟩ ∧ s.1.Perm (rg s.2.1.toNat)) (fun s => (n - s.2.1).toNat)
    (fun r => TOK ⟨r.2.1, r.2.2⟩ ∧ r.1.Perm (rg n)) (by
      rintro ⟨out, i, L, A⟩ ⟨k1, k2, k3, k4⟩
      simp only at k1 k2 k3 k4
      simp only [make_Tape_Order_l2]
      have hlen : out.length = i.toNat := by rw [k4.length_eq]; simp [rg]
      rcases bcases (decide (i < (n : Int))) with hc | hc <;> rw [hc]
      · left
        have hi : i < n := by simpa using hc
        rw [wrap64 (n := i + 1) (by omega) (by omega)]
        obtain ⟨y, t1, e1, h1, h2, h3, _⟩ := next_ok ⟨L, A⟩ (i + 1) k3 (by omega)
        have h4 := h3 (by omega)
        simp only [cond_true, e1, Option.bind]
        rw [req_pos (by simp; omega), req_pos (by simp; omega), req_pos (by simp; omega)]
        refine ⟨_, rfl, ⟨by show 0 ≤ i + 1; omega, by show i + 1 ≤ n; omega, h1, ?_⟩, ?_⟩
        · show List.Perm _ (rg (i + 1).toNat)
          rw [show (i + 1).toNat = i.toNat + 1 by omega, rg_succ, show ((i.toNat : Nat) : Int) = i by omega]
          exact (ins_perm i out y.toNat).trans (k4.append_right [i])
        · show ((n : Int) - (i + 1)).toNat < ((n : Int) - i).toNat
          omega
      · right
        have hi : i = n := by simp at hc; omega
        refine ⟨_, rfl, k3, ?_⟩
        rw [hi] at k4
        exact k4) ([], 0, t.L, t.At) ⟨by simp, by simp, h, by simp [rg]⟩
  rw [e2]
  exact ⟨_, _, rfl, g1, g2⟩
theorem mixed_ok (t : make_Tape) (n : Nat) (h : TOK t) (hn : n ≤ 1000) : ∃ y t', make_Tape_Mixed t n = some (y, t') ∧ TOK t' ∧ (∀ x, x ∈ y ↔ 0 ≤ x ∧ x < n) ∧ y.length ≤ n + 3 := by
  unfold make_Tape_Mixed
  obtain ⟨p, t1, e1, h1, h2⟩ := order_ok t n h hn
  obtain ⟨i, t2, e2, h3, h4, h5, _⟩ := next_ok t1 4 h1 (by omega)
  have h6 := h5 (by omega)
  simp only [e1, e2, Option.bind]
  obtain ⟨⟨out, L, A⟩, e3, g1, g2, g3⟩ := iter_inv (f := make_Tape_Mixed_l2 n) (fun s => 0 ≤ s.2.1 ∧ TOK ⟨s.2.2.1, s.2.2.2⟩ ∧ (∀ x, x ∈ s.1 ↔ 0 ≤ x ∧ x < n) ∧ s.1.length + s.2.1 ≤ n + 3) (fun s => s.2.1.toNat)
    (fun r => TOK ⟨r.2.1, r.2.2⟩ ∧ (∀ x, x ∈ r.1 ↔ 0 ≤ x ∧ x < n) ∧ r.1.length ≤ n + 3) (by
      rintro ⟨out, i, L, A⟩ ⟨k1, k2, k3, k4⟩
      simp only at k1 k2 k3 k4
      simp only [make_Tape_Mixed_l2]
      rcases bcases ((decide ((0 : Int) < i)) && (decide ((0 : Int) < (n : Int)))) with hc | hc <;> rw [hc]
      · left
        have hi : 0 < i ∧ 0 < (n : Int) := by simpa using hc
        rw [wrap64 (n := (out.length : Int) + 1) (by omega) (by omega)]
        obtain ⟨y, t1, e1, h1, h2, h3, _⟩ := next_ok ⟨L, A⟩ ((out.length : Int) + 1) k2 (by omega)
        have h4 := h3 (by omega)
        obtain ⟨x, t3, e3, h5, h6, h7, _⟩ := next_ok t1 n h1 (by omega)
        have h8 := h7 (by omega)
        simp only [cond_true, e1, e3, Option.bind]
        rw [req_pos (by simp; omega), req_pos (by simp; omega), req_pos (by simp; omega), wrap64 (n := i - 1) (by omega) (by omega)]
        have hp := ins_perm x out y.toNat
        refine ⟨_, rfl, ⟨by show 0 ≤ i - 1; omega, h5, ?_, ?_⟩, ?_⟩
        · intro z
          refine (hp.mem_iff).trans ?_
          rw [List.mem_append, k3]
          simp
          omega
        · show ((((([] : List Int) ++ List.take y.toNat out) ++ [x]) ++ List.drop y.toNat out).length : Int) + (i - 1) ≤ n + 3
          rw [hp.length_eq]
          simp
          omega
        · show (i - 1).toNat < i.toNat
          omega
      · right
        exact ⟨_, rfl, k2, k3, by show out.length ≤ n + 3; omega⟩) (p, i, t2.L, t2.At) ⟨h4, h3, fun x => by show x ∈ p ↔ _; rw [h2.mem_iff]; exact mem_rg, by show ((p.length : Nat) : Int) + i ≤ n + 3; rw [h2.length_eq]; simp [rg]; omega⟩
  rw [e3]
  exact ⟨_, _, rfl, g1, g2, g3⟩


theorem gapsR_eq (l : List api_File) (so : Int) (hl : l.length ≤ 100000) : exchange_Gaps l so = some (gapsP l so, l) := by
  have ht := topN_le _ _ (nums_lt l so)
  unfold exchange_Gaps
  rw [req_pos (by omega), seen_loop l so hl, some_bind]
  unfold exchange_Gaps_j4
  try dsimp only
  rw [gap_loop _ _ ht]; rfl
theorem top_congr {a b : List Nat} (h : ∀ n, n ∈ a ↔ n ∈ b) : topN a = topN b :=
  Nat.le_antisymm (topN_le _ _ fun n hn => topN_ge _ n ((h n).1 hn)) (topN_le _ _ fun n hn => topN_ge _ n ((h n).2 hn))
theorem gapsN_congr {a b : List Nat} (h : ∀ n, n ∈ a ↔ n ∈ b) (k : Nat) : gapsN a k = gapsN b k := by
  unfold gapsN
  have : (fun n => !(a.contains n)) = (fun n => !(b.contains n)) := by
    funext n
    congr 1
    have := h n
    simp [List.contains_iff_mem, this, ← Bool.coe_iff_coe]
  rw [this]
theorem mem_nums {l : List api_File} {so : Int} {n : Nat} : n ∈ numsP l so ↔ ∃ f ∈ l, selP so f = true ∧ f.Number.toNat = n := by
  unfold numsP
  rw [List.mem_map]
  constructor
  · rintro ⟨f, hf, e⟩
    obtain ⟨h1, h2⟩ := List.mem_filter.1 hf
    exact ⟨f, h1, h2, e⟩
  · rintro ⟨f, h1, h2, e⟩
    exact ⟨f, List.mem_filter.2 ⟨h1, h2⟩, e⟩
theorem gapsP_congr {l m : List api_File} (so : Int) (h : ∀ f, f ∈ l ↔ f ∈ m) : gapsP l so = gapsP m so := by
  have hn : ∀ n, n ∈ numsP l so ↔ n ∈ numsP m so := fun n => by
    rw [mem_nums, mem_nums]
    exact ⟨fun ⟨f, h1, h2⟩ => ⟨f, (h f).1 h1, h2⟩, fun ⟨f, h1, h2⟩ => ⟨f, (h f).2 h1, h2⟩⟩
  unfold gapsP
  rw [top_congr hn, gapsN_congr hn]
def fillF (n : Int) : api_File := ⟨[65], 1, n, []⟩
theorem fill_sel (n : Int) (h0 : 0 ≤ n) (h1 : n ≤ 9999) : selP 1 (fillF n) = true := by
  unfold selP fillF
  have hh : headB [65] 1 n = true := by
    unfold headB
    rw [decide_eq_true h0, decide_eq_true h1]; decide
  rw [validHeadF, hh]; rfl
theorem mem_gaps {ns : List Nat} {k : Nat} {x : Int} : x ∈ gapsN ns k ↔ ∃ n : Nat, x = (n : Int) ∧ n < k ∧ n ∉ ns := by
  unfold gapsN
  rw [List.mem_map]
  constructor
  · rintro ⟨n, hn, rfl⟩
    obtain ⟨h1, h2⟩ := List.mem_filter.1 hn
    exact ⟨n, rfl, List.mem_range.1 h1, by simpa using h2⟩
  · rintro ⟨n, rfl, h1, h2⟩
    exact ⟨n, List.mem_filter.2 ⟨List.mem_range.2 h1, by simpa using h2⟩, rfl⟩
theorem closed (m : List api_File) : gapsP (m ++ (gapsP m 1).map fillF) 1 = [] := by
  have ht := topN_le _ _ (nums_lt m 1)
  have hg : ∀ x ∈ gapsP m 1, ∃ n : Nat, x = (n : Int) ∧ n < topN (numsP m 1) ∧ n ∉ numsP m 1 := fun x hx => mem_gaps.1 hx
  have hmem : ∀ n, n ∈ numsP (m ++ (gapsP m 1).map fillF) 1 ↔ n ∈ numsP m 1 ∨ (n : Int) ∈ gapsP m 1 := by
    intro n
    rw [mem_nums, mem_nums]
    constructor
    · rintro ⟨f, h1, h2, h3⟩
      rcases List.mem_append.1 h1 with h1 | h1
      · exact .inl ⟨f, h1, h2, h3⟩
      · obtain ⟨x, hx, rfl⟩ := List.mem_map.1 h1
        obtain ⟨k, rfl, _, _⟩ := hg x hx
        have : k = n := by simpa [fillF] using h3
        subst this
        exact .inr hx
    · rintro (⟨f, h1, h2, h3⟩ | hx)
      · exact ⟨f, List.mem_append.2 (.inl h1), h2, h3⟩
      · obtain ⟨k, e, h1, _⟩ := hg _ hx
        exact ⟨fillF n, List.mem_append.2 (.inr (List.mem_map.2 ⟨_, hx, rfl⟩)), fill_sel _ (by omega) (by omega), by simp [fillF]⟩
  have htop : topN (numsP (m ++ (gapsP m 1).map fillF) 1) ≤ topN (numsP m 1) := topN_le _ _ fun n hn => by
    rcases (hmem n).1 hn with h | h
    · exact topN_ge _ n h
    · obtain ⟨k, e, h1, _⟩ := hg _ h
      omega
  apply List.eq_nil_iff_forall_not_mem.2
  intro x hx
  obtain ⟨n, rfl, h1, h2⟩ := mem_gaps.1 hx
  apply h2
  rw [hmem]
  by_cases hn : n ∈ numsP m 1
  · exact .inl hn
  · exact .inr (mem_gaps.2 ⟨n, rfl, by omega, hn⟩)
theorem perm_loop (l : List api_File) (p : List Int) (hp : ∀ x ∈ p, 0 ≤ x ∧ x < (l.length : Int)) (hl : p.length ≤ 1000) : iter (law03_ExchangeGapsClose_l4 l p) ((0 : Int), ([] : List api_File)) = some (p.map (ix l)) := by
  have := iter_up (law03_ExchangeGapsClose_l4 l p) (fun k => ((k : Int), (p.take k).map (ix l))) p.length (p.map (ix l)) (fun k hk => by
    simp only [law03_ExchangeGapsClose_l4]
    have h1 := hp p[k] (List.getElem_mem hk)
    rw [lt_t hk, cond_true, ix_nat _ _ hk, req_pos ⟨by omega, h1, by simp; omega⟩, i64_add1 k (by omega), List.take_succ_eq_append_getElem hk, List.map_append]
    rfl) (by
    simp only [law03_ExchangeGapsClose_l4]
    rw [lt_f (Nat.le_refl _), cond_false, List.take_length])
  exact this
theorem fill_loop (g : List Int) (m : List api_File) (hg : g.length ≤ 20000) (hm : m.length ≤ 1000) : iter (law03_ExchangeGapsClose_l2 g) ((0 : Int), m) = some (m ++ g.map fillF) := by
  have := iter_up (law03_ExchangeGapsClose_l2 g) (fun k => ((k : Int), m ++ (g.take k).map fillF)) g.length (m ++ g.map fillF) (fun k hk => by
    simp only [law03_ExchangeGapsClose_l2]
    unfold bindV
    rw [lt_t hk, cond_true, ix_nat _ _ hk, req_pos ⟨by omega, by simp; omega⟩, i64_add1 k (by omega), List.take_succ_eq_append_getElem hk, List.map_append, List.append_assoc]
    rfl) (by
    simp only [law03_ExchangeGapsClose_l2]
    rw [lt_f (Nat.le_refl _), cond_false, List.take_length])
  simpa using this
theorem pure_ExchangeGapsClose (t : List Int) : law03_ExchangeGapsClose t = some true := by
  obtain ⟨y, e1, h1⟩ := new_ok t
  obtain ⟨l, t', e2, h2, h3⟩ := files_ok y h1
  obtain ⟨p, t2, e3, h4, h5, h6⟩ := mixed_ok t' l.length h2 (by omega)
  have hm : ∀ f, f ∈ l ↔ f ∈ p.map (ix l) := by
    intro f
    rw [List.mem_map]
    constructor
    · intro hf
      obtain ⟨k, hk, rfl⟩ := List.getElem_of_mem hf
      exact ⟨(k : Int), (h5 _).2 ⟨by omega, by omega⟩, ix_nat _ _ hk⟩
    · rintro ⟨x, hx, rfl⟩
      obtain ⟨a, b⟩ := (h5 x).1 hx
      exact ix_mem l x a b
  have hg := gapsP_congr 1 hm
  have hlen : (gapsP (p.map (ix l)) 1).length ≤ 20000 := by
    have := gapsN_len (numsP (p.map (ix l)) 1) (topN (numsP (p.map (ix l)) 1))
    have := topN_le _ _ (nums_lt (p.map (ix l)) 1)
    unfold gapsP; omega
  unfold law03_ExchangeGapsClose
  rw [e1, some_bind, e2, some_bind]
  try dsimp only
  rw [e3, some_bind]
  try dsimp only
  rw [perm_loop l p (fun x hx => (h5 x).1 hx) (by omega), some_bind]
  unfold law03_ExchangeGapsClose_j3
  rw [gapsR_eq l 1 (by omega), some_bind]
  try dsimp only
  rw [req_pos rfl, gapsR_eq _ 1 (by simp; omega), some_bind]
  try dsimp only
  rw [req_pos rfl, hg, ints_self _ (gaps_len _ 1), some_bind, Bool.not_true, cond_false, fill_loop _ _ hlen (by simp; omega), some_bind]
  unfold law03_ExchangeGapsClose_j1
  rw [gapsR_eq _ 1 (by simp; omega), some_bind]
  try dsimp only
  rw [closed, awake_ok, req_pos ⟨rfl, fun _ => rfl⟩]
  rfl
end Go.LS
