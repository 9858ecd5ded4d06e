/-
  Plain lemmas: loops over lists, wrapping numbers, bits.
  No condition: lemmas.
-/
import Derived.Test.YtkgmiidcilkmlaaLs29
namespace Go.LS
set_option linter.all false
set_option linter.unusedSimpArgs false
set_option linter.unusedVariables false

theorem ix_nat {α : Type} [Inhabited α] (l : List α) (k : Nat) (h : k < l.length) : ix l (k : Int) = l[k] := by simp [ix, List.getD, h]
theorem ix_mem {α : Type} [Inhabited α] (l : List α) (n : Int) (h0 : 0 ≤ n) (h : n < l.length) : ix l n ∈ l := by
  have : n.toNat < l.length := by omega
  simp [ix, List.getD, this]
theorem i64_add1 (k : Nat) (h : k < 4611686018427387904) : IntKind.i64.wrap ((k : Int) + 1) = ((k + 1 : Nat) : Int) := by
  rw [wrap64 (by omega) (by omega)]; omega
theorem i64_id {n : Int} (h1 : -9223372036854775808 ≤ n) (h2 : n < 9223372036854775808) : IntKind.i64.wrap n = n := wrap64 h1 h2

/-- a loop over a list that folds -/
theorem iter_fold {α β ρ : Type} (l : List α) (f : Int × β → Option ((Int × β) ⊕ ρ)) (g : β → α → β) (fin : β → ρ) (I : Nat → β → Prop)
    (hstep : ∀ (k : Nat) (b : β) (hk : k < l.length), I k b → f ((k : Int), b) = some (.inl (((k + 1 : Nat) : Int), g b l[k])) ∧ I (k + 1) (g b l[k]))
    (hend : ∀ b, I l.length b → f ((l.length : Int), b) = some (.inr (fin b))) (b : β) (h0 : I 0 b) : iter f ((0 : Int), b) = some (fin (l.foldl g b)) := by
  have key : ∀ (n k : Nat) (b : β), l.length - k = n → k ≤ l.length → I k b → iter f ((k : Int), b) = some (fin ((l.drop k).foldl g b)) := by
    intro n
    induction n with
    | zero =>
      intro k b hn hk hI
      have : k = l.length := by omega
      subst this
      rw [iter_inr (hend b hI), List.drop_length]; rfl
    | succ n ih =>
      intro k b hn hk hI
      have hk' : k < l.length := by omega
      obtain ⟨h1, h2⟩ := hstep k b hk' hI
      rw [iter_inl h1, ih (k + 1) _ (by omega) (by omega) h2, List.drop_eq_getElem_cons hk']; rfl
  have := key _ 0 b rfl (by omega) h0
  simpa using this
/-- a loop over a list that looks for an element -/
theorem iter_scan {α ρ : Type} (l : List α) (f : Int → Option (Int ⊕ ρ)) (p : α → Bool) (hit : α → ρ) (miss : ρ)
    (hstep : ∀ (k : Nat) (hk : k < l.length), f (k : Int) = some (if p l[k] = true then .inr (hit l[k]) else .inl ((k + 1 : Nat) : Int)))
    (hend : f (l.length : Int) = some (.inr miss)) : iter f (0 : Int) = some (match l.find? p with | some a => hit a | none => miss) := by
  have key : ∀ (n k : Nat), l.length - k = n → k ≤ l.length → iter f (k : Int) = some (match (l.drop k).find? p with | some a => hit a | none => miss) := by
    intro n
    induction n with
    | zero =>
      intro k hn hk
      have : k = l.length := by omega
      subst this
      rw [iter_inr hend, List.drop_length]; rfl
    | succ n ih =>
      intro k hn hk
      have hk' : k < l.length := by omega
      have h1 := hstep k hk'
      rw [List.drop_eq_getElem_cons hk', List.find?_cons]
      cases hp : p l[k] with
      | true => rw [hp, if_pos rfl] at h1; rw [iter_inr h1]
      | false => rw [hp, if_neg (by simp)] at h1; rw [iter_inl h1, ih (k + 1) (by omega) (by omega)]
  have := key _ 0 rfl (by omega)
  simpa using this
theorem find_any {α β : Type} (l : List α) (p : α → Bool) (x y : β) : (match l.find? p with | some _ => x | none => y) = if l.any p = true then x else y := by
  cases h : l.find? p with
  | none =>
    rw [List.find?_eq_none] at h
    have : l.any p = false := by rw [List.any_eq_false]; exact h
    simp [this]
  | some a =>
    have : l.any p = true := List.any_eq_true.2 ⟨a, List.mem_of_find?_eq_some h, List.find?_some h⟩
    simp [this]

/-! ### bits -/
theorem bOr_nat (a b : Nat) (ha : a < 9223372036854775808) (hb : b < 9223372036854775808) : bOr .i64 (a : Int) (b : Int) = ((a ||| b : Nat) : Int) := by
  have h := Nat.or_lt_two_pow (n := 63) (by simpa using ha) (by simpa using hb)
  have e : ∀ n : Nat, n < 9223372036854775808 → (BitVec.ofInt (IntKind.bits .i64) (n : Int)).toNat = n := fun n hn => by
    simp only [IntKind.bits, BitVec.toNat_ofInt]; omega
  unfold bOr
  rw [BitVec.toNat_or, e a ha, e b hb, wrap64 (by omega) (by omega)]
theorem bAnd_nat (a b : Nat) (ha : a < 9223372036854775808) (hb : b < 9223372036854775808) : bAnd .i64 (a : Int) (b : Int) = ((a &&& b : Nat) : Int) := by
  have h : a &&& b ≤ a := Nat.and_le_left
  have e : ∀ n : Nat, n < 9223372036854775808 → (BitVec.ofInt (IntKind.bits .i64) (n : Int)).toNat = n := fun n hn => by
    simp only [IntKind.bits, BitVec.toNat_ofInt]; omega
  unfold bAnd
  rw [BitVec.toNat_and, e a ha, e b hb, wrap64 (by omega) (by omega)]
end Go.LS
