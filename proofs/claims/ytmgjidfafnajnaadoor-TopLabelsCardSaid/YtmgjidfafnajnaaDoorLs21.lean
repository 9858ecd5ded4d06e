/-
  The framework LS, part 21: loops and branches of a walk.
  No condition: lemmas.
-/
import Derived.Test.YtmgjidfafnajnaaDoorLs20
namespace Go.LS
set_option linter.all false
set_option linter.unusedSimpArgs false
set_option linter.unusedVariables false
section
variable {P : Program} {V : List Nat} {st st' : LState} {Q Q' : Exit → LState → Prop}

def allS (st : LState) : List (Nat × SV) → Prop
  | [] => True
  | (t, v) :: r => st.s t = v ∧ allS st r
def allH (st : LState) : List (Nat × Blk) → Prop
  | [] => True
  | (t, v) :: r => st.h t = some v ∧ allH st r
theorem allS_mem {st : LState} : ∀ {l : List (Nat × SV)}, allS st l → ∀ p ∈ l, st.s p.1 = p.2
  | (t, v) :: r, h, p, hp => by
    rcases List.mem_cons.1 hp with rfl | hp
    · exact h.1
    · exact allS_mem h.2 p hp
theorem allH_mem {st : LState} : ∀ {l : List (Nat × Blk)}, allH st l → ∀ p ∈ l, st.h p.1 = some p.2
  | (t, v) :: r, h, p, hp => by
    rcases List.mem_cons.1 hp with rfl | hp
    · exact h.1
    · exact allH_mem h.2 p hp

theorem imp_same {st : LState} {n : Nat} {l : List (Nat × SV)} {m : List (Nat × Blk)} (hn : st.n = n) (hl : allS st l) (hm : allH st m)
    (hr : (l.all fun p => (refsS p.2).all fun i => (m.map (·.1)).contains i) = true) (hrb : (m.all fun p => (refsB p.2).all fun i => (m.map (·.1)).contains i) = true)
    (hvv : (V.all fun id => (mkH m id).isSome) = true) : Imp V st ⟨n, mkS l, mkH m⟩ := by
  subst hn
  exact imp_weaken st l m (fun p hp => by rw [allS_mem hl p hp]; exact .refl _) (fun p hp => .inl ⟨_, allH_mem hm p hp, .refl _⟩) hr hrb hvv

theorem lok_loop_from {α : Type} {c : Code} (I : α → LState) (C : α → Prop) (μ : α → Nat) (x : α) (hi : Imp V st (I x)) (h0 : C x)
    (round : ∀ x, C x → LOK P V c (I x) (thenL (fun s => ∃ y, C y ∧ μ y < μ x ∧ Imp V s (I y)) Q)) : LOK P V (.loop c) st Q :=
  lok_imp hi (lok_loop I C μ x h0 round)

theorem lok_skip_then {K : LState → Prop} (h : K st) : LOK P V .skip st (thenL K Q) := lok_skip h
/-- A region at the end of a part. -/
theorem lok_last (E : Env P) {id : Nat} {ops : List Oper} {s : LState} {q : Prop} (he : evOps P E ops.toArray ops st True = (s, q)) (hv : q) (h : Q .normal s) : LOK P V (.region id ops.toArray false) st Q :=
  lok_region E he hv h
theorem lok_draw_last (E : Env P) (m : Nat) {id : Nat} {ops : List Oper} {s : LState} {q : Prop} (hmx : P.follows .mixedOrders = true) (hlex : lexOK ops.toArray m = true) (he : evDraw P E ops.toArray m ops st True = (s, q)) (hv : q) (h : Q .normal s) : LOK P V (.region id ops.toArray true) st Q :=
  lok_region_draw E m hmx hlex he hv h

/-- An environment with one contract more. -/
def Env.add (E : Env P) (f : FuncId) (g : List LV → List Blk → CRes) (ok : ∀ args blks, (g args blks).pre → CallOK P f args blks (g args blks).rets (g args blks).blks) : Env P where
  Γ := fun d f' a b => if f' = f then g a b else E.Γ d f' a b
  M := E.M
  Θ := E.Θ
  okΓ := fun d f' a b h => by
    by_cases hf : f' = f
    · subst hf
      simp only [if_pos] at h ⊢
      exact ok a b h
    · simp only [if_neg hf] at h ⊢
      exact E.okΓ d f' a b h
  okΘ := E.okΘ
theorem Env.add_Γ (E : Env P) (f : FuncId) (g : List LV → List Blk → CRes) (ok) (d : Option Nat) (f' : FuncId) (a : List LV) (b : List Blk) : (E.add f g ok).Γ d f' a b = if f' = f then g a b else E.Γ d f' a b := rfl
theorem Env.add_Θ (E : Env P) (f : FuncId) (g : List LV → List Blk → CRes) (ok) : (E.add f g ok).Θ = E.Θ := rfl
theorem Env.add_M (E : Env P) (f : FuncId) (g : List LV → List Blk → CRes) (ok) : (E.add f g ok).M = E.M := rfl

end
theorem wrap64 {n : Int} (h1 : -9223372036854775808 ≤ n) (h2 : n < 9223372036854775808) : IntKind.wrap .i64 n = n := by
  simp only [IntKind.wrap, IntKind.bits, IntKind.signed]
  simp
  omega
theorem getD_map {α β : Type} (f : α → β) (l : List α) (d : β) {k : Nat} (h : k < l.length) : (l.map f).getD k d = f l[k] := by
  simp [List.getD, h]
end Go.LS
