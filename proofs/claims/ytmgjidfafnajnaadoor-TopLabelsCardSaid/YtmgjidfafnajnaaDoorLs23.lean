/-
  The framework LS, part 23: '==' on structs of two ints; more environments.
  No condition: lemmas.
-/
import Derived.Test.YtmgjidfafnajnaaDoorLs22
import Derived.Laws.StructEq
import Derived.ChangeKeysEq
namespace Go.LS
set_option linter.all false
set_option linter.unusedSimpArgs false
set_option linter.unusedVariables false
def Env.addT {P : Program} (E : Env P) (t : TypeId) (z : List Value) (ok : EqOK P t z) : Env P where
  Γ := E.Γ
  M := E.M
  Θ := fun t' => if t' = t then some z else E.Θ t'
  okΓ := E.okΓ
  okΘ := fun t' z' h => by
    by_cases ht : t' = t
    · subst ht
      simp only [if_pos] at h
      cases h; exact ok
    · simp only [if_neg ht] at h
      exact E.okΘ t' z' h
theorem Env.addT_Γ {P : Program} (E : Env P) (t : TypeId) (z : List Value) (ok) : (E.addT t z ok).Γ = E.Γ := rfl
theorem Env.addT_Θ {P : Program} (E : Env P) (t : TypeId) (z : List Value) (ok) (t' : TypeId) : (E.addT t z ok).Θ t' = if t' = t then some z else E.Θ t' := rfl
theorem Env.addT_M {P : Program} (E : Env P) (t : TypeId) (z : List Value) (ok) : (E.addT t z ok).M = E.M := rfl
attribute [go_sem] Env.add_Γ Env.add_Θ Env.addT_Γ Env.addT_Θ Env.addT_M
theorem kinds2 {xs : List Value} (h : kindsOK xs [.int .i64 0, .int .i64 0] = true) : ∃ a b, xs = [.int .i64 a, .int .i64 b] := by
  match xs, h with
  | [], h => cases h
  | [_], h => rename_i v; cases v <;> simp [kindsOK] at h
  | [u, v], h => 
    cases u <;> simp [kindsOK] at h
    cases v <;> simp [kindsOK] at h
    obtain ⟨rfl, rfl⟩ := h
    exact ⟨_, _, rfl⟩
  | _ :: _ :: _ :: _, h => 
    rename_i u v x l
    cases u <;> simp [kindsOK] at h
    cases v <;> simp [kindsOK] at h
theorem eqFields2 {P : Program} {w : World} {t : TypeId} {d : Nat} {fs : List Field} {a b x y : Int} (hf : (fs.map fun f => (decide (f.name = "_"), f.type, f.offset)) = [(false, t, 0), (false, t, 1)]) (hu : P.underlying t = some (.int .i64)) (hp : P.plainKey t = true) :
    (Op.eqFields (d + 1) #[.int .i64 a, .int .i64 b] #[.int .i64 x, .int .i64 y] fs).run P w = .ok (a == x && b == y) w := by
  match fs, hf with
  | [], hf => cases hf
  | [_], hf => simp at hf
  | _ :: _ :: _ :: _, hf => simp at hf
  | [f, g], hf =>
    simp only [List.map_cons, List.map_nil, List.cons.injEq, Prod.mk.injEq, decide_eq_false_iff_not, and_true] at hf
    obtain ⟨⟨h1, h2, h3⟩, h4, h5, h6⟩ := hf
    have e1 : ∀ n : Value, ∀ m : Value, (part f.type #[n, m] f.offset).run P w = .ok n w := fun n m => by rw [h2, h3]; exact run_part_plain w hp rfl
    have e2 : ∀ n : Value, ∀ m : Value, (part g.type #[n, m] g.offset).run P w = .ok m w := fun n m => by rw [h5, h6]; exact run_part_plain w hp rfl
    have e3 : ∀ n m : Int, (Op.equalIn (d + 1) f.type (.int .i64 n) (.int .i64 m)).run P w = .ok (n == m) w := fun n m => run_equalIn_int w d f.type .i64 .i64 n m (by rw [h2]; exact hu)
    have e4 : ∀ n m : Int, (Op.equalIn (d + 1) g.type (.int .i64 n) (.int .i64 m)).run P w = .ok (n == m) w := fun n m => run_equalIn_int w d g.type .i64 .i64 n m (by rw [h5]; exact hu)
    simp only [Op.eqFields, ne_eq, h1, h4, not_false_eq_true, if_true, Sem.run_bind, e1, e2, e3, e4, Result.andThen_ok]
    cases k1 : a == x <;> cases k2 : b == y <;> simp only [Bool.not_true, Bool.not_false, Bool.false_eq_true, if_true, if_false, Sem.run_ite, Sem.run_bind, Sem.run_pure, e2, e4, k2, Result.andThen_ok, Bool.and_true, Bool.and_false]
theorem eqOK2 {P : Program} {t u : TypeId} (h1 : P.underlying t = some (.struct (P.fieldsOf t))) (h2 : P.underlying u = some (.int .i64)) (h3 : P.stoodInHeld t = false) (h4 : P.eqGuardType P.depth t = false) (h5 : P.plainKey u = true)
    (h6 : ((P.fieldsOf t).toList.map fun f => (decide (f.name = "_"), f.type, f.offset)) = [(false, u, 0), (false, u, 1)]) : EqOK P t [.int .i64 0, .int .i64 0] := by
  intro w xs ys hx hy op x y hop
  obtain ⟨a, b, rfl⟩ := kinds2 hx
  obtain ⟨c, d, rfl⟩ := kinds2 hy
  have key := eqFields2 (P := P) (w := w) (d := 9998) (a := a) (b := b) (x := c) (y := d) h6 h2 h5
  rcases hop with rfl | rfl
  · simp only [Sem.run_bind, run_eqGuard_agg w _ t x y _ _ h4, Result.andThen_ok, run_eql_struct, run_equalIn_agg w 9999 t _ _ h1 h3, key]
    simp [cellEq]
  · simp only [Sem.run_bind, run_eqGuard_agg w _ t x y _ _ h4, Result.andThen_ok, run_neq_struct, run_equalIn_agg w 9999 t _ _ h1 h3, key]
    simp [cellEq]
end Go.LS
