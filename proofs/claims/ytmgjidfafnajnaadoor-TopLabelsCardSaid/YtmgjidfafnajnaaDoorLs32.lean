/-
  The framework LS, part 32: contracts of library functions that leave memory alone but for new blocks; strconv's numerals as plain functions.
  No condition: lemmas.
-/
import Derived.Test.YtmgjidfafnajnaaDoorLs31
import Derived.Sort.Grow
import Derived.Deep.Draws
import Derived.Lib.ItoaNum
import Derived.Laws.Strings
namespace Go.LS
set_option linter.all false
set_option linter.unusedSimpArgs false
set_option linter.unusedVariables false
open Go.RowKit Go.Sort
section
variable {P : Program}
theorem bs_toL (a : Str) : (bs a).toList = a := by rw [ByteArray.toList_eq]; simp [bs]
attribute [go_sem] bs_toL
theorem TabOK.nil {w : World} {B : List Nat} (h : TabOK w B) : TabOK w [] := fun x hx => ⟨fun h' => (nomatch h'), (h x hx).2⟩
/-- What a function hands back that is one plain value, and lays nothing but new blocks. -/
theorem callOK_grow {f : FuncId} {fn : Func} {c : Code} (hf : P.funcs[f]? = some fn) (hb : fn.body = some c) (hname : (fn.name == "runtime.NumGoroutine") = false) {args : List LV} {vals : List Value}
    (hargs : ∀ (w : World) (S : Seen) (ρ : Place) (h : Heap) (vs : List Value), RepLs w S ρ h vs args → vs = vals) {r : Value} (hr : plain r = true)
    (hc : ∀ w : World, TabOK w [] → Calls P f vals.toArray w fun e w' => e = .returned r ∧ w.heap.size ≤ w'.heap.size ∧ (∀ k, k < w.heap.size → w'.heap[k]? = w.heap[k]?) ∧ Calm w w') : CallOK P f args [] [.one (.p (.val r))] [] := by
  intro w vs S ρ B hm hrs
  have hv := hargs w S ρ _ _ hrs
  have hvs : vs = vals.toArray := by apply Array.ext'; simpa using hv
  subst hvs
  unfold CallF
  rw [run_callFunc hf hb hname]
  refine (hc w hm.tab.nil).mono ?_
  rintro e w' ⟨rfl, h1, h2, h3⟩
  have g : Grow w w' S S := ⟨h1, h2, fun _ _ h => h, fun _ _ h => .inl h, h3⟩
  have hH : heapOf' [] = heapOf [] := by funext j; simp [heapOf', heapOf]
  exact ⟨r, S, ρ, rfl, by rw [hH]; exact hm.grow g, fun _ _ h => h, fun _ _ h => .inl h, fun _ _ => rfl, fun k b o hk => .inr ⟨o, hk⟩, repL_of_val r hr⟩
theorem args1 {l : LV} {u : Value} (h : ∀ (w : World) (S : Seen) (ρ : Place) (h : Heap) (v : Value), RepL w S ρ h v l → v = u) (w : World) (S : Seen) (ρ : Place) (hh : Heap) (vs : List Value) (r : RepLs w S ρ hh vs [l]) : vs = [u] := by
  obtain ⟨h1, h2⟩ := r
  match vs, h1 with
  | [v], _ => rw [h w S ρ hh v (h2 0 (by simp) (by simp))]
theorem args2 {l l' : LV} {u u' : Value} (h : ∀ (w : World) (S : Seen) (ρ : Place) (h : Heap) (v : Value), RepL w S ρ h v l → v = u) (h' : ∀ (w : World) (S : Seen) (ρ : Place) (h : Heap) (v : Value), RepL w S ρ h v l' → v = u') (w : World) (S : Seen) (ρ : Place) (hh : Heap) (vs : List Value) (r : RepLs w S ρ hh vs [l, l']) : vs = [u, u'] := by
  obtain ⟨h1, h2⟩ := r
  match vs, h1 with
  | [v, v'], _ =>
    have e1 := h w S ρ hh v (h2 0 (by simp) (by simp))
    have e2 := h' w S ρ hh v' (h2 1 (by simp) (by simp))
    rw [e1, e2]
theorem grow_frame (w : World) (k : Nat) (os : Array Obj) : w.heap.size ≤ (grow (w.drewN k) os).heap.size ∧ (∀ j, j < w.heap.size → (grow (w.drewN k) os).heap[j]? = w.heap[j]?) ∧ Calm w (grow (w.drewN k) os) :=
  ⟨by simp [grow, World.drewN], fun j hj => by simp [grow, World.drewN, Array.getElem?_append, hj], ⟨rfl, rfl, rfl⟩⟩
end
/-- strconv.Itoa, strconv.FormatUint at base 10 -/
def strconv_Itoa (n : Int) : Option Str := if -9223372036854775808 ≤ n ∧ n ≤ 9223372036854775807 then some (Lib.itoa n) else none
def strconv_FormatUint (i base : Int) : Option Str := if 0 ≤ i ∧ i < 18446744073709551616 ∧ base = 10 then some (Lib.decDigits i.toNat) else none
end Go.LS
