/-
  The framework LS, part 24: from a contract to the statement's own form of a call.
  No condition: lemmas.
-/
import Derived.Test.YtmgjidfafnajnaaDoorLs23
import Derived.Below
import Derived.ChangeSlices
import Derived.OpenShut
namespace Go.LS
set_option linter.all false
set_option linter.unusedSimpArgs false
set_option linter.unusedVariables false
open Go.RowKit
section
variable {P : Program}

def encI (n : Int) : List PV := [.val (.int .i64 n)]
/-- What lies in memory at the start may be seen. -/
def seen0 (w : World) : Seen := fun b _ => b < w.heap.size

theorem calls_below {f : FuncId} {fn : Func} {c : Code} (hf : P.funcs[f]? = some fn) (hb : fn.body = some c) (hname : (fn.name == "runtime.NumGoroutine") = false) {args : List LV} {r : Bool} (ok : CallOK P f args [] [.bool r] [])
    (w : World) (vs : Array Value) (ht : TabOK w []) (hr : RepLs w (seen0 w) (fun _ => none) (fun _ => none) vs.toList args) : Calls P f vs w fun e w' => e = .returned (.bool r) ∧ Below w.heap.size w w' := by
  have hH : heapOf [] = (fun _ => none) := by funext k; simp [heapOf]
  have hm : Mem w [] w (seen0 w) (fun _ => none) (heapOf []) :=
    ⟨(fun id blk hb => by simp [heapOf] at hb), fun _ _ => rfl, (fun _ _ _ h => by cases h), (fun _ _ _ _ _ h => by cases h), fun b o h => ⟨h, (fun _ _ h => by cases h)⟩, Nat.le_refl _, fun _ _ _ => rfl, Calm.refl w, RowsKept.refl w, ht⟩
  have := ok w vs (seen0 w) (fun _ => none) [] hm (by rw [hH]; exact hr)
  unfold CallF at this
  rw [run_callFunc hf hb hname] at this
  refine Calls.mono this ?_
  rintro e w' ⟨v, S', ρ', rfl, hm', _, _, _, _, hv⟩
  refine ⟨by rw [repL_val (show RepL w' S' ρ' (heapOf' []) v (.bool r) from hv)], hm'.calm.1, hm'.calm.2.1, hm'.calm.2.2, hm'.size, fun k hk => hm'.frame k hk (by simp)⟩

theorem rep_int {w : World} {S : Seen} {ρ : Place} {h : Heap} (k : IntKind) (n : Int) : RepL w S ρ h (.int k n) (.int k n) := .p (.val _ rfl)
theorem repLs_nil {w : World} {S : Seen} {ρ : Place} {h : Heap} : RepLs w S ρ h [] [] := ⟨rfl, fun i hi => absurd hi (by simp)⟩
theorem repLs_cons {w : World} {S : Seen} {ρ : Place} {h : Heap} {v : Value} {vs : List Value} {l : LV} {ls : List LV} (r : RepL w S ρ h v l) (rs : RepLs w S ρ h vs ls) : RepLs w S ρ h (v :: vs) (l :: ls) :=
  ⟨by simp [rs.1], fun i hv hc => by
    cases i with
    | zero => exact r
    | succ i => exact rs.2 i (by simpa using hv) (by simpa using hc)⟩

theorem rep_ints {w : World} {x : Addr} {len cap : Nat} {zs : List Int} (hsp : x.spot = none) (hl : len ≤ cap) (hm : cap ≤ maxLen) (hz : zs.length = cap) (hc : ∀ i, i < zs.length → w.cell? (x.add i) = some (.int .i64 (zs.getD i 0))) :
    RepP w (seen0 w) (.slice (some x) len cap) (.sl 1 ((zs.take len).map encI)) := by
  obtain ⟨b, o, sp⟩ := x
  have hsp' : sp = none := hsp
  subst hsp'
  have hadd : ∀ i, (⟨b, o, none⟩ : Addr).add i = ⟨b, o + i, none⟩ := fun i => by
    unfold Addr.add
    by_cases h : i = 0
    · subst h; rfl
    · rw [if_neg h]
  refine .sl b o len cap 1 (fun i _ => .int .i64 (zs.getD i 0)) _ (by simp; omega) hl (Nat.le_refl _) (Nat.le_trans hl (Nat.le_trans hm (by unfold maxLen huge; decide))) (fun y hy => ?_) (fun i j hi hj => ?_) (fun i j hi hj => ?_)
  · obtain ⟨n, _, rfl⟩ := List.mem_map.1 hy; rfl
  · have hj0 : j = 0 := by omega
    subst hj0
    have h := hc i (by omega)
    rw [hadd] at h
    rw [show o + (i * 1 + 0) = o + i by omega]
    refine ⟨?_, h⟩
    unfold World.cell? at h
    split at h
    · rename_i c t fr hh
      exact (Array.getElem?_eq_some_iff.1 hh).1
    · cases h
  · simp only [List.length_map, List.length_take] at hi
    simp only [List.getElem_map, List.getElem_take, encI] at hj ⊢
    have hj0 : j = 0 := by simpa using hj
    subst hj0
    have hi' : i < zs.length := by omega
    simp only [List.getElem_cons_zero]
    have : zs.getD i 0 = zs[i] := by simp [List.getD, hi']
    rw [this]
    exact .val _ rfl

theorem okWide_spot {w : World} {r : Reach} {base : Nat} {t e : TypeId} {x : Addr} {len cap : Nat} (ht : P.underlying t = some (.slice e)) (h : Value.okWide P w r base t (.slice (some x) len cap)) : x.spot = none := by
  simp only [Value.okWide, ht, Cell.okWide, Cell.ok] at h
  exact h.2.2.2.1
end
end Go.LS
