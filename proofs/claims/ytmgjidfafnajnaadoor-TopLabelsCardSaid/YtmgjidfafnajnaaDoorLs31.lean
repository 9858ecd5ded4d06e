/-
  The framework LS, part 31: arguments that are slices of structs of numbers, and structs with such slices.
  No condition: lemmas.
-/
import Derived.Test.YtmgjidfafnajnaaDoorLs30
import Derived.ChangeSlices
namespace Go.LS
set_option linter.all false
set_option linter.unusedSimpArgs false
set_option linter.unusedVariables false
open Go.RowKit
section
variable {H : Type} {enc : TypeId × Value → H} {P : Program} {w : World} {spare : Nat → Bool} {held : Bool}

def pvv : PV → Value
  | .val v => v
  | _ => undef

theorem addr_add (b o n : Nat) : (Addr.mk b o none).add n = ⟨b, o + n, none⟩ := by
  unfold Addr.add; split
  · subst_vars; rfl
  · rfl

theorem open_sl {α : Type} (en : α → List PV) (n : Nat) (R : α → Prop) {t e : TypeId} {fuel : Nat} {v : Value} {x : DataW H × List MemPlace} (ht : P.underlying t = some (.slice e)) (hc : P.cellsOf e = n) (hn : 1 ≤ n)
    (hE : ∀ m cs y, DataW.trod enc P w 0 spare held m e cs = some y → ∃ z : α, R z ∧ cs = (en z).map pvv)
    (hen : ∀ z, (en z).length = n ∧ ∀ p ∈ en z, ∃ u, p = .val u ∧ plain u = true)
    (h : DataW.trod enc P w 0 spare held fuel t [v] = some x) (hsp : ∀ a len cap, v = .slice (some a) len cap → a.spot = none) :
    ∃ zs : List α, RepP w (seen0 w) v (.sl n (zs.map en)) ∧ (∀ z ∈ zs, R z) ∧ zs.length ≤ maxLen := by
  rcases DataW.trod_slice ht h with ⟨h0, _⟩ | ⟨a, len, cap, elems, rest, m, _, hcs, _, hb, hl, hm, hlen, hel, _, _⟩
  · simp at h0; subst h0
    exact ⟨[], .slnil n, by simp, by simp⟩
  simp at hcs
  have hs := hsp a len cap hcs
  subst hcs
  obtain ⟨b, o, sp⟩ := a
  have hs' : sp = none := hs
  subst hs'
  have each : ∀ i, i < len → ∃ z : α, R z ∧ ∀ j (hj : j < (en z).length), w.cell? ⟨b, o + (i * n + j), none⟩ = some (pvv (en z)[j]) := by
    intro i hi
    have h1 := hel i hi
    rw [List.getElem?_eq_getElem (by omega), hc, Option.bind_eq_some_iff] at h1
    obtain ⟨cs, h2, h3⟩ := h1
    obtain ⟨z, hz, rfl⟩ := hE _ _ _ h3
    obtain ⟨_, h4, h5⟩ := World.cells?_some h2
    refine ⟨z, hz, fun j hj => ?_⟩
    have := h5 j (by rw [(hen z).1] at hj; exact hj)
    rw [addr_add, addr_add, List.getElem?_map, List.getElem?_eq_getElem hj] at this
    rw [← Nat.add_assoc]; exact this
  have build : ∀ k, k ≤ len → ∃ zs : List α, zs.length = k ∧ ∀ i (hi : i < zs.length), R zs[i] ∧ ∀ j (hj : j < (en zs[i]).length), w.cell? ⟨b, o + (i * n + j), none⟩ = some (pvv (en zs[i])[j]) := by
    intro k
    induction k with
    | zero => exact fun _ => ⟨[], rfl, fun i hi => absurd hi (by simp)⟩
    | succ k ih =>
      intro hk
      obtain ⟨zs, h1, h2⟩ := ih (by omega)
      obtain ⟨z, h3, h4⟩ := each k (by omega)
      refine ⟨zs ++ [z], by simp [h1], fun i hi => ?_⟩
      by_cases hi' : i < zs.length
      · have e : (zs ++ [z])[i] = zs[i] := List.getElem_append_left hi'
        simp only [e]
        exact h2 i hi'
      · have hik : i = k := by simp at hi; omega
        subst hik
        have e : (zs ++ [z])[i] = z := by rw [List.getElem_append_right (by omega)]; simp [h1]
        simp only [e]
        exact ⟨h3, h4⟩
  obtain ⟨zs, hz1, hz2⟩ := build len (Nat.le_refl _)
  refine ⟨zs, ?_, fun z hz => ?_, by omega⟩
  · have hM : maxLen = huge := by unfold maxLen huge; decide
    refine .sl b o len cap n (fun i j => (w.cell? ⟨b, o + (i * n + j), none⟩).getD undef) (zs.map en) (by simp [hz1]) hl hn (by omega) (fun y hy => ?_) (fun i j hi hj => ?_) (fun i j hi hj => ?_)
    · obtain ⟨z, _, rfl⟩ := List.mem_map.1 hy; exact (hen z).1
    · have hi' : i < zs.length := by omega
      have hc' := (hz2 i hi').2 j (by rw [(hen _).1]; exact hj)
      refine ⟨?_, by rw [hc']; rfl⟩
      unfold World.cell? at hc'
      split at hc'
      · rename_i c t fr hh
        exact (Array.getElem?_eq_some_iff.1 hh).1
      · cases hc'
    · have hi' : i < zs.length := by simpa using hi
      simp only [List.getElem_map] at hj ⊢
      rw [(hz2 i hi').2 j hj]
      obtain ⟨u, hu, hp⟩ := (hen zs[i]).2 _ (List.getElem_mem hj)
      rw [hu]
      exact .val u hp
  · obtain ⟨i, hi, rfl⟩ := List.getElem_of_mem hz
    exact (hz2 i hi).1

/-- a number's cell -/
theorem open_num {t : TypeId} {k : IntKind} {fuel : Nat} {cs : List Value} {x : DataW H × List MemPlace} (ht : P.underlying t = some (.int k)) (h : DataW.trod enc P w 0 spare held fuel t cs = some x) :
    ∃ z : Int, cs = [.int k z] ∧ (Lit.int k z).wf = true := by
  obtain ⟨m, rfl, _, hw⟩ := DataW.trod_int ht h
  exact ⟨m, rfl, hw⟩

/-- a struct's fields -/
theorem open_fields {t : TypeId} {fs : Array Field} {fuel : Nat} {cs : List Value} {x : DataW H × List MemPlace} (ht : P.underlying t = some (.struct fs)) (h : DataW.trod enc P w 0 spare held fuel t cs = some x) :
    cs.length = P.cellsOf t ∧ ∀ (i : Nat) (f : Field), fs[i]? = some f → ∃ n y, DataW.trod enc P w 0 spare held n f.type ((cs.drop f.offset).take (P.cellsOf f.type)) = some y := by
  obtain ⟨xs, n, _, _, hl, hlen, hf⟩ := DataW.trod_struct ht h
  refine ⟨hl, fun i f hi => ?_⟩
  have hlt : i < fs.size := (Array.getElem?_eq_some_iff.1 hi).1
  have := hf i f hi
  rw [List.getElem?_eq_getElem (by omega)] at this
  exact ⟨n, _, this⟩

/-- a slice among a struct's cells has a plain address -/
theorem row_spot {r : Reach} {base : Nat} {t u e : TypeId} {cs : Array Value} {ts : List TypeId} {i : Nat} {v : Value} (h : Row.okWide P w r base t cs) (hts : P.cellTypes P.depth t = some ts) (hu : ts[i % ts.length]? = some u) (he : P.underlying u = some (.slice e)) (hv : cs[i]? = some v) :
    ∀ a len cap, v = .slice (some a) len cap → a.spot = none := by
  rintro a len cap rfl
  obtain ⟨ts', h1, _, h2⟩ := h
  rw [hts] at h1; cases h1
  obtain ⟨u', h3, h4⟩ := h2 i _ hv
  rw [hu] at h3; cases h3
  simp only [Cell.okWide, he, Cell.ok] at h4
  exact h4.2.2.2.1
end
end Go.LS
namespace Go.LS
theorem repCs_nil {w : World} {S : Seen} {ρ : Place} {h : Heap} : RepCs w S ρ h [] [] := ⟨rfl, fun i hi => absurd hi (by simp)⟩
theorem repCs_cons {w : World} {S : Seen} {ρ : Place} {h : Heap} {v : Value} {vs : List Value} {l : CV} {ls : List CV} (r : RepC w S ρ h v l) (rs : RepCs w S ρ h vs ls) : RepCs w S ρ h (v :: vs) (l :: ls) :=
  ⟨by simp [rs.1], fun i hv hc => by
    cases i with
    | zero => exact r
    | succ i => exact rs.2 i (by simpa using hv) (by simpa using hc)⟩
theorem repL_aggS {w : World} {S : Seen} {ρ : Place} {h : Heap} {vs : Array Value} {ls : List CV} (r : RepCs w S ρ h vs.toList ls) : RepL w S ρ h (.agg vs) (.agg ls) := ⟨vs, rfl, r⟩
end Go.LS
