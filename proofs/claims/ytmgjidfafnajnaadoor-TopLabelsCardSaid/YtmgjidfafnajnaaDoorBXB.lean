/-
  Walks of corrections, Clone and generator. No condition but those that each theorem names.
-/
import Derived.Test.YtmgjidfafnajnaaDoorBXA
import Derived.Deep.AppendLies
import Derived.Deep.RegionLawGrows
import Derived.OwnWalk
import Derived.Lib.SliceRun
namespace Go.Proofs
open Go.RowKit Go.LS Go.Deep
set_option linter.all false

def intV (l : List Nat) : List Value := l.map fun x : Nat => Value.int .i64 (x : Int)
theorem intV_len (l : List Nat) : (intV l).length = l.length := by simp [intV]
theorem intV_app (l m : List Nat) : intV (l ++ m) = intV l ++ intV m := by simp [intV]
/-- header H owns the headers hs; header r owns row r; no two lie in one block -/
structure GridW (w wr : World) (B e1 e2 : Nat) (H : Value) (hs : List Value) (rows : List (List Nat)) : Prop where
  since : w.Since B wr
  le : B ≤ wr.heap.size
  len : hs.length = rows.length
  head : wr.ownsRow B e1 1 H hs.length hs
  own : ∀ r, r < rows.length → wr.ownsRow B e2 1 (hs.getD r undef) (rows.getD r []).length (intV (rows.getD r []))
  inj : ∀ r s, r < rows.length → s < rows.length → r ≠ s → (hs.getD r undef).ownBlock = none ∨ (hs.getD r undef).ownBlock ≠ (hs.getD s undef).ownBlock
  ne : ∀ r, r < rows.length → (hs.getD r undef).ownBlock = none ∨ (hs.getD r undef).ownBlock ≠ H.ownBlock
theorem growSince {B : Nat} {w wr w1 : World} {row : Option Nat} (h : w.Since B wr) (hg : wr.grownBy w1 row) (hr : ∀ k, row = some k → B ≤ k) (hl : B ≤ wr.heap.size) : w.Since B w1 :=
  h.trans ⟨hg.os, hg.tape, hg.output, hg.size, fun k hk => hg.block k (by omega) (fun e => by have := hr k e.symm; omega)⟩
theorem own_setOther {w : World} {B e size n : Nat} {v : Value} {xs : List Value} (h : w.ownsRow B e size v n xs) {g i : Nat} (hn : v.ownBlock = none ∨ v.ownBlock ≠ some g) (u : Value) : (w.setCell ⟨g, i, none⟩ u).ownsRow B e size v n xs := by
  refine h.kept (row := some g) ⟨rfl, rfl, rfl, by simp [World.setCell], fun k hk hne => blk_setCell_other _ _ _ _ (by intro e'; exact hne (by simp [e']))⟩ hn
theorem getD_setV (l : List Value) (k r : Nat) (x : Value) (hk : k < l.length) : (l.set k x).getD r undef = if r = k then x else l.getD r undef := by
  simp only [List.getD_eq_getElem?_getD, List.getElem?_set]
  by_cases h : r = k
  · subst h; simp [hk]
  · rw [if_neg h, if_neg (fun e => h e.symm)]
variable {w wr : World} {B e1 e2 : Nat} {H : Value} {hs : List Value} {rows : List (List Nat)}
theorem GridW.drewN (h : GridW w wr B e1 e2 H hs rows) (k : Nat) : GridW w (wr.drewN k) B e1 e2 H hs rows := ⟨sinceDrewN h.since k, h.le, h.len, h.head, h.own, h.inj, h.ne⟩
theorem GridW.drew (h : GridW w wr B e1 e2 H hs rows) : GridW w wr.drew B e1 e2 H hs rows := h.drewN 1
theorem GridW.alloc (h : GridW w wr B e1 e2 H hs rows) (o : Obj) : GridW w (wr.alloc o) B e1 e2 H hs rows :=
  ⟨h.since.alloc h.le o, by have := h.le; simp; omega, h.len, h.head.alloc o, fun r hr => (h.own r hr).alloc o, h.inj, h.ne⟩
/-- behind an append to row r, whose header is stored back -/
theorem GridW.push (h : GridW w wr B e1 e2 H hs rows) {w1 : World} {r g g1 M mn cap x : Nat} {H' : Value} (hH : H = .slice (some ⟨M, 0, none⟩) hs.length mn) (hr : r < rows.length)
    (hown : w1.ownsRow B e2 1 (.slice (some ⟨g, 0, none⟩) ((rows.getD r []).length + 1) cap) ((rows.getD r []).length + 1) (intV (rows.getD r []) ++ [.int .i64 (x : Int)]))
    (hgrow : wr.grownBy w1 (hs.getD r undef).ownBlock) (hat : (hs.getD r undef).ownBlock = some g ∨ g = wr.heap.size) (k : Nat) :
    GridW w ((w1.drewN k).setCell ⟨M, r, none⟩ (.slice (some ⟨g, 0, none⟩) ((rows.getD r []).length + 1) cap)) B e1 e2 H (hs.set r (.slice (some ⟨g, 0, none⟩) ((rows.getD r []).length + 1) cap)) (rows.set r (rows.getD r [] ++ [x])) := by
  have hMb : H.ownBlock = some M := by rw [hH]; rfl
  have hM := h.head.lt M hMb
  have hrow := (h.own r hr).lt
  have hnM : (hs.getD r undef).ownBlock ≠ some M := by
    rcases h.ne r hr with e | e
    · rw [e]; simp
    · rwa [hMb] at e
  have hgM : g ≠ M := by
    rcases hat with e | e
    · intro e'; exact hnM (by rw [e, e'])
    · omega
  have hs1 : w.Since B w1 := growSince h.since hgrow (fun k hk => (hrow k hk).1) h.le
  have hd1 : w1.ownsRow B e1 1 H hs.length hs := h.head.kept hgrow (.inr (by rw [hMb]; exact fun e => hnM e.symm))
  have hlen := h.len
  refine ⟨(sinceDrewN hs1 k).setCell hM.1 _, ?_, by simp [hlen], ?_, fun s hs' => ?_, fun s t hs' ht hne => ?_, fun s hs' => ?_⟩
  · have h1 := hgrow.size
    have h2 := h.le
    show B ≤ (World.setCell _ _ _).heap.size
    simp [World.drewN]; omega
  · rw [hH] at hd1 ⊢
    have := ((show (w1.drewN k).ownsRow B e1 1 _ _ _ from hd1).stored r (.slice (some ⟨g, 0, none⟩) ((rows.getD r []).length + 1) cap)).1
    rw [List.length_set]; exact this
  · rw [List.length_set] at hs'
    rw [getD_setV _ _ _ _ (by omega), getD_set _ _ _ _ hr]
    by_cases e : s = r
    · rw [if_pos e, if_pos e]
      rw [List.length_append, List.length_singleton, intV_app]
      exact own_setOther (show (w1.drewN k).ownsRow B e2 1 _ _ _ from hown) (.inr (by show some g ≠ some M; intro e'; exact hgM (Option.some.inj e'))) _
    · rw [if_neg e, if_neg e]
      have h1 : w1.ownsRow B e2 1 (hs.getD s undef) (rows.getD s []).length (intV (rows.getD s [])) := (h.own s hs').kept hgrow (h.inj s r hs' hr e)
      refine own_setOther (show (w1.drewN k).ownsRow B e2 1 _ _ _ from h1) ?_ _
      have := h.ne s hs'
      rwa [hMb] at this
  · rw [List.length_set] at hs' ht
    rw [getD_setV _ _ _ _ (by omega), getD_setV _ _ _ _ (by omega)]
    have hold : ∀ s, s < rows.length → s ≠ r → (hs.getD s undef).ownBlock = none ∨ (hs.getD s undef).ownBlock ≠ some g := by
      intro s hs' e
      rcases hat with e' | e'
      · have := h.inj s r hs' hr e
        rwa [e'] at this
      · cases hb : (hs.getD s undef).ownBlock with
        | none => exact .inl rfl
        | some b =>
          have := ((h.own s hs').lt b hb).2
          exact .inr (by intro e2; have := Option.some.inj e2; omega)
    by_cases e : s = r
    · have e2 : t ≠ r := fun e2 => hne (by rw [e, e2])
      rw [if_pos e, if_neg e2]
      right
      rcases hold t ht e2 with h1 | h1
      · rw [h1]; simp [Value.ownBlock]
      · exact fun e3 => h1 e3.symm
    · rw [if_neg e]
      by_cases e2 : t = r
      · rw [if_pos e2]; exact hold s hs' e
      · rw [if_neg e2]; exact h.inj s t hs' ht hne
  · rw [List.length_set] at hs'
    rw [getD_setV _ _ _ _ (by omega)]
    by_cases e : s = r
    · rw [if_pos e, hMb]; right; show some g ≠ some M; intro e'; exact hgM (Option.some.inj e')
    · rw [if_neg e]; exact h.ne s hs'
/-- behind an append of a nil row -/
theorem GridW.more (h : GridW w wr B e1 e2 H hs rows) {w1 : World} {H' : Value} (hown : w1.ownsRow B e1 1 H' (hs.length + 1) (hs ++ [.slice none 0 0])) (hgrow : wr.grownBy w1 H.ownBlock) (hat : H'.ownBlock = H.ownBlock ∨ H'.ownBlock = some wr.heap.size) :
    GridW w w1 B e1 e2 H' (hs ++ [.slice none 0 0]) (rows ++ [[]]) := by
  have hlen := h.len
  have hget : ∀ r, (hs ++ [Value.slice none 0 0]).getD r undef = if r < hs.length then hs.getD r undef else if r = hs.length then .slice none 0 0 else undef := by
    intro r
    simp only [List.getD_eq_getElem?_getD, List.getElem?_append]
    split
    · rfl
    · split
      · rename_i e; rw [e]; simp
      · rename_i h1 h2
        rw [List.getElem?_eq_none (by simp; omega)]; rfl
  have hgr : ∀ r, (rows ++ [([] : List Nat)]).getD r [] = rows.getD r [] := by
    intro r
    simp only [List.getD_eq_getElem?_getD, List.getElem?_append]
    split
    · rfl
    · rw [List.getElem?_eq_none (l := rows) (by omega)]
      cases hx : [([] : List Nat)][r - rows.length]? with
      | none => rfl
      | some y =>
        have := List.mem_of_getElem? hx
        simp at this; subst this; rfl
  refine ⟨growSince h.since hgrow (fun k hk => (h.head.lt k hk).1) h.le, by have := hgrow.size; have := h.le; omega, by simp [hlen], by simpa using hown, fun r hr => ?_, fun r s hr hs' hne => ?_, fun r hr => ?_⟩
  · rw [hget, hgr]
    rw [List.length_append, List.length_singleton] at hr
    by_cases e : r < hs.length
    · rw [if_pos e]
      exact (h.own r (by omega)).kept hgrow (h.ne r (by omega))
    · rw [if_neg e, if_pos (by omega)]
      rw [List.getD_eq_getElem?_getD, List.getElem?_eq_none (by omega)]
      exact World.ownsRow_nil _ _ _ _
  · rw [List.length_append, List.length_singleton] at hr hs'
    rw [hget, hget]
    by_cases e : r < hs.length
    · rw [if_pos e]
      by_cases e2 : s < hs.length
      · rw [if_pos e2]; exact h.inj r s (by omega) (by omega) hne
      · rw [if_neg e2, if_pos (by omega)]
        cases hb : (hs.getD r undef).ownBlock with
        | none => exact .inl rfl
        | some b => exact .inr (by simp [Value.ownBlock])
    · rw [if_neg e, if_pos (by omega)]; exact .inl rfl
  · rw [List.length_append, List.length_singleton] at hr
    rw [hget]
    by_cases e : r < hs.length
    · rw [if_pos e]
      rcases h.ne r (by omega) with h1 | h1
      · exact .inl h1
      · cases hb : (hs.getD r undef).ownBlock with
        | none => exact .inl rfl
        | some b =>
          right
          rcases hat with h2 | h2
          · rw [h2, ← hb]; exact h1
          · rw [h2]
            have := ((h.own r (by omega)).lt b hb).2
            intro e3; have := Option.some.inj e3; omega
    · rw [if_neg e, if_pos (by omega)]; exact .inl rfl
end Go.Proofs
namespace Go.Proofs
open Go.RowKit Go.LS Go.Deep
set_option linter.all false

def pwr (n j i : Nat) : Nat := ga ((j + 1) * (n - 1 - i))
/-- the matrix while row j is built, c of its places are there -/
def bld (n : Nat) (sums places : List Nat) (j c : Nat) : List (List Nat) := (List.range 6).map fun r =>
  if r < j then (places.map fun i => pwr n r i) ++ [sums.getD r 0] else if r = j then (places.take c).map fun i => pwr n r i else []
theorem bld_len (n : Nat) (sums places : List Nat) (j c : Nat) : (bld n sums places j c).length = 6 := by simp [bld]
theorem bld_get (n : Nat) (sums places : List Nat) (j c r : Nat) (h : r < 6) : (bld n sums places j c).getD r [] = if r < j then (places.map fun i => pwr n r i) ++ [sums.getD r 0] else if r = j then (places.take c).map fun i => pwr n r i else [] := by
  unfold bld
  rw [List.getD_eq_getElem?_getD, List.getElem?_map, List.getElem?_range h]; rfl
theorem bld_zero (n : Nat) (sums places : List Nat) : bld n sums places 0 0 = [[], [], [], [], [], []] := by simp [bld, List.range, List.range.loop]
theorem bld_step (n : Nat) (sums places : List Nat) (j c : Nat) (hj : j < 6) (hc : c < places.length) : (bld n sums places j c).set j ((bld n sums places j c).getD j [] ++ [pwr n j (places.getD c 0)]) = bld n sums places j (c + 1) := by
  refine ext_rows (by simp [bld]) fun r hr => ?_
  rw [List.length_set, bld_len] at hr
  rw [getD_set _ _ _ _ (by rw [bld_len]; exact hj)]
  by_cases e : r = j
  · subst e
    rw [if_pos rfl, bld_get _ _ _ _ _ _ hr, bld_get _ _ _ _ _ _ hr, if_neg (Nat.lt_irrefl _), if_pos rfl, if_neg (Nat.lt_irrefl _), if_pos rfl]
    rw [List.take_succ, List.map_append, List.getElem?_eq_getElem hc, List.getD_eq_getElem?_getD, List.getElem?_eq_getElem hc]
    rfl
  · rw [if_neg e, bld_get _ _ _ _ _ _ hr, bld_get _ _ _ _ _ _ hr, if_neg e, if_neg e]
theorem bld_next (n : Nat) (sums places : List Nat) (j : Nat) (hj : j < 6) : (bld n sums places j places.length).set j ((bld n sums places j places.length).getD j [] ++ [sums.getD j 0]) = bld n sums places (j + 1) 0 := by
  refine ext_rows (by simp [bld]) fun r hr => ?_
  rw [List.length_set, bld_len] at hr
  rw [getD_set _ _ _ _ (by rw [bld_len]; exact hj)]
  by_cases e : r = j
  · subst e
    rw [if_pos rfl, bld_get _ _ _ _ _ _ hr, bld_get _ _ _ _ _ _ hr, if_neg (Nat.lt_irrefl _), if_pos rfl, if_pos (Nat.lt_succ_self _), List.take_length]
  · rw [if_neg e, bld_get _ _ _ _ _ _ hr, bld_get _ _ _ _ _ _ hr, if_neg e]
    by_cases e2 : r < j
    · rw [if_pos e2, if_pos (by omega)]
    · rw [if_neg e2, if_neg (by omega)]
      split <;> simp
theorem bld_end (n : Nat) (sums places : List Nat) : bld n sums places 6 0 = matP n sums places := by
  unfold bld matP
  refine List.map_congr_left fun r hr => ?_
  rw [if_pos (List.mem_range.1 hr)]; rfl
theorem pwr_lt (n j i : Nat) : pwr n j i < 32 := ga_lt _
variable {w wr : World} {B e1 e2 M mn : Nat} {hs : List Value} {rows : List (List Nat)}
/-- a matrix that was built is a matrix in memory -/
theorem GridW.mat (h : GridW w wr B e1 e2 (.slice (some ⟨M, 0, none⟩) hs.length mn) hs rows) (hl : rows.length = 6) {n : Nat} (hz : Sz rows (n + 1)) : ∃ rb cp, MatW w wr B M rb cp (n + 1) rows := by
  have hlen := h.len
  have hf : ∀ r, r < 6 → ∃ g cap, hs.getD r undef = .slice (some ⟨g, 0, none⟩) (n + 1) cap ∧ B ≤ g := by
    intro r hr
    have h1 := h.own r (by omega)
    rw [(hz r (by omega)).1] at h1
    obtain ⟨g, cap, e, hb, _⟩ := h1.form (Nat.succ_pos _)
    exact ⟨g, cap, e, hb⟩
  have hM := h.head.lt M rfl
  refine ⟨fun r => match hs.getD r undef with | .slice (some a) _ _ => a.block | _ => 0, fun r => match hs.getD r undef with | .slice _ _ c => c | _ => 0, h.since, hl, ?_, fun r hr => ?_, fun r s hr hs' e => ?_, fun r hr => ?_, ⟨hM.1, fun r hr => ?_⟩, hz⟩
  · rcases h.head.2 with ⟨e, _⟩ | ⟨g, cap, cur, e, hb, hg, hnc, hcm, hcs, htake⟩
    · cases e
    · simp only [Value.slice.injEq, Option.some.injEq, Addr.mk.injEq, and_true, true_and] at e
      obtain ⟨rfl, rfl⟩ := e
      refine ⟨cur, e1, hg, fun i hi => ?_⟩
      obtain ⟨g, cap, e, _⟩ := hf i hi
      have h1 : cur.toList[i]? = some (hs.getD i undef) := by
        have : (cur.toList.take (hs.length * 1))[i]? = hs[i]? := by rw [htake]
        rw [List.getElem?_take, if_pos (by omega)] at this
        rw [this, List.getD_eq_getElem?_getD, List.getElem?_eq_getElem (by omega)]; rfl
      rw [← Array.getElem?_toList, h1]
      show _ = some (Value.slice (some ⟨(match hs.getD i undef with | .slice (some a) _ _ => a.block | _ => 0), 0, none⟩) (n + 1) (match hs.getD i undef with | .slice _ _ c => c | _ => 0))
      rw [e]
  · obtain ⟨g, cap, e, _⟩ := hf r hr
    have h1 := h.own r (by omega)
    rw [(hz r (by omega)).1, e] at h1
    show ValsAt wr (match hs.getD r undef with | .slice (some a) _ _ => a.block | _ => 0) _ _
    rw [e]
    rcases h1.2 with ⟨e', _⟩ | ⟨g', cap', cur, e', hb, hg, hnc, hcm, hcs, htake⟩
    · cases e'
    · simp only [Value.slice.injEq, Option.some.injEq, Addr.mk.injEq, and_true, true_and] at e'
      obtain ⟨rfl, rfl⟩ := e'
      refine ⟨cur, e2, hg, fun i hi => ?_⟩
      have h2 : (cur.toList.take ((n + 1) * 1))[i]? = (intV (rows.getD r []))[i]? := by rw [htake]
      rw [List.getElem?_take, if_pos (by omega)] at h2
      rw [← Array.getElem?_toList, h2]
      have hl2 : i < (rows.getD r []).length := by rw [(hz r (by omega)).1]; exact hi
      unfold intV rowV
      rw [List.getElem?_map, List.getElem?_eq_getElem hl2, List.getD_eq_getElem?_getD (l := rows.getD r []), List.getElem?_eq_getElem hl2]; rfl
  · obtain ⟨g, cap, e1', _⟩ := hf r hr
    obtain ⟨g', cap', e2', _⟩ := hf s hs'
    simp only [e1', e2'] at e
    apply Classical.byContradiction
    intro hne
    rcases h.inj r s (by omega) (by omega) hne with h1 | h1
    · rw [e1'] at h1; cases h1
    · rw [e1', e2', e] at h1; exact h1 rfl
  · obtain ⟨g, cap, e1', _⟩ := hf r hr
    simp only [e1']
    rcases h.ne r (by omega) with h1 | h1
    · rw [e1'] at h1; cases h1
    · rw [e1'] at h1
      intro e; exact h1 (by rw [e]; rfl)
  · obtain ⟨g, cap, e1', hb⟩ := hf r hr
    simp only [e1']; exact hb
theorem Tryd.info3 : (Tryd.prog.info? 3).map (fun i => (i.zero, i.size, i.bytes)) = some (some (.int .i64 0), 1, 8) := by kernel_rfl
theorem Tryd.info22 : (Tryd.prog.info? 22).map (fun i => (i.zero, i.size, i.bytes)) = some (some (.slice none 0 0), 1, 24) := by kernel_rfl
theorem GridW.headCell (h : GridW w wr B e1 e2 (.slice (some ⟨M, 0, none⟩) hs.length mn) hs rows) {r : Nat} (hr : r < rows.length) : wr.cell? ⟨M, r, none⟩ = some (hs.getD r undef) := by
  have hlen := h.len
  rw [h.head.cellAt r (by omega), List.getD_eq_getElem?_getD, List.getElem?_eq_getElem (by omega)]; rfl
theorem GridW.headFree (h : GridW w wr B e1 e2 (.slice (some ⟨M, 0, none⟩) hs.length mn) hs rows) (r : Nat) : wr.frozen? ⟨M, r, none⟩ = false := h.head.frozenAt r
theorem GridW.headFar (h : GridW w wr B e1 e2 (.slice (some ⟨M, 0, none⟩) hs.length mn) hs rows) {w1 : World} {r : Nat} (hr : r < rows.length) (hg : wr.grownBy w1 (hs.getD r undef).ownBlock) (s : Nat) : w1.cell? ⟨M, s, none⟩ = wr.cell? ⟨M, s, none⟩ ∧ w1.frozen? ⟨M, s, none⟩ = wr.frozen? ⟨M, s, none⟩ := by
  have hM := h.head.lt M rfl
  have hne : some M ≠ (hs.getD r undef).ownBlock := by
    rcases h.ne r hr with e | e
    · rw [e]; simp
    · exact fun e' => e e'.symm
  exact ⟨hg.cell_far ⟨M, s, none⟩ hM.2 hne, hg.frozen_far ⟨M, s, none⟩ hM.2 hne⟩
/-- all that an append to row r wants, and what it leaves -/
theorem GridW.step {m m' r c : Nat} {v : Value} (h : GridW w wr B e1 e2 (.slice (some ⟨M, 0, none⟩) m m') hs rows) (hm : hs.length = m) (hr : r < rows.length) (hv : hs.getD r undef = v) (hl : (rows.getD r []).length = c) (x : Nat) :
    some M ≠ v.ownBlock ∧ M < wr.heap.size ∧ wr.cell? ⟨M, r, none⟩ = some v ∧ wr.frozen? ⟨M, r, none⟩ = false ∧ wr.ownsRow B e2 1 v c (intV (rows.getD r [])) ∧
    ∀ w1 g cap k o, w1.ownsRow B e2 1 (.slice (some ⟨g, 0, none⟩) (c + 1) cap) (c + 1) (intV (rows.getD r []) ++ [.int .i64 (x : Int)]) → (wr.alloc o).grownBy w1 v.ownBlock → (v.ownBlock = some g ∨ g = (wr.alloc o).heap.size) →
      ∃ hs' : List Value, hs'.length = m ∧ GridW w ((w1.setCell ⟨M, r, none⟩ (.slice (some ⟨g, 0, none⟩) (c + 1) cap)).drewN k) B e1 e2 (.slice (some ⟨M, 0, none⟩) m m') hs' (rows.set r (rows.getD r [] ++ [x])) := by
  subst hm hv hl
  have hM := h.head.lt M rfl
  refine ⟨?_, hM.2, h.headCell hr, h.headFree r, h.own r hr, fun w1 g cap k o h1 h2 h3 => ⟨_, by rw [List.length_set], ((h.alloc o).push (H' := undef) (g1 := 0) rfl hr h1 h2 h3 0).drewN k⟩⟩
  rcases h.ne r hr with e | e
  · rw [e]; simp
  · exact fun e' => e e'.symm
/-- six nil rows -/
theorem GridW.start (h : w.Since B wr) (hb : B ≤ wr.heap.size) {e1 e2 : Nat} {w1 : World} (hown : w1.ownsRow B e1 1 (.slice (some ⟨wr.heap.size, 0, none⟩) 6 6) 6 [.slice none 0 0, .slice none 0 0, .slice none 0 0, .slice none 0 0, .slice none 0 0, .slice none 0 0]) (hg : wr.grownBy w1 none) :
    GridW w w1 B e1 e2 (.slice (some ⟨wr.heap.size, 0, none⟩) 6 6) [.slice none 0 0, .slice none 0 0, .slice none 0 0, .slice none 0 0, .slice none 0 0, .slice none 0 0] [[], [], [], [], [], []] := by
  have h0 : ∀ r, r < 6 → ([.slice none 0 0, .slice none 0 0, .slice none 0 0, .slice none 0 0, .slice none 0 0, .slice none 0 0] : List Value).getD r undef = .slice none 0 0 := by
    intro r hr
    match r, hr with
    | 0, _ => rfl
    | 1, _ => rfl
    | 2, _ => rfl
    | 3, _ => rfl
    | 4, _ => rfl
    | 5, _ => rfl
  have h1 : ∀ r, r < 6 → ([[], [], [], [], [], []] : List (List Nat)).getD r [] = [] := by
    intro r hr
    match r, hr with
    | 0, _ => rfl
    | 1, _ => rfl
    | 2, _ => rfl
    | 3, _ => rfl
    | 4, _ => rfl
    | 5, _ => rfl
  refine ⟨growSince h hg (fun k hk => by cases hk) hb, by have := hg.size; omega, rfl, hown, fun r hr => ?_, fun r s hr hs' hne => ?_, fun r hr => ?_⟩
  · rw [h0 r hr, h1 r hr]; exact World.ownsRow_nil _ _ _ _
  · rw [h0 r hr]; exact .inl rfl
  · rw [h0 r hr]; exact .inl rfl
end Go.Proofs
namespace Go.Proofs
open Go.RowKit Go.LS Go.Deep
set_option linter.all false

theorem sinceMono {B B' : Nat} {w w' : World} (h : w.Since B w') (hB : B' ≤ B) : w.Since B' w' := ⟨h.os, h.tape, h.output, h.size, fun k hk => h.block k (by omega)⟩
theorem ownMono {w : World} {B B' e size n : Nat} {v : Value} {xs : List Value} (h : w.ownsRow B e size v n xs) (hB : B' ≤ B) : w.ownsRow B' e size v n xs := by
  refine ⟨h.1, ?_⟩
  rcases h.2 with h1 | ⟨g, cap, cur, e1, hb, rest⟩
  · exact .inl h1
  · exact .inr ⟨g, cap, cur, e1, by omega, rest⟩
theorem MatW.setOther {w wr : World} {B M : Nat} {rb cp : Nat → Nat} {n : Nat} {m : List (List Nat)} (h : MatW w wr B M rb cp n m) {V i : Nat} (hV : B ≤ V) (h1 : M ≠ V) (h2 : ∀ r, r < 6 → rb r ≠ V) (v : Value) : MatW w (wr.setCell ⟨V, i, none⟩ v) B M rb cp n m :=
  ⟨h.since.setCell hV _, h.len, h.head.setOther h1 _, fun r hr => (h.rows r hr).setOther (h2 r hr) _, h.inj, h.ne, h.lo, h.sz⟩
theorem MatW.grown {w wr w1 : World} {B M : Nat} {rb cp : Nat → Nat} {n : Nat} {m : List (List Nat)} (h : MatW w wr B M rb cp n m) (hb : B ≤ wr.heap.size) (hg : wr.grownBy w1 none) : MatW w w1 B M rb cp n m :=
  ⟨growSince h.since hg (fun k hk => by cases hk) hb, h.len, h.head.of_block (hg.block _ h.head.lt (by simp)), fun r hr => (h.rows r hr).of_block (hg.block _ (h.rows r hr).lt (by simp)), h.inj, h.ne, h.lo, h.sz⟩
theorem six_get (s0 s1 s2 s3 s4 s5 j : Nat) (h : j < 6) : (#[.int .i64 (s0 : Int), .int .i64 (s1 : Int), .int .i64 (s2 : Int), .int .i64 (s3 : Int), .int .i64 (s4 : Int), .int .i64 (s5 : Int)] : Array Value)[j]? = some (.int .i64 (([s0, s1, s2, s3, s4, s5] : List Nat).getD j 0 : Int)) := by
  match j, h with
  | 0, _ => rfl
  | 1, _ => rfl
  | 2, _ => rfl
  | 3, _ => rfl
  | 4, _ => rfl
  | 5, _ => rfl
def colTo (m : List (List Nat)) (u k : Nat) : List Nat := (List.range u).map fun i => if i < k then ent m i u else 0
theorem colTo_len (m : List (List Nat)) (u k : Nat) : (colTo m u k).length = u := by simp [colTo]
theorem colTo_step (m : List (List Nat)) (u k : Nat) (h : k < u) : (colTo m u k).set k (ent m k u) = colTo m u (k + 1) := by
  refine ext_getD (by simp [colTo]) fun i hi => ?_
  rw [List.length_set, colTo_len] at hi
  rw [getD_setN _ _ _ _ (by rw [colTo_len]; exact h)]
  unfold colTo
  rw [getD_rangemap, getD_rangemap]
  by_cases e : i = k
  · subst e; simp [h]
  · simp only [e, if_false, hi, if_true]
    by_cases e2 : i < k
    · rw [if_pos e2, if_pos (by omega)]
    · rw [if_neg e2, if_neg (by omega)]
theorem colTo_zero (m : List (List Nat)) (u : Nat) : intV (colTo m u 0) = List.replicate u (.int .i64 0) := by
  unfold intV colTo
  rw [List.map_map]
  apply List.ext_getElem
  · simp
  · intro i h1 h2; simp
def corrPost (w : World) (n : Nat) (ss places : List Nat) (e : Ending) (w' : World) : Prop :=
  ∃ v ok, e = .returned (.tuple #[v, .bool ok]) ∧ w.Since w.heap.size w' ∧ ((ok = true ∧ ∃ vs, vs.length = places.length ∧ corrP n ss places = some vs ∧ w'.ownsRow w.heap.size 3 1 v places.length (intV vs)) ∨ (ok = false ∧ v = .slice none 0 0 ∧ corrP n ss places = none))
set_option maxHeartbeats 8000000 in
set_option maxRecDepth 100000 in
theorem Tryd.corrections_walk (s0 s1 s2 s3 s4 s5 : Nat) (places : List Nat) (n cap : Nat) (ao : Option Addr) (w : World) (hss : Sml [s0, s1, s2, s3, s4, s5]) (ht : TabsAt w) (h2 : 2 ≤ w.heap.size) (hn : n ≤ 31) (hu : places.length ≤ 6)
    (hao : 0 < places.length → ∃ b o, ao = some ⟨b, o, none⟩ ∧ b < w.heap.size ∧ NatsAt w b o places) (hpl : ∀ i ∈ places, i < n) :
    Calls Tryd.prog 55 #[.agg #[.int .i64 (s0 : Int), .int .i64 (s1 : Int), .int .i64 (s2 : Int), .int .i64 (s3 : Int), .int .i64 (s4 : Int), .int .i64 (s5 : Int)], .int .i64 (n : Int), .slice ao places.length cap] w fun e w' => corrPost w n [s0, s1, s2, s3, s4, s5] places e w' := by
  obtain ⟨i22, hi22, hz220, hz221, hz222⟩ := info_parts Tryd.info22
  obtain ⟨i3, hi3, hz30, hz31, hz32⟩ := info_parts Tryd.info3
  obtain ⟨ss, hsse⟩ : ∃ ss : List Nat, [s0, s1, s2, s3, s4, s5] = ss := ⟨_, rfl⟩
  rw [hsse] at hss ⊢
  obtain ⟨w1, hw1⟩ : ∃ w1, w1 = w.alloc (.cells #[.int .i64 (s0 : Int), .int .i64 (s1 : Int), .int .i64 (s2 : Int), .int .i64 (s3 : Int), .int .i64 (s4 : Int), .int .i64 (s5 : Int)] 79) := ⟨_, rfl⟩
  have hsz1 : w1.heap.size = w.heap.size + 1 := by rw [hw1]; simp
  have hsum : ∀ j, j < 6 → w1.cell? ⟨w.heap.size, j, none⟩ = some (.int .i64 (ss.getD j 0 : Int)) := by
    intro j hj; rw [hw1, World.cell?_alloc_new, ← hsse]; exact six_get _ _ _ _ _ _ j hj
  have ht1 : TabsAt w1 := by
    rw [hw1]
    exact ⟨fun k hk => (World.cell?_alloc_lt w _ ⟨0, k, none⟩ (by show 0 < _; omega)).trans (ht.pw k hk), fun k hk => (World.cell?_alloc_lt w _ ⟨1, k, none⟩ (by show 1 < _; omega)).trans (ht.lg k hk)⟩
  have hao1 : 0 < places.length → ∃ b o, ao = some ⟨b, o, none⟩ ∧ b < w.heap.size ∧ NatsAt w1 b o places := by
    intro h0
    obtain ⟨b, o, e, hb, hN⟩ := hao h0
    refine ⟨b, o, e, hb, fun i hi => ?_⟩
    rw [hw1]
    exact (World.cell?_alloc_lt w _ ⟨b, o + i, none⟩ hb).trans (hN i hi)
  have hsin : w.Since w.heap.size w1 := by rw [hw1]; exact (World.Since.refl _ _).alloc (Nat.le_refl _) _
  clear hao
  go_enter Tryd.func55, Tryd.ntmps55
  go_wp2_with (refine wpList_make_full _ rfl _ _ 33 rfl (w.heap.size + 1) 22 i22 (.slice none 0 0) 1 Tryd.underlying33 hi22 hz220 hz221 .i64 .i64 6 6 6 rfl rfl rfl rfl (by rw [hz222]; decide) (by decide) (by simp) ?_; intro w2 hown2 hg2)
  rw [← hw1] at hown2 hg2
  rw [show (madeCells (Value.slice none 0 0).cells (6 * 1)).toList = List.replicate 6 (Value.slice none 0 0) from toList_madeCells_one _ 6] at hown2
  have hG0 := GridW.start (e1 := 22) (e2 := 3) (World.Since.refl (w.heap.size + 1) w1) (by omega) hown2 hg2
  clear hown2 hg2 hw1 hsse
  rw [hsz1] at hG0
  go_loopw [17] (fun v wr => ∃ (j : Nat) (hs : List Value), j ≤ 6 ∧ hs.length = 6 ∧ v = .int .i64 j ∧ GridW w1 wr (w.heap.size + 1) 22 3 (.slice (some ⟨w.heap.size + 1, 0, none⟩) 6 6) hs (bld n ss places j 0)) (fun v _ => 6 - (RowKit.intOf v).toNat)
  case atStart => exact ⟨0, _, by omega, rfl, rfl, by rw [bld_zero]; exact hG0⟩
  case round =>
    obtain ⟨j, hs, hj, hlh, rfl, hG⟩ := hrel
    by_cases hj6 : j < 6
    · have hji : (j : Int) < 6 := by omega
      go_wp2
      go_loopw [22] (fun v wi => ∃ (c : Nat) (hs : List Value), c ≤ places.length ∧ hs.length = 6 ∧ v = .int .i64 c ∧ GridW w1 wi (w.heap.size + 1) 22 3 (.slice (some ⟨w.heap.size + 1, 0, none⟩) 6 6) hs (bld n ss places j c)) (fun v _ => places.length - (RowKit.intOf v).toNat)
      case atStart => exact ⟨0, hs, Nat.zero_le _, hlh, rfl, hG⟩
      case round =>
        obtain ⟨c, hs', hc, hlen, rfl, hI⟩ := hrel
        have hbB := hI.le
        by_cases hcl : c < places.length
        · obtain ⟨b, o, rfl, hb, hN⟩ := hao1 (by omega)
          have hpc : wr.cell? ⟨b, o + c, none⟩ = some (.int .i64 (places.getD c 0 : Int)) := (hI.since.cell (a := ⟨b, o + c, none⟩) (by show b < _; omega)).trans (hN c hcl)
          have hpn : places.getD c 0 < n := by
            rw [List.getD_eq_getElem?_getD, List.getElem?_eq_getElem hcl]; exact hpl _ (List.getElem_mem hcl)
          have hstep := bld_step n ss places j c hj6 hcl
          have hrow : ((bld n ss places j c).getD j []).length = c := by rw [bld_get _ _ _ _ _ _ hj6, if_neg (Nat.lt_irrefl _), if_pos rfl]; simp; omega
          have htw : TabsAt wr := ⟨fun k hk => (hI.since.cell (a := ⟨0, k, none⟩) (by show 0 < _; omega)).trans (ht1.pw k hk), fun k hk => (hI.since.cell (a := ⟨1, k, none⟩) (by show 1 < _; omega)).trans (ht1.lg k hk)⟩
          generalize hp : places.getD c 0 = p at hpc hpn hstep
          obtain ⟨hneM, hltM, hcell, hfree, hown, hpush⟩ := hI.step hlen (r := j) (by rw [bld_len]; exact hj6) rfl hrow (pwr n j p)
          rw [hstep] at hpush
          generalize hs'.getD j undef = v at hcell hown hneM hpush
          have w1' : IntKind.i64.wrap ((j : Int) + 1) = (j : Int) + 1 := IntWalk.i64_in _ (by omega)
          have w2' : IntKind.i64.wrap ((n : Int) - 1) = (n : Int) - 1 := IntWalk.i64_in _ (by omega)
          have w3' : IntKind.i64.wrap ((n : Int) - 1 - (p : Int)) = ((n - 1 - p : Nat) : Int) := by
            rw [IntWalk.i64_in _ (by omega)]; omega
          have w5' : (((j : Int) + 1) * ((n - 1 - p : Nat) : Int)) = (((j + 1) * (n - 1 - p) : Nat) : Int) := by simp
          have hle : (j + 1) * (n - 1 - p) ≤ 7 * 31 := Nat.mul_le_mul (by omega) (by omega)
          have w4' : IntKind.i64.wrap (((j : Int) + 1) * ((n - 1 - p : Nat) : Int)) = (((j + 1) * (n - 1 - p) : Nat) : Int) := by
            rw [w5']; exact IntWalk.i64_in _ (by omega)
          have pw : ∀ w' : World, TabsAt w' → Calls Tryd.prog 52 #[.int .i64 (((j + 1) * (n - 1 - p) : Nat) : Int)] w' fun e w'' => e = .returned (.int .i64 (pwr n j p : Int)) ∧ w'' = w' := by
            intro w' h'
            unfold pwr
            rw [← powI_nat]
            exact Tryd.Power_walk _ (by omega) _ h'
          clear w5' hle
          generalize hE : (j + 1) * (n - 1 - p) = E at *
          generalize hX : pwr n j p = X at *
          go_wp2
          go_region_law (first
            | (refine step_append_lies _ (by rfl) _ _ _ (by rfl) (w.heap.size + 1) 3 i3 (.int .i64 0) 1 8 Tryd.underlying22 hi3 hz30 hz31 hz32 rfl (by omega) v c (intV ((bld n ss places j c).getD j [])) (by rfl) (by first | exact hown.alloc _ | exact (hown.alloc _).drew)
                ⟨wr.heap.size, 0, none⟩ 1 1 [.int .i64 (X : Int)] (by rfl) (by rfl) (World.news_of_block (cs := #[.int .i64 (X : Int)]) (t := 3) (fr := (0, 0)) (heap_alloc_new wr _)) (by simp [Value.oneCell'])
                (by omega) (by unfold maxLen; omega) (by omega) (by simp; omega) _ rfl ?_; intro gg cap1 wA hownA hgrow hat hlt; have hfA := (hgrow.cell_far ⟨w.heap.size + 1, j, none⟩ (by simp; omega) hneM).trans ((World.cell?_alloc_past (w := wr) _ _ _ hltM).trans hcell); have hfB := (hgrow.frozen_far ⟨w.heap.size + 1, j, none⟩ (by simp; omega) hneM).trans ((World.frozen?_alloc_past (w := wr) _ _ _ hltM).trans hfree))
            | (go_simp; go_at_call 52; refine (pw _ (by first | exact htw | exact ⟨htw.pw, htw.lg⟩)).mono ?_; rintro e w1 ⟨rfl, rfl⟩))
          all_goals
            obtain ⟨hs2, hl2, hG2⟩ := hpush wA gg cap1 0 _ hownA ⟨hgrow.os, hgrow.tape, hgrow.output, hgrow.size, hgrow.block⟩ hat
            clear hpush hownA hgrow hfA hfB hown hcell
            go_wp2
            exact ⟨⟨c + 1, hs2, by omega, hl2, by simp, hG2⟩, by simp [RowKit.intOf]; omega⟩
        · have hce : c = places.length := by omega
          subst hce
          have hrow : ((bld n ss places j places.length).getD j []).length = places.length := by rw [bld_get _ _ _ _ _ _ hj6, if_neg (Nat.lt_irrefl _), if_pos rfl]; simp
          have hnx := bld_next n ss places j hj6
          have hsj : wr.cell? ⟨w.heap.size, j, none⟩ = some (.int .i64 (ss.getD j 0 : Int)) := (hI.since.cell (a := ⟨w.heap.size, j, none⟩) (by show w.heap.size < _; omega)).trans (hsum j hj6)
          obtain ⟨hneM, hltM, hcell, hfree, hown, hpush⟩ := hI.step hlen (r := j) (by rw [bld_len]; exact hj6) rfl hrow (ss.getD j 0)
          rw [hnx] at hpush
          generalize hs'.getD j undef = v at hcell hown hneM hpush
          generalize ss.getD j 0 = X at hsj hnx hpush
          go_wp2
          go_region_law (first
            | (refine step_append_lies _ (by rfl) _ _ _ (by rfl) (w.heap.size + 1) 3 i3 (.int .i64 0) 1 8 Tryd.underlying22 hi3 hz30 hz31 hz32 rfl (by omega) v places.length (intV ((bld n ss places j places.length).getD j [])) (by rfl) (by first | exact hown.alloc _ | exact (hown.alloc _).drew)
                ⟨wr.heap.size, 0, none⟩ 1 1 [.int .i64 (X : Int)] (by rfl) (by rfl) (World.news_of_block (cs := #[.int .i64 (X : Int)]) (t := 3) (fr := (0, 0)) (heap_alloc_new wr _)) (by simp [Value.oneCell'])
                (by omega) (by unfold maxLen; omega) (by omega) (by simp; omega) _ rfl ?_; intro gg cap1 wA hownA hgrow hat hlt; have hfA := (hgrow.cell_far ⟨w.heap.size + 1, j, none⟩ (by simp; omega) hneM).trans ((World.cell?_alloc_past (w := wr) _ _ _ hltM).trans hcell); have hfB := (hgrow.frozen_far ⟨w.heap.size + 1, j, none⟩ (by simp; omega) hneM).trans ((World.frozen?_alloc_past (w := wr) _ _ _ hltM).trans hfree)))
          all_goals
            obtain ⟨hs2, hl2, hG2⟩ := hpush wA gg cap1 0 _ hownA ⟨hgrow.os, hgrow.tape, hgrow.output, hgrow.size, hgrow.block⟩ hat
            clear hpush hownA hgrow hfA hfB hown hcell hsj
            go_wp2
            exact ⟨⟨j + 1, hs2, by omega, hl2, by simp, hG2⟩, by simp [RowKit.intOf]; omega⟩
    · have hje : j = 6 := by omega
      subst hje
      rw [bld_end] at hG
      have hz := matP_sz n ss places hss
      obtain ⟨rb, cp, hM⟩ := (show GridW w1 wr (w.heap.size + 1) 22 3 (.slice (some ⟨w.heap.size + 1, 0, none⟩) hs.length 6) hs (matP n ss places) by rw [hlh]; exact hG).mat (matP_len n ss places) hz
      have hel : ∀ mc, Calls Tryd.prog 66 #[.slice (some ⟨w.heap.size + 1, 0, none⟩) 6 mc, .int .i64 (places.length : Int)] wr fun e w' => ∃ ok rb' cp' m', e = .returned (.bool ok) ∧ MatW w1 w' (w.heap.size + 1) (w.heap.size + 1) rb' cp' (places.length + 1) m' ∧ ElimOut (matP n ss places) places.length ok m' := fun mc => Tryd.eliminate_walk wr hM hu ht1 (by omega)
      go_wp2_with (first
        | (go_at_call 66; refine (hel _).mono ?_; rintro e w3 ⟨ok, rb3, cp3, m3, rfl, hM3, hout⟩)
        | (refine wpList_make_full _ rfl _ _ 22 rfl (w.heap.size + 1) 3 i3 (.int .i64 0) 1 Tryd.underlying22 hi3 hz30 hz31 .i64 .i64 _ _ places.length rfl rfl rfl rfl (by rw [hz32]; omega) (by unfold maxLen; omega) (by have := hM3.head.lt; omega) ?_; intro w4 hown4 hg4))
      · have hok' : ok = false := by have h : (!ok) = true := by assumption
                                     simpa using h
        subst hok'
        rcases hout with ⟨h, _⟩ | ⟨_, hno⟩
        · cases h
        go_ret2
        exact ⟨_, _, rfl, hsin.trans (sinceMono hM3.since (Nat.le_succ _)), .inr ⟨rfl, rfl, hno⟩⟩
      · have hok' : ok = true := by have h : (!ok) = false := by assumption
                                    simpa using h
        subst hok'
        obtain ⟨hel', hzr⟩ : elimE (matP n ss places) places.length 0 = some m3 ∧ ∀ r, places.length ≤ r → r < 6 → ent m3 r places.length = 0 := by
          rcases hout with ⟨_, h⟩ | ⟨h, _⟩
          · exact h
          · cases h
        have hcor : corrP n ss places = some (colTo m3 places.length places.length) := by
          unfold corrP solE
          rw [hel', Option.bind_some, if_pos]
          · congr 1
            refine List.map_congr_left fun i hi => ?_
            rw [if_pos (List.mem_range.1 hi)]
          · rw [List.all_eq_true]
            intro r hr
            obtain ⟨i, h1, h2⟩ := List.mem_iff_getElem.1 hr
            simp at h1 h2
            rw [hM3.len] at h1
            simp
            exact hzr r (by omega) (by omega)
        have hb3 : w.heap.size + 1 ≤ w3.heap.size := by have := hM3.head.lt; omega
        have hM4 := hM3.grown hb3 hg4
        rw [show (madeCells (Value.int .i64 0).cells (places.length * 1)).toList = List.replicate (places.length * 1) (Value.int .i64 0) from toList_madeCells_one _ _, Nat.mul_one, ← colTo_zero m3] at hown4
        have hV1 : w.heap.size + 1 ≠ w3.heap.size := by have := hM3.head.lt; omega
        have hV2 : ∀ r, r < 6 → rb3 r ≠ w3.heap.size := fun r hr => by have := (hM3.rows r hr).lt; omega
        clear hM3 hg4 hel hM hG hG0 hout
        generalize w3.heap.size = V at *
        go_loopw [67] (fun v wi => ∃ k : Nat, k ≤ places.length ∧ v = .int .i64 k ∧ MatW w1 wi (w.heap.size + 1) (w.heap.size + 1) rb3 cp3 (places.length + 1) m3 ∧ wi.ownsRow (w.heap.size + 1) 3 1 (.slice (some ⟨V, 0, none⟩) places.length places.length) places.length (intV (colTo m3 places.length k))) (fun v _ => places.length - (RowKit.intOf v).toNat)
        case atStart => exact ⟨0, Nat.zero_le _, rfl, hM4, hown4⟩
        case round =>
          obtain ⟨k, hk, rfl, hMk, hok⟩ := hrel
          by_cases hkl : k < places.length
          · have hh := hMk.head.cell (i := k) (by omega)
            have hc := (hMk.rows k (by omega)).cell (i := places.length) (by omega)
            unfold rowV at hc
            have hvc := hok.cellAt k (by omega)
            rw [show (intV (colTo m3 places.length k))[k]? = some (.int .i64 ((colTo m3 places.length k).getD k 0 : Int)) by
              unfold intV; rw [List.getElem?_map, List.getD_eq_getElem?_getD, List.getElem?_eq_getElem (by rw [colTo_len]; exact hkl)]; rfl] at hvc
            have hvf := hok.frozenAt k
            have hst := colTo_step m3 places.length k hkl
            have hki : (k : Int) < (places.length : Int) := by omega
            have hk6 : (k : Int) < 6 := by omega
            have hM5 := fun v => hMk.setOther (V := V) (i := k) (by omega) hV1 hV2 v
            have hO5 := (hok.stored k (.int .i64 (ent m3 k places.length : Int))).1
            rw [show (intV (colTo m3 places.length k)).set k (.int .i64 (ent m3 k places.length : Int)) = intV (colTo m3 places.length (k + 1)) by rw [← hst]; unfold intV; rw [List.map_set]] at hO5
            unfold ent at hO5
            generalize (m3.getD k []).getD places.length 0 = x at hc hO5
            generalize (colTo m3 places.length k).getD k 0 = y at hvc
            go_wp2
            all_goals exact ⟨⟨k + 1, by omega, by simp, hM5 _, hO5⟩, by simp [RowKit.intOf]; omega⟩
          · have hke : k = places.length := by omega
            subst hke
            go_wp2
            go_ret2
            refine ⟨_, _, rfl, hsin.trans (sinceMono hMk.since (Nat.le_succ _)), .inl ⟨rfl, _, colTo_len _ _ _, hcor, ?_⟩⟩
            exact ownMono hok (Nat.le_succ _)
end Go.Proofs
namespace Go.Proofs
open Go.RowKit Go.LS Go.Deep
set_option linter.all false

/-- cells of memory that hold these values, from an address on -/
def CellsAt (w : World) (b o : Nat) (xs : List Value) : Prop := ∀ j u, xs[j]? = some u → w.cell? ⟨b, o + j, none⟩ = some u
set_option maxRecDepth 100000 in
theorem Tryd.clone_walk (b o cap : Nat) (xs : List Value) (w : World) (hx : CellsAt w b o xs) (h1 : ∀ u ∈ xs, u.oneCell' = true) (hl : xs.length ≤ 1000) :
    Calls Tryd.prog 45 #[.slice (some ⟨b, o, none⟩) xs.length cap] w fun e w' => ∃ v, e = .returned v ∧ w.Since w.heap.size w' ∧ w'.ownsRow w.heap.size 3 1 v xs.length xs ∧ v ≠ .slice none 0 0 := by
  obtain ⟨i3, hi3, hz30, hz31, hz32⟩ := info_parts Tryd.info3
  have hown := World.ownsRow_lit (size := 1) (e := 3) (base := w.heap.size) w #[] 0 (Nat.le_refl _) (by decide) rfl
  have hnil0 := Lib.run_eql_slice_nil w 22 3 (some ⟨b, o, none⟩) xs.length cap 0 0 Tryd.underlying22
  go_enter Tryd.func45, Tryd.ntmps45
  go_wp2_with (refine wpList_append_own _ rfl _ _ 22 rfl w.heap.size 3 i3 (.int .i64 0) 1 8 Tryd.underlying22 hi3 hz30 hz31 hz32 rfl (by decide) _ 0 _ rfl hown ⟨b, o, none⟩ xs.length cap xs rfl (by omega) (fun j u hj => by rw [show (⟨b, o, none⟩ : Addr).add j = ⟨b, o + j, none⟩ by unfold Addr.add; split <;> simp_all]; exact (World.cell?_alloc_lt w _ ⟨b, o + j, none⟩ (World.block_lt_of_cell? w _ (hx j u hj))).trans (hx j u hj)) h1 (by unfold maxLen; omega) (by omega) (by simp) ?_; intro v w1 hown1 hg1 hnil)
  go_ret
  refine ⟨_, rfl, ((World.Since.refl _ w).alloc (Nat.le_refl _) _).grown hg1 (by simp) (fun k hk => ?_), ?_, fun h => ?_⟩
  · have h : some w.heap.size = some k := hk
    have := Option.some.inj h; omega
  · simpa using hown1
  · have := (hnil.1 h).1
    cases this
end Go.Proofs
namespace Go.Proofs
open Go.RowKit Go.LS Go.Deep
set_option linter.all false

/-- the product after j factors, i of the coefficients added -/
def nextP (g : List Nat) (j : Nat) : Nat → List Nat
  | 0 => g ++ [0]
  | i + 1 => (nextP g j i).set (i + 1) ((nextP g j i).getD (i + 1) 0 ^^^ gm (g.getD i 0) (ga j))
def gP : Nat → List Nat
  | 0 => [1]
  | j + 1 => nextP (gP j) (j + 1) (gP j).length
theorem nextP_len (g : List Nat) (j : Nat) : ∀ i, (nextP g j i).length = g.length + 1
  | 0 => by simp [nextP]
  | i + 1 => by simp [nextP, nextP_len g j i]
theorem gP_len : ∀ j, (gP j).length = j + 1
  | 0 => rfl
  | j + 1 => by show (nextP _ _ _).length = _; rw [nextP_len, gP_len j]
theorem nextP_sml {g : List Nat} (hg : Sml g) (j : Nat) : ∀ i, Sml (nextP g j i)
  | 0 => by
    intro x hx
    show x < 32
    rcases List.mem_append.1 (show x ∈ g ++ [0] from hx) with h | h
    · exact hg x h
    · simp at h; omega
  | i + 1 => set_sml (nextP_sml hg j i) _ _ (xor_lt32 (getD_sml (nextP_sml hg j i) _) (gm_lt _ _))
theorem gP_sml : ∀ j, Sml (gP j)
  | 0 => by intro x hx; simp [gP] at hx; omega
  | j + 1 => nextP_sml (gP_sml j) _ _
theorem gP_six : gP 6 = 1 :: genG := by decide +kernel
theorem intV_get (l : List Nat) (i : Nat) (h : i < l.length) : (intV l)[i]? = some (.int .i64 (l.getD i 0 : Int)) := by
  unfold intV; rw [List.getElem?_map, List.getD_eq_getElem?_getD, List.getElem?_eq_getElem h]; rfl
theorem intV_one (l : List Nat) : ∀ u ∈ intV l, u.oneCell' = true := by
  intro u hu
  obtain ⟨x, _, rfl⟩ := List.mem_map.1 hu
  rfl
theorem intV_set (l : List Nat) (i x : Nat) : (intV l).set i (.int .i64 (x : Int)) = intV (l.set i x) := by unfold intV; rw [List.map_set]
theorem tabsS {w w1 : World} {B : Nat} (ht : TabsAt w) (h : w.Since B w1) (hB : 2 ≤ B) : TabsAt w1 :=
  ⟨fun k hk => (h.cell (a := ⟨0, k, none⟩) (by show 0 < B; omega)).trans (ht.pw k hk), fun k hk => (h.cell (a := ⟨1, k, none⟩) (by show 1 < B; omega)).trans (ht.lg k hk)⟩
theorem own_cells {w : World} {B g cap n : Nat} {l : List Nat} (h : w.ownsRow B 3 1 (.slice (some ⟨g, 0, none⟩) n cap) n (intV l)) : CellsAt w g 0 (intV l) := by
  intro j u hu
  have := h.cells (g := g) rfl j u hu
  rw [Nat.zero_add]
  have e : (⟨g, 0, none⟩ : Addr).add j = ⟨g, j, none⟩ := by unfold Addr.add; split <;> simp_all
  rwa [e] at this
theorem own_since {w w' : World} {B B' e size n g cap : Nat} {xs : List Value} (h : w.ownsRow B e size (.slice (some ⟨g, 0, none⟩) n cap) n xs) (hS : w.Since B' w') (hg : g < B') : w'.ownsRow B e size (.slice (some ⟨g, 0, none⟩) n cap) n xs := by
  refine ⟨h.1, ?_⟩
  rcases h.2 with h1 | ⟨g', cap', cur, e1, hb, hc, rest⟩
  · exact .inl h1
  · have : g' = g := by cases e1; rfl
    subst this
    exact .inr ⟨g', cap', cur, e1, hb, (hS.block g' hg).trans hc, rest⟩
theorem own_cap {w : World} {B e size n g cap : Nat} {xs : List Value} (h : w.ownsRow B e size (.slice (some ⟨g, 0, none⟩) n cap) n xs) : n ≤ cap := by
  rcases h.2 with ⟨h1, _⟩ | ⟨g', cap', cur, e1, hb, hc, hn, _⟩
  · cases h1
  · cases e1; exact hn
def zeros6 : Array Value := #[.int .i64 0, .int .i64 0, .int .i64 0, .int .i64 0, .int .i64 0, .int .i64 0]
def genV : Array Value := #[.int .i64 17, .int .i64 26, .int .i64 30, .int .i64 27, .int .i64 30, .int .i64 24]
set_option maxHeartbeats 8000000 in
set_option maxRecDepth 100000 in
theorem Tryd.generator_walk (w : World) (ht : TabsAt w) (h2 : 2 ≤ w.heap.size) :
    Calls Tryd.prog 43 #[] w fun e w' => e = .returned (.agg genV) ∧ w.Since w.heap.size w' := by
  obtain ⟨i3, hi3, hz30, hz31, hz32⟩ := info_parts Tryd.info3
  obtain ⟨w1, hw1⟩ : ∃ w1, w1 = w.alloc (.cells zeros6 79) := ⟨_, rfl⟩
  have hsz1 : w1.heap.size = w.heap.size + 1 := by rw [hw1]; simp
  have hr0 : w1.rowIs w.heap.size 79 6 (fun _ => .int .i64 0) := by rw [hw1]; exact World.rowIs_alloc w zeros6 79 (fun _ => .int .i64 0) zero6_get
  have hs1 : w.Since w.heap.size w1 := by rw [hw1]; exact (World.Since.refl _ _).alloc (Nat.le_refl _) _
  have ht1 : TabsAt w1 := tabsS ht hs1 h2
  have hg0 := World.ownsRow_lit (size := 1) (e := 3) (base := w.heap.size + 1) w1 #[.int .i64 1] 1 (by omega) (by decide) rfl
  have hs2 := (World.Since.refl (w.heap.size + 1) w1).alloc (by omega) (.cells #[.int .i64 1] 3)
  rw [hsz1] at hg0
  rw [hw1] at hg0 hs2
  unfold zeros6 at hg0 hs2 hw1
  go_enter Tryd.func43, Tryd.ntmps43
  go_wp2
  go_loopw [1, 2] (fun v i wr => ∃ j g cap : Nat, j ≤ 6 ∧ i = .int .i64 ((j + 1 : Nat) : Int) ∧ v = .slice (some ⟨g, 0, none⟩) (j + 1) cap ∧ w1.Since (w.heap.size + 1) wr ∧ wr.ownsRow (w.heap.size + 1) 3 1 (.slice (some ⟨g, 0, none⟩) (j + 1) cap) (j + 1) (intV (gP j))) (fun _ i _ => 7 - (RowKit.intOf i).toNat)
  case atStart => exact ⟨0, w.heap.size + 1, 1, by omega, rfl, rfl, by rw [hw1]; exact hs2, hg0⟩
  case round =>
    obtain ⟨j, g, cap, hj, rfl, rfl, hS, hG⟩ := hrel
    have hlt := (hG.lt g rfl).2
    have hsw := hS.size
    by_cases hj5 : j < 6
    · have hcl : ∀ c, Calls Tryd.prog 45 #[.slice (some ⟨g, 0, none⟩) (j + 1) c] wr fun e w' => ∃ v, e = .returned v ∧ wr.Since wr.heap.size w' ∧ w'.ownsRow wr.heap.size 3 1 v (j + 1) (intV (gP j)) ∧ v ≠ .slice none 0 0 := by
        intro c
        have h := Tryd.clone_walk g 0 c (intV (gP j)) wr (own_cells hG) (intV_one _) (by rw [intV_len, gP_len]; omega)
        rw [intV_len, gP_len] at h
        exact h
      have hji : ((j + 1 : Nat) : Int) ≤ 6 := by omega
      go_wp2_with (first
        | (go_at_call 45; refine (hcl _).mono ?_; rintro e w3 ⟨v3, rfl, hS3, hO3, _⟩)
        | (refine wpList_append_lies _ rfl _ _ 22 rfl _ 3 i3 (.int .i64 0) 1 8 Tryd.underlying22 hi3 hz30 hz31 hz32 rfl (by decide) _ _ _ rfl (hO3.alloc _) ⟨w3.heap.size, 0, none⟩ 1 1 [.int .i64 0] rfl rfl (World.news_of_block (cs := #[.int .i64 0]) (t := 3) (fr := (0, 0)) (heap_alloc_new w3 _)) (by simp [Value.oneCell']) (by omega) (by unfold maxLen; omega) (by omega) (by have := hS3.size; simp; omega) _ rfl ?_; intro nb ncap w4 hown4 hgrow4 hat4 hlt4))
      have hgrow5 : (w3.alloc (Obj.cells #[.int .i64 0] 3)).grownBy w4 v3.ownBlock := hgrow4
      have hS4 : wr.Since wr.heap.size w4 := (hS3.alloc hS3.size _).grown hgrow5 (by have := hS3.size; simp; omega) (fun k hk => (hO3.lt k hk).1)
      have hnb := hown4.lt nb rfl
      have hO4 : w4.ownsRow wr.heap.size 3 1 (.slice (some ⟨nb, 0, none⟩) (j + 2) ncap) (j + 2) (intV (nextP (gP j) (j + 1) 0)) := by
        show w4.ownsRow _ _ _ _ _ (intV (gP j ++ [0])); rw [intV_app]; exact hown4
      clear hgrow4 hgrow5 hat4 hown4 hS3 hO3 hcl hlt4
      obtain ⟨N, hN⟩ : ∃ N, wr.heap.size = N := ⟨_, rfl⟩
      obtain ⟨wo, hwo⟩ : ∃ wo, wr = wo := ⟨_, rfl⟩
      rw [hN, hwo] at hS4
      rw [hwo] at hS hG
      rw [hN] at hO4 hlt hnb hsw
      clear hwo
      have eL : ((j : Int) + 1) = ((j + 1 : Nat) : Int) := by omega
      go_loopw [17] (fun v wi => ∃ i : Nat, i ≤ j + 1 ∧ v = .int .i64 i ∧ wo.Since N wi ∧ wi.ownsRow N 3 1 (.slice (some ⟨nb, 0, none⟩) (j + 2) ncap) (j + 2) (intV (nextP (gP j) (j + 1) i))) (fun v _ => j + 1 - (RowKit.intOf v).toNat)
      case atStart => exact ⟨0, Nat.zero_le _, rfl, hS4, hO4⟩
      case round =>
        obtain ⟨i, hi, rfl, hI, hO⟩ := hrel
        by_cases hil : i < j + 1
        · have hgc := (own_since hG hI hlt).cellAt i (by omega)
          rw [intV_get _ _ (by rw [gP_len]; exact hil)] at hgc
          have hnc := hO.cellAt (i + 1) (by omega)
          rw [intV_get _ _ (by rw [nextP_len, gP_len]; omega)] at hnc
          have hnf := hO.frozenAt (i + 1)
          have htw : TabsAt wr := tabsS ht1 (hS.trans (sinceMono hI (by omega))) (by omega)
          have hst := fun a => (hO.stored (i + 1) (.int .i64 (a : Int))).1
          have hx : (gP j).getD i 0 < 32 := getD_sml (gP_sml j) i
          have hy : (nextP (gP j) (j + 1) i).getD (i + 1) 0 < 32 := getD_sml (nextP_sml (gP_sml j) _ _) _
          have hnx : intV (nextP (gP j) (j + 1) (i + 1)) = (intV (nextP (gP j) (j + 1) i)).set (i + 1) (.int .i64 (((nextP (gP j) (j + 1) i).getD (i + 1) 0 ^^^ gm ((gP j).getD i 0) (ga (j + 1)) : Nat) : Int)) := by rw [intV_set]; rfl
          have pw : ∀ w' : World, TabsAt w' → Calls Tryd.prog 52 #[.int .i64 ((j : Int) + 1)] w' fun e w'' => e = .returned (.int .i64 (ga (j + 1) : Int)) ∧ w'' = w' := by
            intro w' h'
            rw [eL, ← powI_nat]
            exact Tryd.Power_walk _ (by omega) _ h'
          have ml : ∀ w' : World, TabsAt w' → Calls Tryd.prog 44 #[.int .i64 ((gP j).getD i 0 : Int), .int .i64 (ga (j + 1) : Int)] w' fun e w'' => e = .returned (.int .i64 (gm ((gP j).getD i 0) (ga (j + 1)) : Int)) ∧ ∃ n, w'' = w'.drewN n := by
            intro w' h'
            rw [← mulI_nat hx (ga_lt _)]
            exact Tryd.Mul_walk _ _ _ h'
          have hxr := xor_nat hy (gm_lt ((gP j).getD i 0) (ga (j + 1)))
          have hnext : ∀ a, wo.Since N ((wr.drewN a).setCell ⟨nb, i + 1, none⟩ (.int .i64 (bits .xor .i64 ((nextP (gP j) (j + 1) i).getD (i + 1) 0 : Int) (gm ((gP j).getD i 0) (ga (j + 1)) : Int)))) ∧ ((wr.drewN a).setCell ⟨nb, i + 1, none⟩ (.int .i64 (bits .xor .i64 ((nextP (gP j) (j + 1) i).getD (i + 1) 0 : Int) (gm ((gP j).getD i 0) (ga (j + 1)) : Int)))).ownsRow N 3 1 (.slice (some ⟨nb, 0, none⟩) (j + 2) ncap) (j + 2) (intV (nextP (gP j) (j + 1) (i + 1))) := by
            intro a
            refine ⟨(sinceDrewN hI a).setCell (by exact hnb.1) _, ?_⟩
            rw [xor_nat hy (gm_lt ((gP j).getD i 0) (ga (j + 1))), hnx]
            exact ((show (wr.drewN a).ownsRow N 3 1 _ _ _ from hO).stored (i + 1) _).1
          have iji : (i : Int) < (j : Int) + 1 := by omega
          have i01 : (0 : Int) ≤ (i : Int) + 1 := by omega
          have iji2 : (i : Int) + 1 < (j : Int) + 1 + 1 := by omega
          have wi1 : IntKind.i64.wrap ((i : Int) + 1) = (i : Int) + 1 := IntWalk.i64_in _ (by omega)
          clear hnx hst eL
          generalize gm ((gP j).getD i 0) (ga (j + 1)) = z at ml hnext
          generalize (gP j).getD i 0 = x at hgc ml hx
          generalize (nextP (gP j) (j + 1) i).getD (i + 1) 0 = y at hnc hnext hy
          generalize ga (j + 1) = q at pw ml
          go_wp2
          go_region_law (first
            | (go_simp; go_at_call 52; refine (pw _ (by first | exact htw | exact ⟨htw.pw, htw.lg⟩)).mono ?_; rintro e w1 ⟨rfl, rfl⟩)
            | (go_simp; go_at_call 44; refine (ml _ (by first | exact htw | exact ⟨htw.pw, htw.lg⟩)).mono ?_; rintro e w1 ⟨rfl, n1, rfl⟩))
          all_goals
            go_wp2
            exact ⟨⟨i + 1, by omega, by simp, (hnext _).1, (hnext _).2⟩, by simp [RowKit.intOf]; omega⟩
        · have hie : i = j + 1 := by omega
          subst hie
          clear eL
          have hO' : wr.ownsRow (w.heap.size + 1) 3 1 (.slice (some ⟨nb, 0, none⟩) (j + 1 + 1) ncap) (j + 1 + 1) (intV (gP (j + 1))) := by
            show wr.ownsRow _ _ _ _ _ (intV (nextP (gP j) (j + 1) (gP j).length))
            rw [gP_len]; exact ownMono hO (by omega)
          have hS' : w1.Since (w.heap.size + 1) wr := hS.trans (sinceMono hI (by omega))
          go_wp2
          exact ⟨⟨j + 1, nb, ncap, by omega, by simp, rfl, hS', hO'⟩, by simp [RowKit.intOf]; omega⟩
    · have hje : j = 6 := by omega
      subst hje
      rw [gP_six] at hG
      have c : ∀ k, k < 7 → wr.cell? ⟨g, k, none⟩ = (intV (1 :: genG))[k]? := fun k hk => hG.cellAt k (by omega)
      have c1 : wr.cell? ⟨g, 1, none⟩ = some (.int .i64 17) := c 1 (by decide)
      have c2 : wr.cell? ⟨g, 2, none⟩ = some (.int .i64 26) := c 2 (by decide)
      have c3 : wr.cell? ⟨g, 3, none⟩ = some (.int .i64 30) := c 3 (by decide)
      have c4 : wr.cell? ⟨g, 4, none⟩ = some (.int .i64 27) := c 4 (by decide)
      have c5 : wr.cell? ⟨g, 5, none⟩ = some (.int .i64 30) := c 5 (by decide)
      have c6 : wr.cell? ⟨g, 6, none⟩ = some (.int .i64 24) := c 6 (by decide)
      have hr : wr.rowIs w.heap.size 79 6 (fun _ => .int .i64 0) := hr0.of_block (hS.block _ (by omega))
      have rc : ∀ k, k < 6 → wr.cell? ⟨w.heap.size, k, none⟩ = some (.int .i64 0) := fun k hk => hr.cell hk
      have r0 := rc 0 (by decide); have r1 := rc 1 (by decide); have r2 := rc 2 (by decide); have r3 := rc 3 (by decide); have r4 := rc 4 (by decide); have r5 := rc 5 (by decide)
      have f0 := hr.frozen 0; have f1 := hr.frozen 1; have f2 := hr.frozen 2; have f3 := hr.frozen 3; have f4 := hr.frozen 4; have f5 := hr.frozen 5
      clear rc c
      have hcap : 7 ≤ cap := own_cap hG
      have hc1 : ¬ cap = 1 := by omega
      have hAA : ∀ w' : World, ∀ c : Nat, (Instr.arrayAt 79 (.slice (some ⟨g, 1, none⟩) 6 c)).run Tryd.prog w' = .ok (.pointer (some ⟨g, 1, none⟩)) w' := fun w' c => by
        simp [Instr.arrayAt, run_underlying Tryd.underlying79]
      go_wp2
      have hrr := (((((hr.set 0 (.int .i64 17)).set 1 (.int .i64 26)).set 2 (.int .i64 30)).set 3 (.int .i64 27)).set 4 (.int .i64 30)).set 5 (.int .i64 24)
      obtain ⟨cc, hcc, hsz, hget⟩ := hrr
      have hc6 : cc = genV := by
        apply Array.ext_getElem?
        intro i
        match i with
        | 0 => rw [hget 0 (by decide)]; rfl
        | 1 => rw [hget 1 (by decide)]; rfl
        | 2 => rw [hget 2 (by decide)]; rfl
        | 3 => rw [hget 3 (by decide)]; rfl
        | 4 => rw [hget 4 (by decide)]; rfl
        | 5 => rw [hget 5 (by decide)]; rfl
        | i + 6 => rw [Array.getElem?_eq_none (by omega), Array.getElem?_eq_none (by simp [genV])]
      subst hc6
      refine bodyPost_ret (results_cell_row rfl _ _ w.heap.size 79 _ _ _ rfl hcc Tryd.underlying79 rfl (by kernel_rfl)) rfl ?_
      have hs0 : w.Since w.heap.size wr := hs1.trans (sinceMono hS (Nat.le_succ _))
      exact ⟨rfl, ((((((hs0.setCell (Nat.le_refl _) _).setCell (Nat.le_refl _) _).setCell (Nat.le_refl _) _).setCell (Nat.le_refl _) _).setCell (Nat.le_refl _) _).setCell (Nat.le_refl _) _)⟩
end Go.Proofs
