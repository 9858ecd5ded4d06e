/-
  The builder's contracts; walks of Flip, marked, Draw. No condition but those that each theorem names.
-/
import Derived.Test.YtmgjidfafnajnaaDoorSh
import Derived.Tactics
import Derived.WalkKit
import Derived.BigCall
import Derived.BigGuard
import Derived.Lib.Walk
import Derived.Lib.FrozenHead2
import Derived.Lib.OthersKept
import Derived.Test.YtmgjidfafnajnaaDoorBXC
import Derived.LoopTactic
namespace Go.Proofs
open Go.Shelf Go.RowKit Go.Lib
set_option linter.all false

theorem Tryd.size62 : (Tryd.prog.info? 68).map (fun i => i.size) = some 2 := by kernel_rfl
theorem Tryd.infoByte : (Tryd.prog.info? 5).map (fun i => (i.zero, i.size, i.bytes)) = some (some (.int .u8 0), 1, 1) := by kernel_rfl
theorem Tryd.lies62 : liesAt Tryd.prog Tryd.prog.depth 68 (2 / Tryd.prog.cellsOf 68) 0 68 1 = true := by kernel_rfl

set_option maxHeartbeats 1000000 in
set_option maxRecDepth 100000 in
theorem Tryd.bw_used (b : Nat) (w : World) (h0 : w.cell? ⟨b, 0, none⟩ = some (.pointer (some ⟨b, 0, none⟩))) :
    Calls Tryd.prog 46 #[.pointer (some ⟨b, 0, none⟩)] w fun e w' => e = .returned (.tuple #[]) ∧ w' = w := by
  obtain ⟨j, hj, _⟩ := Option.map_eq_some_iff.1 Tryd.size62
  go_enter Tryd.func46, Tryd.ntmps46
  go_wp2
  rw [Lib.run_neq_ptr_same w _ Tryd.underlying65 hj]
  go_wp2
  go_end0
  exact ⟨rfl, rfl⟩

set_option maxHeartbeats 1000000 in
set_option maxRecDepth 100000 in
theorem Tryd.bw_fresh (b : Nat) (w : World) (h0 : w.cell? ⟨b, 0, none⟩ = some (.pointer none)) (hsh : w.shape? b = some (68, 2)) (hfz : w.frozen? ⟨b, 0, none⟩ = false) :
    Calls Tryd.prog 46 #[.pointer (some ⟨b, 0, none⟩)] w fun e w' => e = .returned (.tuple #[]) ∧ w' = w.setCell ⟨b, 0, none⟩ (.pointer (some ⟨b, 0, none⟩)) := by
  obtain ⟨j, hj, hjs⟩ := Option.map_eq_some_iff.1 Tryd.size62
  go_enter Tryd.func46, Tryd.ntmps46
  go_wp2
  rw [Lib.run_to_unsafe w ⟨b, 0, none⟩ Tryd.underlying65 Tryd.underlying110 hj (by rw [hjs]; decide) hsh (Nat.zero_lt_succ 1)]
  simp only [Result.andThen]
  rw [Oper.upon_value]
  go_wp2
  rw [run_callFunc_extern Tryd.func60 (by kernel_rfl) (by kernel_rfl) (by kernel_rfl) (e := Extern.AbiNoEscape.same) (by kernel_rfl)]
  rw [Lib.run_noEscape]
  simp only [Result.andThen]
  rw [Oper.upon_value]
  go_wp2
  rw [Lib.run_from_unsafe w ⟨b, 0, none⟩ Tryd.underlying110 Tryd.underlying65 hj hsh Tryd.lies62]
  simp only [Result.andThen]
  rw [Oper.upon_value]
  go_wp2
  go_end0
  exact ⟨rfl, rfl⟩

theorem Tryd.bw_copyCheck (B b : Nat) (bs : List Value) (w : World) (h : Lib.IsBuilderF 68 5 B b bs w) :
    Calls Tryd.prog 46 #[.pointer (some ⟨b, 0, none⟩)] w fun e w' => e = .returned (.tuple #[]) ∧ (Lib.BuilderAtF 68 5 B b (.pointer (some ⟨b, 0, none⟩)) bs w' ∧ Below B w w') := by
  rcases h with h | h
  · refine (Tryd.bw_fresh b w h.cell0 h.shape h.frozen0).mono ?_
    rintro e w' ⟨rfl, rfl⟩
    exact ⟨rfl, h.used _, (Below.refl B w).setCell (p := ⟨b, 0, none⟩) h.1 _⟩
  · refine (Tryd.bw_used b w h.cell0).mono ?_
    rintro e w' ⟨rfl, rfl⟩
    exact ⟨rfl, h, Below.refl B _⟩

set_option maxHeartbeats 2000000 in
set_option maxRecDepth 100000 in
theorem Tryd.bw_WriteByte (B b : Nat) (bs : List Value) (c : Int) (w : World) (h : Lib.IsBuilderF 68 5 B b bs w) (hlen : bs.length + 1 ≤ 140737488355328) (hBw : B ≤ w.heap.size) :
    Calls Tryd.prog 24 #[.pointer (some ⟨b, 0, none⟩), .int .u8 c] w fun e w' => e = .returned .nilIface ∧ (Lib.IsBuilderF 68 5 B b (bs ++ [.int .u8 c]) w' ∧ Below B w w') := by
  obtain ⟨i0, hi, hz0, hz1, hz2⟩ := info_parts Tryd.infoByte
  go_enter Tryd.func24, Tryd.ntmps24
  go_wp2_with (go_at_call 46; refine (Tryd.bw_copyCheck B b bs _ h).mono ?_)
  rintro e w1 ⟨rfl, h1, hb1⟩
  obtain ⟨hB, v, hbk, hown, hne⟩ := h1
  have c0 : w1.cell? ⟨b, 0, none⟩ = some (.pointer (some ⟨b, 0, none⟩)) := by rw [Lib.cell_of_heap hbk]; rfl
  have c1 : w1.cell? ⟨b, 1, none⟩ = some v := by rw [Lib.cell_of_heap hbk]; rfl
  go_wp2_with (at_builtin; refine wpList_append_ownF _ rfl _ _ 66 rfl B 5 i0 (.int .u8 0) 1 1 Tryd.underlying66 hi hz0 hz1 hz2 rfl (by decide) _ _ _ rfl (hown.alloc _) ⟨w1.heap.size, 0, none⟩ 1 1 [.int .u8 c] rfl rfl ?c1 ?c2 ?c3 ?c4 ?c5 ?_)
  case c1 =>
    intro j u hj
    match j, hj with
    | 0, hj => simp at hj; subst hj; simp [Addr.add]
  case c2 => intro u hu; simp at hu; subst hu; rfl
  case c3 => unfold maxLen; omega
  case c4 => omega
  case c5 => have := hb1.size; simp; omega
  intro v' w2 hown' hgrow _
  have hlt : b < w1.heap.size := by
    rcases Nat.lt_or_ge b w1.heap.size with h' | h'
    · exact h'
    · simp [Array.getElem?_eq_none h'] at hbk
  have hb2 : w2.heap[b]? = some (.cells #[.pointer (some ⟨b, 0, none⟩), v] 68 (0, 0)) := by
    rw [hgrow.block b (by simp; omega) (fun e => hne e.symm), Lib.alloc_old w1 _ b hlt]
    exact hbk
  have d0 : w2.cell? ⟨b, 0, none⟩ = some (.pointer (some ⟨b, 0, none⟩)) := by rw [Lib.cell_of_heap hb2]; rfl
  have d1 : w2.cell? ⟨b, 1, none⟩ = some v := by rw [Lib.cell_of_heap hb2]; rfl
  have f1 : w2.frozen? ⟨b, 1, none⟩ = false := Lib.frozen_of_heap hb2 1
  obtain ⟨g, cap, rfl⟩ : ∃ g cap, v' = .slice (some ⟨g, 0, none⟩) (bs.length + 1) cap := by
    rcases hown'.2 with ⟨_, h0⟩ | ⟨g, cap, cur, fz, hv, _⟩
    · omega
    · exact ⟨g, cap, hv⟩
  go_wp2
  go_ret
  refine ⟨rfl, .inr ?_, ?_⟩
  · exact Lib.BuilderAtF.put (T := 68) (e := 5) hB hb2 (bs' := bs ++ [.int .u8 c]) (by simpa using hown') (by decide)
  · exact ((hb1.alloc (by have := hb1.size; omega) _).grown hgrow (by have := hb1.size; simp; omega) (fun k hk => (hown.lt k hk).1)).setCell (p := ⟨b, 1, none⟩) hB _

set_option maxHeartbeats 2000000 in
set_option maxRecDepth 100000 in
theorem Tryd.bw_WriteString (B b : Nat) (bs : List Value) (s : ByteArray) (w : World) (h : Lib.IsBuilderF 68 5 B b bs w) (hlen : bs.length + s.size ≤ 140737488355328) (hBw : B ≤ w.heap.size) :
    Calls Tryd.prog 22 #[.pointer (some ⟨b, 0, none⟩), .string s] w fun e w' => e = .returned (.tuple #[.int .i64 s.size, .nilIface]) ∧ (Lib.IsBuilderF 68 5 B b (bs ++ Lib.strCells s) w' ∧ Below B w w') := by
  obtain ⟨i0, hi, hz0, hz1, hz2⟩ := info_parts Tryd.infoByte
  go_enter Tryd.func22, Tryd.ntmps22
  go_wp2_with (go_at_call 46; refine (Tryd.bw_copyCheck B b bs _ h).mono ?_)
  rintro e w1 ⟨rfl, h1, hb1⟩
  obtain ⟨hB, v, hbk, hown, hne⟩ := h1
  have c0 : w1.cell? ⟨b, 0, none⟩ = some (.pointer (some ⟨b, 0, none⟩)) := by rw [Lib.cell_of_heap hbk]; rfl
  have c1 : w1.cell? ⟨b, 1, none⟩ = some v := by rw [Lib.cell_of_heap hbk]; rfl
  go_wp2_with (at_builtin; refine Lib.wpList_append_own_stringF _ rfl _ _ 66 9 rfl B 5 i0 Tryd.underlying66 Tryd.underlying9 hi hz0 hz1 hz2 _ _ _ rfl hown s rfl ?c3 ?c4 ?c5 ?_)
  case c3 => unfold maxLen; omega
  case c4 => omega
  case c5 => have := hb1.size; omega
  intro v' w2 hown' hgrow _
  have hlt : b < w1.heap.size := by
    rcases Nat.lt_or_ge b w1.heap.size with h' | h'
    · exact h'
    · simp [Array.getElem?_eq_none h'] at hbk
  have hb2 : w2.heap[b]? = some (.cells #[.pointer (some ⟨b, 0, none⟩), v] 68 (0, 0)) := by
    rw [hgrow.block b hlt (fun e => hne e.symm)]
    exact hbk
  have d0 : w2.cell? ⟨b, 0, none⟩ = some (.pointer (some ⟨b, 0, none⟩)) := by rw [Lib.cell_of_heap hb2]; rfl
  have d1 : w2.cell? ⟨b, 1, none⟩ = some v := by rw [Lib.cell_of_heap hb2]; rfl
  have f1 : w2.frozen? ⟨b, 1, none⟩ = false := Lib.frozen_of_heap hb2 1
  obtain ⟨ao, n', cap, rfl⟩ : ∃ ao n' cap, v' = .slice ao n' cap := by
    rcases hown'.2 with ⟨hv, _⟩ | ⟨g, cap, cur, fz, hv, _⟩
    · exact ⟨_, _, _, hv⟩
    · exact ⟨_, _, _, hv⟩
  go_wp2
  go_ret2
  refine ⟨rfl, .inr ?_, ?_⟩
  · exact Lib.BuilderAtF.put (T := 68) (e := 5) hB hb2 (bs' := bs ++ Lib.strCells s) (by simpa [Lib.strCells_length] using hown') (by decide)
  · exact (hb1.grown hgrow (by have := hb1.size; omega) (fun k hk => (hown.lt k hk).1)).setCell (p := ⟨b, 1, none⟩) hB _
end Go.Proofs
namespace Go.Proofs
open Go.Shelf Go.RowKit Go.LS Go.Deep
set_option linter.all false

theorem Lib.ownsRowF_kept {B e sz : Nat} {v : Value} {n : Nat} {xs : List Value} {w w' : World} (h : w.ownsRowF B e sz v n xs) (hk : Below w.heap.size w w') : w'.ownsRowF B e sz v n xs := by
  obtain ⟨h1, h2⟩ := h
  refine ⟨h1, ?_⟩
  rcases h2 with h2 | ⟨g, cap, cur, fz, h3, h4, h5, h6⟩
  · exact .inl h2
  · refine .inr ⟨g, cap, cur, fz, h3, h4, (hk.block g ?_).trans h5, h6⟩
    rcases Nat.lt_or_ge g w.heap.size with k | k
    · exact k
    · simp [Array.getElem?_eq_none k] at h5
theorem Lib.isBuilderF_kept {T e : TypeId} {B b : Nat} {bs : List Value} {w w' : World} (h : Lib.IsBuilderF T e B b bs w) (hk : Below w.heap.size w w') : Lib.IsBuilderF T e B b bs w' := by
  have one : ∀ p, Lib.BuilderAtF T e B b p bs w → Lib.BuilderAtF T e B b p bs w' := fun p h => by
    obtain ⟨h1, v, h2, h3, h4⟩ := h
    have hlt : b < w.heap.size := by
      rcases Nat.lt_or_ge b w.heap.size with g | g
      · exact g
      · simp [Array.getElem?_eq_none g] at h2
    exact ⟨h1, v, (hk.block b hlt).trans h2, Lib.ownsRowF_kept h3 hk, h4⟩
  rcases h with h | h
  · exact .inl (one _ h)
  · exact .inr (one _ h)
theorem Lib.isBuilderF_lt {T e : TypeId} {B b : Nat} {bs : List Value} {w : World} (h : Lib.IsBuilderF T e B b bs w) : b < w.heap.size := by
  rcases h with ⟨_, v, h2, _⟩ | ⟨_, v, h2, _⟩ <;> (rcases Nat.lt_or_ge b w.heap.size with g | g; exact g; simp [Array.getElem?_eq_none g] at h2)
theorem Lib.fresh_builder (w : World) : Lib.IsBuilderF 68 5 w.heap.size w.heap.size (Lib.byteCells []) (w.alloc (.cells #[.pointer none, .slice none 0 0] 68)) :=
  .inl (Lib.BuilderAtF.of ⟨Nat.le_refl _, _, heap_alloc_new _ _, World.ownsRow_nil _ _ _ _, by simp [Value.ownBlock]⟩)
theorem Tryd.bw_ws (b : Nat) (l : List UInt8) (s : ByteArray) (w : World) (h : Lib.IsBuilderF 68 5 b b (Lib.byteCells l) w) (hlen : l.length + s.size ≤ 140737488355328) :
    Calls Tryd.prog 22 #[.pointer (some ⟨b, 0, none⟩), .string s] w fun e w' => e = .returned (.tuple #[.int .i64 s.size, .nilIface]) ∧ (Lib.IsBuilderF 68 5 b b (Lib.byteCells (l ++ s.data.toList)) w' ∧ Below b w w') := by
  refine (Tryd.bw_WriteString b b (Lib.byteCells l) s w h (by rw [Lib.byteCells_length]; exact hlen) (Nat.le_of_lt (Lib.isBuilderF_lt h))).mono ?_
  rintro e w' ⟨h1, h2, h3⟩
  refine ⟨h1, ?_, h3⟩
  rw [Lib.byteCells_append]; exact h2
theorem Tryd.bw_wb (b : Nat) (l : List UInt8) (c : UInt8) (w : World) (h : Lib.IsBuilderF 68 5 b b (Lib.byteCells l) w) (hlen : l.length ≤ 100000) :
    Calls Tryd.prog 24 #[.pointer (some ⟨b, 0, none⟩), .int .u8 (c.toNat : Int)] w fun e w' => e = .returned .nilIface ∧ (Lib.IsBuilderF 68 5 b b (Lib.byteCells (l ++ [c])) w' ∧ Below b w w') := by
  refine (Tryd.bw_WriteByte b b (Lib.byteCells l) c.toNat w h (by rw [Lib.byteCells_length]; omega) (Nat.le_of_lt (Lib.isBuilderF_lt h))).mono ?_
  rintro e w' ⟨h1, h2, h3⟩
  refine ⟨h1, ?_, h3⟩
  rw [Lib.byteCells_append]; exact h2
theorem take_rev (l : List UInt8) (k : Nat) (h : k < l.length) : l.reverse.take (k + 1) = l.reverse.take k ++ [l[l.length - 1 - k]] := by
  rw [List.take_succ, List.getElem?_eq_getElem (by simpa using h), List.getElem_reverse]
  rfl
set_option maxHeartbeats 4000000 in
set_option maxRecDepth 100000 in
theorem Tryd.Flip_walk (s : ByteArray) (hs : s.size ≤ 1000) (w : World) :
    Calls Tryd.prog 33 #[.string s] w fun e w' => e = .returned (.string ⟨s.data.toList.reverse.toArray⟩) ∧ Below w.heap.size w w' := by
  have hb0 := Lib.fresh_builder w
  have hbl := (Below.refl w.heap.size w).alloc (Nat.le_refl _) (.cells #[.pointer none, .slice none 0 0] 68)
  have hlen : s.data.toList.length = s.size := rfl
  go_enter Tryd.func33, Tryd.ntmps33
  go_wp2
  rw [show (⟨#[]⟩ : ByteArray) = bs [] from rfl]
  go_loopw [4] (fun i wr => ∃ k : Nat, k ≤ s.size ∧ i = .int .i64 ((s.size : Int) - 1 - (k : Int)) ∧ Lib.IsBuilderF 68 5 w.heap.size w.heap.size (Lib.byteCells (s.data.toList.reverse.take k)) wr ∧ Below w.heap.size w wr) (fun i _ => (RowKit.intOf i + 1).toNat)
  case atStart => exact ⟨0, Nat.zero_le _, by simp, hb0, hbl⟩
  case round =>
    obtain ⟨k, hk, rfl, hB, hbel⟩ := hrel
    by_cases hkl : k < s.size
    · have hi0 : (0 : Int) ≤ (s.size : Int) - 1 - (k : Int) := by omega
      have hi1 : (s.size : Int) - 1 - (k : Int) < (s.size : Int) := by omega
      have hl : (s.data.toList.reverse.take k).length ≤ 100000 := by simp; omega
      have hw1 : IntKind.i64.wrap ((s.size : Int) - 1 - (k : Int) - 1) = (s.size : Int) - 1 - ((k + 1 : Nat) : Int) := by rw [IntWalk.i64_in _ (by omega)]; omega
      have hw2 : RowKit.wrap64 ((s.size : Int) - 1 - (k : Int) - 1) = (s.size : Int) - 1 - ((k + 1 : Nat) : Int) := by unfold RowKit.wrap64; omega
      have htk := take_rev s.data.toList k hkl
      go_wp2_with (first
        | (go_at_call 24; refine (Tryd.bw_wb _ _ _ _ hB hl).mono ?_; rintro e w1 ⟨rfl, hB1, hb1⟩))
      rw [show s[s.size - 1 - k] = s.data.toList[s.data.toList.length - 1 - k] from rfl, ← htk] at hB1
      exact ⟨⟨k + 1, by omega, by simp, hB1, hbel.trans hb1⟩, by simp [RowKit.intOf]; omega⟩
    · have hke : k = s.size := by omega
      rw [hke, List.take_of_length_le (by simp)] at hB
      have hsz := hbel.size
      go_wp2_with (first
        | (go_at_call 25; refine (Tryd.Builder_String_any_k _ _ _ _ hB hsz).mono ?_; rintro e w1 ⟨rfl, hB1, hb1, hok⟩))
      go_ret
      exact ⟨rfl, hbel.trans hb1⟩
end Go.Proofs
namespace Go.Proofs
open Go.Shelf Go.RowKit Go.LS Go.Deep
set_option linter.all false

set_option maxHeartbeats 4000000 in
set_option maxRecDepth 100000 in
theorem Tryd.marked_walk (s : ByteArray) (hs : s.size = 74) (c d : UInt8) (w : World) :
    Calls Tryd.prog 53 #[.string s, .string ⟨#[c]⟩, .string ⟨#[d]⟩] w fun e w' => e = .returned (.bool (decide (4 ≤ (s.data.toList.take 7).count c) && decide (4 ≤ (s.data.toList.drop 67).count d))) ∧ w' = w := by
  go_enter Tryd.func53, Tryd.ntmps53
  have hx : ∀ a b : Nat, (s.extract a b).data.toList = (s.data.toList.drop a).take (b - a) := fun a b => by
    rw [ByteArray.data_extract, Array.toList_extract]
  go_wp2_with (first
    | (go_at_call 65; refine (Tryd.strings_Count_one _ _ _).mono ?_; rintro e w ⟨rfl, rfl⟩))
  · rename_i h4
    have h4' : 4 ≤ (s.data.toList.take 7).count c := by
      have : (4 : Int) ≤ (((s.data.toList.take 7).count c : Nat) : Int) := h4
      omega
    have hl : (s.data.toList.drop 67).take 7 = s.data.toList.drop 67 := List.take_of_length_le (by
      have : s.data.toList.length = 74 := hs
      rw [List.length_drop]; omega)
    go_ret
    refine ⟨?_, rfl⟩
    show Ending.returned (Value.bool (decide ((4 : Int) ≤ ((((s.data.toList.drop 67).take 7).count d : Nat) : Int)))) = _
    rw [hl]
    congr 2
    by_cases h : 4 ≤ (s.data.toList.drop 67).count d
    · rw [decide_eq_true h4', decide_eq_true h, decide_eq_true (show (4 : Int) ≤ _ by omega)]; rfl
    · rw [decide_eq_true h4', decide_eq_false h, decide_eq_false (show ¬ (4 : Int) ≤ _ by omega)]; rfl
  · rename_i h4
    have h4' : ¬ 4 ≤ (s.data.toList.take 7).count c := by
      have : (((s.data.toList.take 7).count c : Nat) : Int) < 4 := h4
      omega
    go_ret
    refine ⟨?_, rfl⟩
    rw [decide_eq_false h4', Bool.false_and]
    rfl
def symsP (pa ca pg va : Nat) : List Nat := [pa, ca / 1024, ca / 32 % 32, ca % 32, pg, va]
set_option maxHeartbeats 4000000 in
set_option maxRecDepth 100000 in
theorem Tryd.Valid_walk (pa ca pg va : Nat) (w : World) (h1 : pa < 32) (h2 : ca ≤ 9999) (h3 : pg < 32) (h4 : va < 32) :
    Calls Tryd.prog 39 #[.agg #[.int .i64 pa, .int .i64 ca, .int .i64 pg, .int .i64 va]] w fun e w' => e = .returned (.bool true) ∧ w.Since w.heap.size w' := by
  have hs := (World.Since.refl w.heap.size w).alloc (Nat.le_refl _) (.cells #[.int .i64 pa, .int .i64 ca, .int .i64 pg, .int .i64 va] 38)
  have a1 : (pa : Int) < 32 := by omega
  have a2 : (ca : Int) ≤ 9999 := by omega
  have a3 : (pg : Int) < 32 := by omega
  have a4 : (va : Int) < 32 := by omega
  go_enter Tryd.func39, Tryd.ntmps39
  go_wp2
  go_ret
  exact ⟨rfl, hs⟩
set_option maxHeartbeats 4000000 in
set_option maxRecDepth 100000 in
theorem Tryd.Symbols_walk (pa ca pg va : Nat) (w : World) (h1 : pa < 32) (h2 : ca ≤ 9999) (h3 : pg < 32) (h4 : va < 32) :
    Calls Tryd.prog 20 #[.agg #[.int .i64 pa, .int .i64 ca, .int .i64 pg, .int .i64 va]] w fun e w' => ∃ b, e = .returned (.tuple #[.slice (some ⟨b, 0, none⟩) 6 6, .int .i64 0]) ∧ w.Since w.heap.size w' ∧ b < w'.heap.size ∧ NatsAt w' b 0 (symsP pa ca pg va) := by
  have hs := (World.Since.refl w.heap.size w).alloc (Nat.le_refl _) (.cells #[.int .i64 pa, .int .i64 ca, .int .i64 pg, .int .i64 va] 38)
  have hV := Tryd.Valid_walk pa ca pg va (w.alloc (.cells #[.int .i64 pa, .int .i64 ca, .int .i64 pg, .int .i64 va] 38)) h1 h2 h3 h4
  have hz : (w.alloc (.cells #[.int .i64 pa, .int .i64 ca, .int .i64 pg, .int .i64 va] 38)).heap.size = w.heap.size + 1 := by simp
  have c0 : (w.alloc (.cells #[.int .i64 pa, .int .i64 ca, .int .i64 pg, .int .i64 va] 38)).cell? ⟨w.heap.size, 0, none⟩ = some (.int .i64 pa) := by rw [World.cell?_alloc_new]; rfl
  have c1 : (w.alloc (.cells #[.int .i64 pa, .int .i64 ca, .int .i64 pg, .int .i64 va] 38)).cell? ⟨w.heap.size, 1, none⟩ = some (.int .i64 ca) := by rw [World.cell?_alloc_new]; rfl
  have c2 : (w.alloc (.cells #[.int .i64 pa, .int .i64 ca, .int .i64 pg, .int .i64 va] 38)).cell? ⟨w.heap.size, 2, none⟩ = some (.int .i64 pg) := by rw [World.cell?_alloc_new]; rfl
  have c3 : (w.alloc (.cells #[.int .i64 pa, .int .i64 ca, .int .i64 pg, .int .i64 va] 38)).cell? ⟨w.heap.size, 3, none⟩ = some (.int .i64 va) := by rw [World.cell?_alloc_new]; rfl
  have q1 : (ca : Int).tdiv 1024 = ((ca / 1024 : Nat) : Int) := by rw [Int.tdiv_eq_ediv_of_nonneg (by omega)]; omega
  have q2 : (ca : Int).tdiv 32 = ((ca / 32 : Nat) : Int) := by rw [Int.tdiv_eq_ediv_of_nonneg (by omega)]; omega
  have q3 : ((ca / 32 : Nat) : Int).tmod 32 = ((ca / 32 % 32 : Nat) : Int) := by rw [Int.tmod_eq_emod_of_nonneg (by omega)]; omega
  have q4 : (ca : Int).tmod 32 = ((ca % 32 : Nat) : Int) := by rw [Int.tmod_eq_emod_of_nonneg (by omega)]; omega
  obtain ⟨wq, hwq⟩ : ∃ wq, w.alloc (.cells #[.int .i64 pa, .int .i64 ca, .int .i64 pg, .int .i64 va] 38) = wq := ⟨_, rfl⟩
  rw [hwq] at hV c0 c1 c2 c3 hz hs
  have hcc : ∀ w2 : World, wq.Since wq.heap.size w2 → ∀ j u, wq.cell? ⟨w.heap.size, j, none⟩ = some u → w2.cell? ⟨w.heap.size, j, none⟩ = some u := fun w2 h j u hu => (h.cell (a := ⟨w.heap.size, j, none⟩) (by show w.heap.size < _; omega)).trans hu
  go_enter Tryd.func20, Tryd.ntmps20
  go_wp2_with (first
    | (go_at_call 39; refine hV.mono ?_; rintro e w2 ⟨rfl, hS2⟩; have d0 := hcc w2 hS2 0 _ c0; have d1 := hcc w2 hS2 1 _ c1; have d2 := hcc w2 hS2 2 _ c2; have d3 := hcc w2 hS2 3 _ c3))
  go_ret2
  refine ⟨w2.heap.size, rfl, (hs.trans (sinceMono hS2 (by omega))).alloc (by have := hS2.size; omega) _, by simp, fun i hi => ?_⟩
  rw [Nat.zero_add, World.cell?_alloc_new]
  have e1 : ((ca / 1024 : Nat) : Int) = (ca : Int) / 1024 := by omega
  have e2 : ((ca / 32 % 32 : Nat) : Int) = (ca : Int) / 32 % 32 := by omega
  have e3 : ((ca % 32 : Nat) : Int) = (ca : Int) % 32 := by omega
  match i, hi with
  | 0, _ => rfl
  | 1, _ => show some (Value.int .i64 _) = some (Value.int .i64 ((ca / 1024 : Nat) : Int)); rw [e1]
  | 2, _ => show some (Value.int .i64 _) = some (Value.int .i64 ((ca / 32 % 32 : Nat) : Int)); rw [e2]
  | 3, _ => show some (Value.int .i64 _) = some (Value.int .i64 ((ca % 32 : Nat) : Int)); rw [e3]
  | 4, _ => rfl
  | 5, _ => rfl
def bitB (c k : Nat) : UInt8 := if (c / 2 ^ (4 - k)) % 2 = 1 then 49 else 48
def bits5 (c : Nat) : List UInt8 := (List.range 5).map (bitB c)
def drawL (l : List Nat) : List UInt8 := List.replicate 7 49 ++ l.flatMap bits5 ++ List.replicate 7 48
theorem flat_len5 : ∀ l : List Nat, (l.flatMap bits5).length = 5 * l.length
  | [] => rfl
  | x :: l => by
    rw [List.flatMap_cons, List.length_append, flat_len5 l, List.length_cons]
    have : (bits5 x).length = 5 := by simp [bits5]
    omega
theorem symsP_sml {pa ca pg va : Nat} (h1 : pa < 32) (h2 : ca ≤ 9999) (h3 : pg < 32) (h4 : va < 32) : Sml (symsP pa ca pg va) := by
  intro x hx
  simp [symsP] at hx
  omega
theorem flat_step (l : List Nat) (i : Nat) (h : i < l.length) : (l.take (i + 1)).flatMap bits5 = (l.take i).flatMap bits5 ++ bits5 (l.getD i 0) := by
  rw [List.take_succ, List.getElem?_eq_getElem h, List.flatMap_append, List.getD_eq_getElem?_getD, List.getElem?_eq_getElem h]
  simp
theorem bits_step (c k : Nat) (h : k < 5) : (bits5 c).take (k + 1) = (bits5 c).take k ++ [bitB c k] := by
  rw [List.take_succ]
  congr 1
  simp [bits5, List.getElem?_map, List.getElem?_range h]
theorem bit_val {c k : Nat} (hc : c < 32) (hk : k < 5) : (48 + bits .and .i64 ((c : Int) / 2 ^ (4 - k)) 1) % 256 = ((bitB c k).toNat : Int) := by
  have h : allN 32 (fun c => allN 5 fun k => (48 + bits .and .i64 ((c : Int) / 2 ^ (4 - k)) 1) % 256 == ((bitB c k).toNat : Int)) = true := by decide +kernel
  exact eq_of_beq (allN_spec _ _ (allN_spec _ _ h c hc) k hk)
set_option maxHeartbeats 8000000 in
set_option maxRecDepth 100000 in
theorem Tryd.Draw_walk (pa ca pg va : Nat) (w : World) (ht : TabsAt w) (hz2 : 2 ≤ w.heap.size) (h1 : pa < 32) (h2 : ca ≤ 9999) (h3 : pg < 32) (h4 : va < 32) :
    Calls Tryd.prog 7 #[.agg #[.int .i64 pa, .int .i64 ca, .int .i64 pg, .int .i64 va]] w fun e w' => e = .returned (.tuple #[.string ⟨(drawL (encP (symsP pa ca pg va))).toArray⟩, .int .i64 0]) ∧ w.Since w.heap.size w' := by
  have hs := (World.Since.refl w.heap.size w).alloc (Nat.le_refl _) (.cells #[.int .i64 pa, .int .i64 ca, .int .i64 pg, .int .i64 va] 38)
  have hY := Tryd.Symbols_walk pa ca pg va (w.alloc (.cells #[.int .i64 pa, .int .i64 ca, .int .i64 pg, .int .i64 va] 38)) h1 h2 h3 h4
  have hz : (w.alloc (.cells #[.int .i64 pa, .int .i64 ca, .int .i64 pg, .int .i64 va] 38)).heap.size = w.heap.size + 1 := by simp
  have hsm := symsP_sml h1 h2 h3 h4
  have hl6 : (symsP pa ca pg va).length = 6 := rfl
  have c0 : (w.alloc (.cells #[.int .i64 pa, .int .i64 ca, .int .i64 pg, .int .i64 va] 38)).cell? ⟨w.heap.size, 0, none⟩ = some (.int .i64 pa) := by rw [World.cell?_alloc_new]; rfl
  have c1 : (w.alloc (.cells #[.int .i64 pa, .int .i64 ca, .int .i64 pg, .int .i64 va] 38)).cell? ⟨w.heap.size, 1, none⟩ = some (.int .i64 ca) := by rw [World.cell?_alloc_new]; rfl
  have c2 : (w.alloc (.cells #[.int .i64 pa, .int .i64 ca, .int .i64 pg, .int .i64 va] 38)).cell? ⟨w.heap.size, 2, none⟩ = some (.int .i64 pg) := by rw [World.cell?_alloc_new]; rfl
  have c3 : (w.alloc (.cells #[.int .i64 pa, .int .i64 ca, .int .i64 pg, .int .i64 va] 38)).cell? ⟨w.heap.size, 3, none⟩ = some (.int .i64 va) := by rw [World.cell?_alloc_new]; rfl
  obtain ⟨wq, hwq⟩ : ∃ wq, w.alloc (.cells #[.int .i64 pa, .int .i64 ca, .int .i64 pg, .int .i64 va] 38) = wq := ⟨_, rfl⟩
  rw [hwq] at hY hz hs c0 c1 c2 c3
  have hen := fun (w2 : World) (b : Nat) (h : wq.Since wq.heap.size w2) (hb : b < w2.heap.size) (hN : NatsAt w2 b 0 (symsP pa ca pg va)) => Tryd.Encode_walk (symsP pa ca pg va) b 0 6 w2 (tabsS ht (hs.trans (sinceMono h (by omega))) hz2) (by have := h.size; omega) hb hN hsm (by rw [hl6]; decide) (by rw [hl6]; decide)
  have hel := enc_ok hsm
  rw [hl6] at hen
  have helen : (encP (symsP pa ca pg va)).length = 12 := by show (symsP pa ca pg va ++ encRest (symsP pa ca pg va)).length = 12; rw [List.length_append, hl6, hel.1]
  have hesm := hel.2.1
  generalize encP (symsP pa ca pg va) = word at hen helen hesm ⊢
  clear hel
  go_enter Tryd.func7, Tryd.ntmps7
  go_wp2_with (first
    | (go_at_call 20; refine hY.mono ?_; rintro e w2 ⟨b2, rfl, hS2, hb2, hN2⟩)
    | (go_at_call 21; refine (hen w2 b2 hS2 hb2 hN2).mono ?_; rintro e w3 ⟨v3, rfl, hS3, hO3⟩; obtain ⟨g3, cap3, rfl, hg3, hl3⟩ := hO3.form (by decide))
    | (go_at_call 23; refine (Tryd.strings_Repeat _ 7 _ (by decide) (by decide)).mono ?_; rintro e w4 ⟨rfl, hb4⟩)
    | (go_at_call 22; refine (Tryd.bw_ws w3.heap.size [] _ _ (Lib.isBuilderF_kept (Lib.fresh_builder w3) hb4) (by decide)).mono ?_; rintro e w5 ⟨rfl, hB5, hb5⟩))
  have hbl5 : Below w3.heap.size w3 w5 := (((Below.refl w3.heap.size w3).alloc (Nat.le_refl _) _).trans (hb4.mono (by simp))).trans hb5
  have hB6 : Lib.IsBuilderF 68 5 w3.heap.size w3.heap.size (Lib.byteCells (List.replicate 7 49 ++ (word.take 0).flatMap bits5)) w5 := by
    rw [List.take_zero]; exact hB5
  have hfin : ∀ w', Below w3.heap.size w3 w' → w.Since w.heap.size w' := fun w' h => (hs.trans (sinceMono (hS2.trans (sinceMono hS3 hS2.size)) (by omega))).trans ⟨h.os, h.tape, h.output, h.size, fun k hk => h.block k (by have := hS2.size; have := hS3.size; omega)⟩
  have hwd : ∀ w', Below w3.heap.size w3 w' → ∀ i, i < 12 → w'.cell? ⟨g3, i, none⟩ = some (.int .i64 (word.getD i 0 : Int)) := fun w' h i hi => (h.cell (p := ⟨g3, i, none⟩) hl3).trans ((hO3.cellAt i (by omega)).trans (intV_get word i (by omega)))
  clear hY hen hS2 hb2 hN2 hB5 hb4 hb5 hO3 hS3 c0 c1 c2 c3
  have hsz5 := hbl5.size
  generalize w3.heap.size = B at *
  go_loopw [31] (fun v wr => ∃ i : Nat, i ≤ 12 ∧ v = .int .i64 i ∧ Below B w3 wr ∧ Lib.IsBuilderF 68 5 B B (Lib.byteCells (List.replicate 7 49 ++ (word.take i).flatMap bits5)) wr) (fun v _ => 12 - (RowKit.intOf v).toNat)
  case atStart => exact ⟨0, Nat.zero_le _, rfl, hbl5, hB6⟩
  case round =>
    obtain ⟨i, hi, rfl, hbl, hB⟩ := hrel
    by_cases hil : i < 12
    · have hcell := hwd wr hbl i hil
      have hii : (i : Int) < 12 := by omega
      have hc32 := getD_sml hesm i
      have hstp := flat_step word i (by omega)
      generalize word.getD i 0 = c at hcell hc32 hstp
      clear hwd
      go_wp2
      go_loopw [35] (fun v wi => ∃ k : Nat, k ≤ 5 ∧ v = .int .i64 k ∧ Below B w3 wi ∧ Lib.IsBuilderF 68 5 B B (Lib.byteCells (List.replicate 7 49 ++ (word.take i).flatMap bits5 ++ (bits5 c).take k)) wi) (fun v _ => 5 - (RowKit.intOf v).toNat)
      case atStart => exact ⟨0, Nat.zero_le _, rfl, hbl, by rw [List.take_zero, List.append_nil]; exact hB⟩
      case round =>
        obtain ⟨k, hk, rfl, hbl2, hB2⟩ := hrel
        by_cases hk5 : k < 5
        · have hki : (k : Int) < 5 := by omega
          go_wp2_with fail
          rw [bit_val hc32 hk5]
          have hl : (List.replicate 7 49 ++ (word.take i).flatMap bits5 ++ (bits5 c).take k).length ≤ 100000 := by
            have h1 := flat_len5 (word.take i)
            simp only [List.length_append, List.length_replicate, h1, List.length_take]
            have : (bits5 c).length = 5 := by simp [bits5]
            omega
          go_at_call 24
          refine (Tryd.bw_wb _ _ _ _ hB2 hl).mono ?_
          rintro e w7 ⟨rfl, hB7, hb7⟩
          rw [List.append_assoc _ ((bits5 c).take k), ← bits_step c k hk5] at hB7
          clear hB2
          go_wp2
          exact ⟨⟨k + 1, by omega, by simp, hbl2.trans hb7, hB7⟩, by simp [RowKit.intOf]; omega⟩
        · have hke : k = 5 := by omega
          rw [hke, List.take_of_length_le (l := bits5 c) (by simp [bits5]), List.append_assoc, ← hstp] at hB2
          go_wp2
          exact ⟨⟨i + 1, by omega, by simp, hbl2, hB2⟩, by simp [RowKit.intOf]; omega⟩
    · have hie : i = 12 := by omega
      rw [hie, List.take_of_length_le (by omega)] at hB
      have hl : (List.replicate 7 49 ++ word.flatMap bits5).length + 7 ≤ 140737488355328 := by
        rw [List.length_append, flat_len5, helen, List.length_replicate]; decide
      clear hwd
      have hszr := hbl.size
      have hltB := Nat.le_of_lt (Lib.isBuilderF_lt hB)
      go_wp2_with (first
        | (go_at_call 23; refine (Tryd.strings_Repeat _ 7 _ (by decide) (by decide)).mono ?_; rintro e w8 ⟨rfl, hb8⟩)
        | (go_at_call 22; refine (Tryd.bw_ws B _ _ _ (Lib.isBuilderF_kept hB hb8) (by exact hl)).mono ?_; rintro e w9 ⟨rfl, hB9, hb9⟩; have hsz9 := Nat.le_of_lt (Lib.isBuilderF_lt hB9))
        | (go_at_call 25; refine (Tryd.Builder_String_any_k _ _ _ _ hB9 hsz9).mono ?_; rintro e w10 ⟨rfl, hB10, hb10, hok⟩))
      go_ret2
      refine ⟨rfl, hfin _ ?_⟩
      exact ((hbl.trans (hb8.mono hltB)).trans hb9).trans hb10
end Go.Proofs
