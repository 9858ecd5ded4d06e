/-
  Walks: strings.Builder, exchange.escape, unescape, Format, the iterator of lines and the loop over it. Conditions: lengths.
-/
import Derived.Test.YtdlmgokicfoidaaDoorSh
import Derived.Tactics
import Derived.WalkKit
import Derived.BigCall
import Derived.BigGuard
import Derived.Lib.Walk
import Derived.Lib.FrozenHead2
import Derived.Lib.OthersKept
import Derived.LoopTactic
import Derived.Deep.RegionHeld3
import Derived.RangeFuncKeeps
import Derived.RangeFuncLeaves
import Derived.Shelf.Abstract
import Derived.OwnWalkIn
import Derived.TacticsInMore
import Derived.LoopNIn
import Derived.LoopIn
import Derived.RangeFuncBox
namespace Go.Proofs
open Go.Shelf Go.RowKit Go.Lib
set_option linter.all false

theorem Tryd.size62 : (Tryd.prog.info? 62).map (fun i => i.size) = some 2 := by kernel_rfl
theorem Tryd.infoByte : (Tryd.prog.info? 5).map (fun i => (i.zero, i.size, i.bytes)) = some (some (.int .u8 0), 1, 1) := by kernel_rfl
theorem Tryd.lies62 : liesAt Tryd.prog Tryd.prog.depth 62 (2 / Tryd.prog.cellsOf 62) 0 62 1 = true := by kernel_rfl

set_option maxHeartbeats 1000000 in
set_option maxRecDepth 100000 in
theorem Tryd.bw_used (b : Nat) (w : World) (h0 : w.cell? ⟨b, 0, none⟩ = some (.pointer (some ⟨b, 0, none⟩))) :
    Calls Tryd.prog 59 #[.pointer (some ⟨b, 0, none⟩)] w fun e w' => e = .returned (.tuple #[]) ∧ w' = w := by
  obtain ⟨j, hj, _⟩ := Option.map_eq_some_iff.1 Tryd.size62
  go_enter Tryd.func59, Tryd.ntmps59
  go_wp2
  rw [Lib.run_neq_ptr_same w _ Tryd.underlying60 hj]
  go_wp2
  go_end0
  exact ⟨rfl, rfl⟩

set_option maxHeartbeats 1000000 in
set_option maxRecDepth 100000 in
theorem Tryd.bw_fresh (b : Nat) (w : World) (h0 : w.cell? ⟨b, 0, none⟩ = some (.pointer none)) (hsh : w.shape? b = some (62, 2)) (hfz : w.frozen? ⟨b, 0, none⟩ = false) :
    Calls Tryd.prog 59 #[.pointer (some ⟨b, 0, none⟩)] w fun e w' => e = .returned (.tuple #[]) ∧ w' = w.setCell ⟨b, 0, none⟩ (.pointer (some ⟨b, 0, none⟩)) := by
  obtain ⟨j, hj, hjs⟩ := Option.map_eq_some_iff.1 Tryd.size62
  go_enter Tryd.func59, Tryd.ntmps59
  go_wp2
  rw [Lib.run_to_unsafe w ⟨b, 0, none⟩ Tryd.underlying60 Tryd.underlying89 hj (by rw [hjs]; decide) hsh (Nat.zero_lt_succ 1)]
  simp only [Result.andThen]
  rw [Oper.upon_value]
  go_wp2
  rw [run_callFunc_extern Tryd.func68 (by kernel_rfl) (by kernel_rfl) (by kernel_rfl) (e := Extern.AbiNoEscape.same) (by kernel_rfl)]
  rw [Lib.run_noEscape]
  simp only [Result.andThen]
  rw [Oper.upon_value]
  go_wp2
  rw [Lib.run_from_unsafe w ⟨b, 0, none⟩ Tryd.underlying89 Tryd.underlying60 hj hsh Tryd.lies62]
  simp only [Result.andThen]
  rw [Oper.upon_value]
  go_wp2
  go_end0
  exact ⟨rfl, rfl⟩

theorem Tryd.bw_copyCheck (B b : Nat) (bs : List Value) (w : World) (h : Lib.IsBuilderF 62 5 B b bs w) :
    Calls Tryd.prog 59 #[.pointer (some ⟨b, 0, none⟩)] w fun e w' => e = .returned (.tuple #[]) ∧ (Lib.BuilderAtF 62 5 B b (.pointer (some ⟨b, 0, none⟩)) bs w' ∧ Below B w w') := by
  rcases h with h | h
  · refine (Tryd.bw_fresh b w h.cell0 h.shape h.frozen0).mono ?_
    rintro e w' ⟨rfl, rfl⟩
    exact ⟨rfl, h.used _, (Below.refl B w).setCell (p := ⟨b, 0, none⟩) h.1 _⟩
  · refine (Tryd.bw_used b w h.cell0).mono ?_
    rintro e w' ⟨rfl, rfl⟩
    exact ⟨rfl, h, Below.refl B _⟩

set_option maxHeartbeats 2000000 in
set_option maxRecDepth 100000 in
theorem Tryd.bw_WriteByte (B b : Nat) (bs : List Value) (c : Int) (w : World) (h : Lib.IsBuilderF 62 5 B b bs w) (hlen : bs.length + 1 ≤ 140737488355328) (hBw : B ≤ w.heap.size) :
    Calls Tryd.prog 61 #[.pointer (some ⟨b, 0, none⟩), .int .u8 c] w fun e w' => e = .returned .nilIface ∧ (Lib.IsBuilderF 62 5 B b (bs ++ [.int .u8 c]) w' ∧ Below B w w') := by
  obtain ⟨i0, hi, hz0, hz1, hz2⟩ := info_parts Tryd.infoByte
  go_enter Tryd.func61, Tryd.ntmps61
  go_wp2_with (go_at_call 59; refine (Tryd.bw_copyCheck B b bs _ h).mono ?_)
  rintro e w1 ⟨rfl, h1, hb1⟩
  obtain ⟨hB, v, hbk, hown, hne⟩ := h1
  have c0 : w1.cell? ⟨b, 0, none⟩ = some (.pointer (some ⟨b, 0, none⟩)) := by rw [Lib.cell_of_heap hbk]; rfl
  have c1 : w1.cell? ⟨b, 1, none⟩ = some v := by rw [Lib.cell_of_heap hbk]; rfl
  go_wp2_with (at_builtin; refine wpList_append_ownF _ rfl _ _ 47 rfl B 5 i0 (.int .u8 0) 1 1 Tryd.underlying47 hi hz0 hz1 hz2 rfl (by decide) _ _ _ rfl (hown.alloc _) ⟨w1.heap.size, 0, none⟩ 1 1 [.int .u8 c] rfl rfl ?c1 ?c2 ?c3 ?c4 ?c5 ?_)
  case c1 =>
    intro j u hj
    match j, hj with
    | 0, hj => simp at hj; subst hj; simp [Addr.add]
  case c2 => intro u hu; simp at hu; subst hu; rfl
  case c3 => unfold maxLen; omega
  case c4 => omega
  case c5 => have := hb1.size; simp; omega
  intro v' w2 hown' hgrow _
  have hlt : b < w1.heap.size := by
    rcases Nat.lt_or_ge b w1.heap.size with h' | h'
    · exact h'
    · simp [Array.getElem?_eq_none h'] at hbk
  have hb2 : w2.heap[b]? = some (.cells #[.pointer (some ⟨b, 0, none⟩), v] 62 (0, 0)) := by
    rw [hgrow.block b (by simp; omega) (fun e => hne e.symm), Lib.alloc_old w1 _ b hlt]
    exact hbk
  have d0 : w2.cell? ⟨b, 0, none⟩ = some (.pointer (some ⟨b, 0, none⟩)) := by rw [Lib.cell_of_heap hb2]; rfl
  have d1 : w2.cell? ⟨b, 1, none⟩ = some v := by rw [Lib.cell_of_heap hb2]; rfl
  have f1 : w2.frozen? ⟨b, 1, none⟩ = false := Lib.frozen_of_heap hb2 1
  obtain ⟨g, cap, rfl⟩ : ∃ g cap, v' = .slice (some ⟨g, 0, none⟩) (bs.length + 1) cap := by
    rcases hown'.2 with ⟨_, h0⟩ | ⟨g, cap, cur, fz, hv, _⟩
    · omega
    · exact ⟨g, cap, hv⟩
  go_wp2
  go_ret
  refine ⟨rfl, .inr ?_, ?_⟩
  · exact Lib.BuilderAtF.put (T := 62) (e := 5) hB hb2 (bs' := bs ++ [.int .u8 c]) (by simpa using hown') (by decide)
  · exact ((hb1.alloc (by have := hb1.size; omega) _).grown hgrow (by have := hb1.size; simp; omega) (fun k hk => (hown.lt k hk).1)).setCell (p := ⟨b, 1, none⟩) hB _

set_option maxHeartbeats 2000000 in
set_option maxRecDepth 100000 in
theorem Tryd.bw_WriteString (B b : Nat) (bs : List Value) (s : ByteArray) (w : World) (h : Lib.IsBuilderF 62 5 B b bs w) (hlen : bs.length + s.size ≤ 140737488355328) (hBw : B ≤ w.heap.size) :
    Calls Tryd.prog 37 #[.pointer (some ⟨b, 0, none⟩), .string s] w fun e w' => e = .returned (.tuple #[.int .i64 s.size, .nilIface]) ∧ (Lib.IsBuilderF 62 5 B b (bs ++ Lib.strCells s) w' ∧ Below B w w') := by
  obtain ⟨i0, hi, hz0, hz1, hz2⟩ := info_parts Tryd.infoByte
  go_enter Tryd.func37, Tryd.ntmps37
  go_wp2_with (go_at_call 59; refine (Tryd.bw_copyCheck B b bs _ h).mono ?_)
  rintro e w1 ⟨rfl, h1, hb1⟩
  obtain ⟨hB, v, hbk, hown, hne⟩ := h1
  have c0 : w1.cell? ⟨b, 0, none⟩ = some (.pointer (some ⟨b, 0, none⟩)) := by rw [Lib.cell_of_heap hbk]; rfl
  have c1 : w1.cell? ⟨b, 1, none⟩ = some v := by rw [Lib.cell_of_heap hbk]; rfl
  go_wp2_with (at_builtin; refine Lib.wpList_append_own_stringF _ rfl _ _ 47 9 rfl B 5 i0 Tryd.underlying47 Tryd.underlying9 hi hz0 hz1 hz2 _ _ _ rfl hown s rfl ?c3 ?c4 ?c5 ?_)
  case c3 => unfold maxLen; omega
  case c4 => omega
  case c5 => have := hb1.size; omega
  intro v' w2 hown' hgrow _
  have hlt : b < w1.heap.size := by
    rcases Nat.lt_or_ge b w1.heap.size with h' | h'
    · exact h'
    · simp [Array.getElem?_eq_none h'] at hbk
  have hb2 : w2.heap[b]? = some (.cells #[.pointer (some ⟨b, 0, none⟩), v] 62 (0, 0)) := by
    rw [hgrow.block b hlt (fun e => hne e.symm)]
    exact hbk
  have d0 : w2.cell? ⟨b, 0, none⟩ = some (.pointer (some ⟨b, 0, none⟩)) := by rw [Lib.cell_of_heap hb2]; rfl
  have d1 : w2.cell? ⟨b, 1, none⟩ = some v := by rw [Lib.cell_of_heap hb2]; rfl
  have f1 : w2.frozen? ⟨b, 1, none⟩ = false := Lib.frozen_of_heap hb2 1
  obtain ⟨ao, n', cap, rfl⟩ : ∃ ao n' cap, v' = .slice ao n' cap := by
    rcases hown'.2 with ⟨hv, _⟩ | ⟨g, cap, cur, fz, hv, _⟩
    · exact ⟨_, _, _, hv⟩
    · exact ⟨_, _, _, hv⟩
  go_wp2
  go_ret2
  refine ⟨rfl, .inr ?_, ?_⟩
  · exact Lib.BuilderAtF.put (T := 62) (e := 5) hB hb2 (bs' := bs ++ Lib.strCells s) (by simpa [Lib.strCells_length] using hown') (by decide)
  · exact (hb1.grown hgrow (by have := hb1.size; omega) (fun k hk => (hown.lt k hk).1)).setCell (p := ⟨b, 1, none⟩) hB _
end Go.Proofs
namespace Go.Proofs
open Go.Shelf Go.RowKit Go.Lib
set_option linter.all false

def escC (c : UInt8) : List UInt8 := if c = 92 then [92, 92] else if c = 124 then [92, 112] else if c = 10 then [92, 110] else [c]
def escP (l : List UInt8) : List UInt8 := l.flatMap escC
theorem escC_len (c : UInt8) : (escC c).length ≤ 2 := by unfold escC; (repeat' split) <;> simp
theorem escP_len : ∀ l : List UInt8, (escP l).length ≤ 2 * l.length
  | [] => by simp [escP]
  | c :: l => by
    have h1 := escC_len c
    have h2 := escP_len l
    show (escC c ++ escP l).length ≤ _
    rw [List.length_append, List.length_cons]; omega
theorem escP_take (l : List UInt8) (k : Nat) (h : k < l.length) : escP (l.take (k + 1)) = escP (l.take k) ++ escC l[k] := by
  rw [List.take_succ, List.getElem?_eq_getElem h]
  unfold escP
  rw [List.flatMap_append]
  simp
theorem Lib.fresh_builder (w : World) : Lib.IsBuilderF 62 5 w.heap.size w.heap.size (Lib.byteCells []) (w.alloc (.cells #[.pointer none, .slice none 0 0] 62)) :=
  .inl (Lib.BuilderAtF.of ⟨Nat.le_refl _, _, heap_alloc_new _ _, World.ownsRow_nil _ _ _ _, by simp [Value.ownBlock]⟩)
theorem esc92 (c : UInt8) (h : ((c.toNat : Int) == 92) = true) : escC c = [92, 92] := by
  have : c = 92 := by apply UInt8.toNat_inj.1; have : (c.toNat : Int) = 92 := by simpa using h
                      show c.toNat = 92; omega
  subst this; rfl
theorem ne_of_byte (c : UInt8) (n : UInt8) (h : ((c.toNat : Int) == (n.toNat : Int)) = false) : c ≠ n := by
  rintro rfl; simp at h
theorem eq_of_byte (c : UInt8) (n : UInt8) (h : ((c.toNat : Int) == (n.toNat : Int)) = true) : c = n := by
  apply UInt8.toNat_inj.1
  have : (c.toNat : Int) = (n.toNat : Int) := by simpa using h
  omega
theorem esc124 (c : UInt8) (h1 : ((c.toNat : Int) == 92) = false) (h2 : ((c.toNat : Int) == 124) = true) : escC c = [92, 112] := by
  have := eq_of_byte c 124 h2
  subst this; rfl
theorem esc10 (c : UInt8) (h2 : ((c.toNat : Int) == 10) = true) : escC c = [92, 110] := by
  have := eq_of_byte c 10 h2
  subst this; rfl
theorem escO (c : UInt8) (h1 : ((c.toNat : Int) == 92) = false) (h2 : ((c.toNat : Int) == 124) = false) (h3 : ((c.toNat : Int) == 10) = false) : escC c = [c] := by
  have e1 := ne_of_byte c 92 h1
  have e2 := ne_of_byte c 124 h2
  have e3 := ne_of_byte c 10 h3
  unfold escC; rw [if_neg e1, if_neg e2, if_neg e3]
theorem esc_round {s : ByteArray} {k : Nat} {B : Nat} {X : List Value} {w1 : World} (h : k < s.size) (hB : Lib.IsBuilderF 62 5 B B (Lib.byteCells (escP (s.data.toList.take k)) ++ X) w1) (hX : X = Lib.byteCells (escC s[k])) :
    Lib.IsBuilderF 62 5 B B (Lib.byteCells (escP (s.data.toList.take (k + 1)))) w1 := by
  rw [escP_take _ k h, Lib.byteCells_append]
  subst hX; exact hB
set_option maxHeartbeats 8000000 in
set_option maxRecDepth 100000 in
theorem Tryd.escape_walk (s : ByteArray) (hs : s.size ≤ 1000) (w : World) :
    Calls Tryd.prog 39 #[.string s] w fun e w' => e = .returned (.string ⟨(escP s.data.toList).toArray⟩) ∧ Below w.heap.size w w' := by
  have hb0 := Lib.fresh_builder w
  have hbl := (Below.refl w.heap.size w).alloc (Nat.le_refl _) (.cells #[.pointer none, .slice none 0 0] 62)
  have hlen : s.data.toList.length = s.size := rfl
  go_enter Tryd.func39, Tryd.ntmps39
  go_wp2
  go_loopw [4] (fun i wr => ∃ k : Nat, k ≤ s.size ∧ i = .int .i64 k ∧ Lib.IsBuilderF 62 5 w.heap.size w.heap.size (Lib.byteCells (escP (s.data.toList.take k))) wr ∧ Below w.heap.size w wr) (fun i _ => s.size - (RowKit.intOf i).toNat)
  case atStart => exact ⟨0, Nat.zero_le _, rfl, hb0, hbl⟩
  case round =>
    obtain ⟨k, hk, rfl, hB, hbel⟩ := hrel
    have hl : (Lib.byteCells (escP (s.data.toList.take k))).length ≤ 2000 := by
      rw [Lib.byteCells_length]
      have h1 := escP_len (s.data.toList.take k)
      have h2 : (s.data.toList.take k).length ≤ k := by simp; omega
      omega
    have hsz := hbel.size
    go_wp2_with (first
      | (go_at_call 37; refine (Tryd.bw_WriteString _ _ _ _ _ hB (Nat.le_trans (Nat.add_le_add_right hl _) (by decide)) hsz).mono ?_; rintro e w1 ⟨rfl, hB1, hb1⟩)
      | (go_at_call 61; refine (Tryd.bw_WriteByte _ _ _ _ _ hB (Nat.le_trans (Nat.add_le_add_right hl _) (by decide)) hsz).mono ?_; rintro e w1 ⟨rfl, hB1, hb1⟩)
      | (go_at_call 40; refine (Tryd.Builder_String_any_k _ _ _ _ hB hsz).mono ?_; rintro e w1 ⟨rfl, hB1, hb1, hok⟩))
    · rename_i hlt h1
      exact ⟨⟨k + 1, by omega, by simp, esc_round hlt hB1 (by rw [esc92 _ h1]; rfl), hbel.trans hb1⟩, by simp [RowKit.intOf]; omega⟩
    · rename_i hlt h1 h2
      exact ⟨⟨k + 1, by omega, by simp, esc_round hlt hB1 (by rw [esc124 _ h1 h2]; rfl), hbel.trans hb1⟩, by simp [RowKit.intOf]; omega⟩
    · rename_i hlt h1 h2 h3
      exact ⟨⟨k + 1, by omega, by simp, esc_round hlt hB1 (by rw [esc10 _ h3]; rfl), hbel.trans hb1⟩, by simp [RowKit.intOf]; omega⟩
    · rename_i hlt h1 h2 h3
      exact ⟨⟨k + 1, by omega, by simp, esc_round hlt hB1 (by rw [escO _ h1 h2 h3]; rfl), hbel.trans hb1⟩, by simp [RowKit.intOf]; omega⟩
    · rename_i hge
      have : k = s.size := by omega
      subst this
      go_ret
      refine ⟨?_, hbel.trans hb1⟩
      rw [List.take_of_length_le (by rw [hlen]; omega)]
      rfl
end Go.Proofs
namespace Go.Proofs
open Go.Shelf Go.RowKit Go.Lib
set_option linter.all false

def unC (d : UInt8) : Option UInt8 := if d = 92 then some 92 else if d = 112 then some 124 else if d = 110 then some 10 else none
def unescP : List UInt8 → Option (List UInt8)
  | [] => some []
  | [c] => if c = 124 ∨ c = 10 ∨ c = 92 then none else some [c]
  | c :: d :: r => if c = 124 ∨ c = 10 then none else if c = 92 then (match unC d with | none => none | some x => (unescP r).map (x :: ·)) else (unescP (d :: r)).map (c :: ·)
theorem un_bad (l : List UInt8) (c : UInt8) (h : c = 124 ∨ c = 10) : unescP (c :: l) = none := by
  cases l with
  | nil => unfold unescP; rw [if_pos (by rcases h with h | h <;> simp [h])]
  | cons d r => unfold unescP; rw [if_pos h]
theorem un_last : unescP [92] = none := by unfold unescP; rw [if_pos (by simp)]
theorem un_esc (d : UInt8) (r : List UInt8) : unescP (92 :: d :: r) = match unC d with | none => none | some x => (unescP r).map (x :: ·) := by
  rw [unescP, if_neg (by decide), if_pos rfl]
theorem un_other (l : List UInt8) (c : UInt8) (h1 : c ≠ 124) (h2 : c ≠ 10) (h3 : c ≠ 92) : unescP (c :: l) = (unescP l).map (c :: ·) := by
  cases l with
  | nil => unfold unescP; rw [if_neg (by simp [h1, h2, h3])]; rfl
  | cons d r => rw [unescP, if_neg (by simp [h1, h2]), if_neg h3]
/-- what is known at a round's head -/
structure UnR (s : ByteArray) (k : Nat) (acc : List UInt8) : Prop where
  len : acc.length ≤ k
  eq : unescP s.data.toList = (unescP (s.data.toList.drop k)).map (acc ++ ·)
theorem drop_at (s : ByteArray) (k : Nat) (h : k < s.size) : s.data.toList.drop k = s[k] :: s.data.toList.drop (k + 1) := List.drop_eq_getElem_cons (l := s.data.toList) (i := k) h
theorem UnR.none {s : ByteArray} {k : Nat} {acc : List UInt8} (r : UnR s k acc) (h : unescP (s.data.toList.drop k) = none) : unescP s.data.toList = none := by rw [r.eq, h]; rfl
theorem UnR.bad1 {s : ByteArray} {k : Nat} {acc : List UInt8} (r : UnR s k acc) (h : k < s.size) (hc : ((s[k].toNat : Int) == 124) = true) : unescP s.data.toList = .none :=
  r.none (by rw [drop_at s k h]; exact un_bad _ _ (.inl (eq_of_byte _ 124 hc)))
theorem UnR.bad2 {s : ByteArray} {k : Nat} {acc : List UInt8} (r : UnR s k acc) (h : k < s.size) (hc : ((s[k].toNat : Int) == 10) = true) : unescP s.data.toList = .none :=
  r.none (by rw [drop_at s k h]; exact un_bad _ _ (.inr (eq_of_byte _ 10 hc)))
theorem UnR.bad3 {s : ByteArray} {k : Nat} {acc : List UInt8} (r : UnR s k acc) (h : k < s.size) (hc : ((s[k].toNat : Int) == 92) = true) (he : k + 1 = s.size) : unescP s.data.toList = .none :=
  r.none (by
    rw [drop_at s k h, eq_of_byte _ 92 hc, List.drop_of_length_le (by rw [he]; exact Nat.le_refl _)]; exact un_last)
theorem UnR.esc {s : ByteArray} {k : Nat} {acc : List UInt8} (r : UnR s k acc) (h : k + 1 < s.size) (hc : ((s[k].toNat : Int) == 92) = true) (x : UInt8) (hx : unC s[k + 1] = some x) : UnR s (k + 2) (acc ++ [x]) :=
  ⟨by have := r.len; simp; omega, by
    rw [r.eq, drop_at s k (by omega), drop_at s (k + 1) h, eq_of_byte _ 92 hc, un_esc, hx]
    simp only [Option.map_map]
    congr 1
    funext y; simp⟩
theorem UnR.bad4 {s : ByteArray} {k : Nat} {acc : List UInt8} (r : UnR s k acc) (h : k + 1 < s.size) (hc : ((s[k].toNat : Int) == 92) = true) (hx : unC s[k + 1] = .none) : unescP s.data.toList = .none :=
  r.none (by rw [drop_at s k (by omega), drop_at s (k + 1) h, eq_of_byte _ 92 hc, un_esc, hx])
theorem UnR.other {s : ByteArray} {k : Nat} {acc : List UInt8} (r : UnR s k acc) (h : k < s.size) (h1 : ((s[k].toNat : Int) == 124) = false) (h2 : ((s[k].toNat : Int) == 10) = false) (h3 : ((s[k].toNat : Int) == 92) = false) : UnR s (k + 1) (acc ++ [s[k]]) :=
  ⟨by have := r.len; simp; omega, by
    rw [r.eq, drop_at s k h, un_other _ _ (ne_of_byte _ 124 h1) (ne_of_byte _ 10 h2) (ne_of_byte _ 92 h3)]
    simp only [Option.map_map]
    congr 1
    funext y; simp⟩
theorem UnR.done {s : ByteArray} {acc : List UInt8} (r : UnR s s.size acc) : unescP s.data.toList = some acc := by
  rw [r.eq, List.drop_of_length_le (l := s.data.toList) (i := s.size) (Nat.le_refl _)]; simp [unescP]
def unRes : Option (List UInt8) → Value
  | none => .tuple #[.string ⟨#[]⟩, .bool false]
  | some o => .tuple #[.string ⟨o.toArray⟩, .bool true]
set_option maxHeartbeats 16000000 in
set_option maxRecDepth 100000 in
theorem Tryd.unescape_walk (s : ByteArray) (hs : s.size ≤ 100000) (w : World) :
    Calls Tryd.prog 66 #[.string s] w fun e w' => e = .returned (unRes (unescP s.data.toList)) ∧ Below w.heap.size w w' := by
  have hb0 := Lib.fresh_builder w
  have hbl := (Below.refl w.heap.size w).alloc (Nat.le_refl _) (.cells #[.pointer none, .slice none 0 0] 62)
  have hlen : s.data.toList.length = s.size := rfl
  go_enter Tryd.func66, Tryd.ntmps66
  go_wp2
  go_loopw [5] (fun i wr => ∃ (k : Nat) (acc : List UInt8), k ≤ s.size ∧ i = .int .i64 k ∧ UnR s k acc ∧ Lib.IsBuilderF 62 5 w.heap.size w.heap.size (Lib.byteCells acc) wr ∧ Below w.heap.size w wr) (fun i _ => s.size - (RowKit.intOf i).toNat)
  case atStart => exact ⟨0, [], Nat.zero_le _, rfl, ⟨Nat.le_refl _, by simp⟩, hb0, hbl⟩
  case round =>
    obtain ⟨k, acc, hk, rfl, hR, hB, hbel⟩ := hrel
    have hl : (Lib.byteCells acc).length ≤ 100000 := by
      rw [Lib.byteCells_length]
      have := hR.len
      omega
    have hsz := hbel.size
    go_wp2_with (first
      | (go_at_call 61; refine (Tryd.bw_WriteByte _ _ _ _ _ hB (Nat.le_trans (Nat.add_le_add_right hl _) (by decide)) hsz).mono ?_; rintro e w1 ⟨rfl, hB1, hb1⟩)
      | (go_at_call 40; refine (Tryd.Builder_String_any_k _ _ _ _ hB hsz).mono ?_; rintro e w1 ⟨rfl, hB1, hb1, hok⟩))
    · have hlt : k < s.size := by assumption
      have c1 : (((s[k]'hlt).toNat : Int) == 124) = true := by assumption
      go_ret2
      exact ⟨by rw [hR.bad1 hlt c1]; rfl, hbel⟩
    · have hlt : k < s.size := by assumption
      have c2 : (((s[k]'hlt).toNat : Int) == 10) = true := by assumption
      go_ret2
      exact ⟨by rw [hR.bad2 hlt c2]; rfl, hbel⟩
    · have hlt : k < s.size := by assumption
      have c3 : (((s[k]'hlt).toNat : Int) == 92) = true := by assumption
      have c4 : ((k : Int) + 1 == (s.size : Int)) = true := by assumption
      have c5 : k + 1 = s.size := by have : (k : Int) + 1 = s.size := by simpa using c4
                                     omega
      go_ret2
      exact ⟨by rw [hR.bad3 hlt c3 c5]; rfl, hbel⟩
    · have hlt : k < s.size := by assumption
      have hr : 0 ≤ (k : Int) + 1 ∧ (k : Int) + 1 < s.size := by assumption
      have hlt2 : k + 1 < s.size := by omega
      have c3 : (((s[k]'hlt).toNat : Int) == 92) = true := by assumption
      have d1 : (((s[k + 1]'hlt2).toNat : Int) == 92) = true := by assumption
      have hu : unC (s[k + 1]'hlt2) = some 92 := by rw [eq_of_byte _ 92 d1]; rfl
      exact ⟨⟨k + 2, acc ++ [92], by omega, by rw [show ((k + 2 : Nat) : Int) = (k : Int) + 1 + 1 by omega], hR.esc hlt2 c3 92 hu, by rw [Lib.byteCells_append]; exact hB1, hbel.trans hb1⟩, by simp [RowKit.intOf]; omega⟩
    · have hlt : k < s.size := by assumption
      have hr : 0 ≤ (k : Int) + 1 ∧ (k : Int) + 1 < s.size := by assumption
      have hlt2 : k + 1 < s.size := by omega
      have c3 : (((s[k]'hlt).toNat : Int) == 92) = true := by assumption
      have d2 : (((s[k + 1]'hlt2).toNat : Int) == 112) = true := by assumption
      have hu : unC (s[k + 1]'hlt2) = some 124 := by rw [eq_of_byte _ 112 d2]; rfl
      exact ⟨⟨k + 2, acc ++ [124], by omega, by rw [show ((k + 2 : Nat) : Int) = (k : Int) + 1 + 1 by omega], hR.esc hlt2 c3 124 hu, by rw [Lib.byteCells_append]; exact hB1, hbel.trans hb1⟩, by simp [RowKit.intOf]; omega⟩
    · have hlt : k < s.size := by assumption
      have hr : 0 ≤ (k : Int) + 1 ∧ (k : Int) + 1 < s.size := by assumption
      have hlt2 : k + 1 < s.size := by omega
      have c3 : (((s[k]'hlt).toNat : Int) == 92) = true := by assumption
      have d3 : (((s[k + 1]'hlt2).toNat : Int) == 110) = true := by assumption
      have hu : unC (s[k + 1]'hlt2) = some 10 := by rw [eq_of_byte _ 110 d3]; rfl
      exact ⟨⟨k + 2, acc ++ [10], by omega, by rw [show ((k + 2 : Nat) : Int) = (k : Int) + 1 + 1 by omega], hR.esc hlt2 c3 10 hu, by rw [Lib.byteCells_append]; exact hB1, hbel.trans hb1⟩, by simp [RowKit.intOf]; omega⟩
    · have hlt : k < s.size := by assumption
      have hr : 0 ≤ (k : Int) + 1 ∧ (k : Int) + 1 < s.size := by assumption
      have hlt2 : k + 1 < s.size := by omega
      have c3 : (((s[k]'hlt).toNat : Int) == 92) = true := by assumption
      have d1 : (((s[k + 1]'hlt2).toNat : Int) == 92) = false := by assumption
      have d2 : (((s[k + 1]'hlt2).toNat : Int) == 112) = false := by assumption
      have d3 : (((s[k + 1]'hlt2).toNat : Int) == 110) = false := by assumption
      have hu : unC (s[k + 1]'hlt2) = .none := by
        unfold unC
        rw [if_neg (ne_of_byte _ 92 d1), if_neg (ne_of_byte _ 112 d2), if_neg (ne_of_byte _ 110 d3)]
      go_ret2
      exact ⟨by rw [hR.bad4 hlt2 c3 hu]; rfl, hbel⟩
    · exfalso
      have hlt : k < s.size := by assumption
      have c4 : ((k : Int) + 1 == (s.size : Int)) = false := by assumption
      have hr : ¬ (0 ≤ (k : Int) + 1 ∧ (k : Int) + 1 < s.size) := by assumption
      have : ¬ (k : Int) + 1 = s.size := by simpa using c4
      omega
    · have hlt : k < s.size := by assumption
      have c1 : (((s[k]'hlt).toNat : Int) == 124) = false := by assumption
      have c2 : (((s[k]'hlt).toNat : Int) == 10) = false := by assumption
      have c3 : (((s[k]'hlt).toNat : Int) == 92) = false := by assumption
      exact ⟨⟨k + 1, acc ++ [s[k]'hlt], by omega, by simp, hR.other hlt c1 c2 c3, by rw [Lib.byteCells_append]; exact hB1, hbel.trans hb1⟩, by simp [RowKit.intOf]; omega⟩
    · have hge : ¬ k < s.size := by assumption
      have : k = s.size := by omega
      subst this
      go_ret2
      exact ⟨by rw [hR.done]; rfl, hbel.trans hb1⟩
end Go.Proofs
namespace Go.Proofs
open Go.Shelf Go.RowKit Go.Lib
set_option linter.all false

theorem Lib.ownsRowF_kept {B e sz : Nat} {v : Value} {n : Nat} {xs : List Value} {w w' : World} (h : w.ownsRowF B e sz v n xs) (hk : Below w.heap.size w w') : w'.ownsRowF B e sz v n xs := by
  obtain ⟨h1, h2⟩ := h
  refine ⟨h1, ?_⟩
  rcases h2 with h2 | ⟨g, cap, cur, fz, h3, h4, h5, h6⟩
  · exact .inl h2
  · refine .inr ⟨g, cap, cur, fz, h3, h4, (hk.block g ?_).trans h5, h6⟩
    rcases Nat.lt_or_ge g w.heap.size with k | k
    · exact k
    · simp [Array.getElem?_eq_none k] at h5
theorem Lib.isBuilderF_kept {T e : TypeId} {B b : Nat} {bs : List Value} {w w' : World} (h : Lib.IsBuilderF T e B b bs w) (hk : Below w.heap.size w w') : Lib.IsBuilderF T e B b bs w' := by
  have one : ∀ p, Lib.BuilderAtF T e B b p bs w → Lib.BuilderAtF T e B b p bs w' := fun p h => by
    obtain ⟨h1, v, h2, h3, h4⟩ := h
    have hlt : b < w.heap.size := by
      rcases Nat.lt_or_ge b w.heap.size with g | g
      · exact g
      · simp [Array.getElem?_eq_none g] at h2
    exact ⟨h1, v, (hk.block b hlt).trans h2, Lib.ownsRowF_kept h3 hk, h4⟩
  rcases h with h | h
  · exact .inl (one _ h)
  · exact .inr (one _ h)
abbrev Str' := List UInt8
theorem sz5 : (⟨#[70, 73, 76, 69, 124]⟩ : ByteArray).size = 5 := rfl
theorem sz124 : (⟨#[124]⟩ : ByteArray).size = 1 := rfl
theorem sz10 : (⟨#[10]⟩ : ByteArray).size = 1 := rfl
theorem szi (l : List UInt8) : (⟨l.toArray⟩ : ByteArray).size = l.length := by simp [ByteArray.size]
def FieldsAt (w : World) (v : Value) (fs : List Str') : Prop := ∃ fa fcap, v = .slice fa fs.length fcap ∧ ∀ j (h : j < fs.length), ∃ b o, fa = some ⟨b, o, none⟩ ∧ b < w.heap.size ∧ w.cell? ⟨b, o + j, none⟩ = some (.string ⟨fs[j].toArray⟩)
def RowsAt (w : World) (v : Value) (rs : List (List Str')) : Prop := ∃ ra rcap, v = .slice ra rs.length rcap ∧ ∀ i (h : i < rs.length), ∃ b o u, ra = some ⟨b, o, none⟩ ∧ b < w.heap.size ∧ w.cell? ⟨b, o + i, none⟩ = some u ∧ FieldsAt w u rs[i]
def fldT (f : Str') : Str' := 124 :: escP f
def rowT (fs : List Str') : Str' := [82, 79, 87] ++ fs.flatMap fldT ++ [10]
def headT (kind : Str') (src num : Int) : Str' := [70, 73, 76, 69, 124] ++ kind ++ [124] ++ Lib.itoa src ++ [124] ++ Lib.itoa num ++ [10]
/-- the boxed file's cells -/
def BoxAt (B : Nat) (kind : ByteArray) (src num : Int) (rows : Value) (w : World) : Prop :=
  w.cell? ⟨B, 0, none⟩ = some (.string kind) ∧ w.cell? ⟨B, 1, none⟩ = some (.int .i64 src) ∧ w.cell? ⟨B, 2, none⟩ = some (.int .i64 num) ∧ w.cell? ⟨B, 3, none⟩ = some rows ∧ B + 1 < w.heap.size
theorem BoxAt.kept {B : Nat} {kind : ByteArray} {src num : Int} {rows : Value} {w w' : World} {n : Nat} (h : BoxAt B kind src num rows w) (hk : Below n w w') (hn : B < n) : BoxAt B kind src num rows w' := by
  obtain ⟨h0, h1, h2, h3, h4⟩ := h
  have hs := hk.size
  exact ⟨(hk.cell hn).trans h0, (hk.cell hn).trans h1, (hk.cell hn).trans h2, (hk.cell hn).trans h3, by omega⟩
theorem keepS {w W W' : World} {kind : ByteArray} {src num : Int} {rows : Value} {n : Nat}
    (hS : W.cell? ⟨w.heap.size, 0, none⟩ = some (.string kind) ∧ W.cell? ⟨w.heap.size, 1, none⟩ = some (.int .i64 src) ∧ W.cell? ⟨w.heap.size, 2, none⟩ = some (.int .i64 num) ∧ W.cell? ⟨w.heap.size, 3, none⟩ = some rows ∧ w.heap.size + 1 < W.heap.size ∧ Below w.heap.size w W)
    (hk : Below n W W') (hn : w.heap.size < n) :
    W'.cell? ⟨w.heap.size, 0, none⟩ = some (.string kind) ∧ W'.cell? ⟨w.heap.size, 1, none⟩ = some (.int .i64 src) ∧ W'.cell? ⟨w.heap.size, 2, none⟩ = some (.int .i64 num) ∧ W'.cell? ⟨w.heap.size, 3, none⟩ = some rows ∧ w.heap.size + 1 < W'.heap.size ∧ Below w.heap.size w W' := by
  obtain ⟨h0, h1, h2, h3, h4, h5⟩ := hS
  obtain ⟨g0, g1, g2, g3, g4⟩ := BoxAt.kept (B := w.heap.size) ⟨h0, h1, h2, h3, h4⟩ hk hn
  exact ⟨g0, g1, g2, g3, g4, h5.trans (hk.mono (by omega))⟩
theorem keepI {w W W' : World} {kind : ByteArray} {src num : Int} {rows : Value}
    (hS : W.cell? ⟨w.heap.size, 0, none⟩ = some (.string kind) ∧ W.cell? ⟨w.heap.size, 1, none⟩ = some (.int .i64 src) ∧ W.cell? ⟨w.heap.size, 2, none⟩ = some (.int .i64 num) ∧ W.cell? ⟨w.heap.size, 3, none⟩ = some rows ∧ w.heap.size + 1 < W.heap.size ∧ Below w.heap.size w W)
    (hk : Below W.heap.size W W') :
    W'.cell? ⟨w.heap.size, 0, none⟩ = some (.string kind) ∧ W'.cell? ⟨w.heap.size, 1, none⟩ = some (.int .i64 src) ∧ W'.cell? ⟨w.heap.size, 2, none⟩ = some (.int .i64 num) ∧ W'.cell? ⟨w.heap.size, 3, none⟩ = some rows ∧ w.heap.size + 1 < W'.heap.size ∧ Below w.heap.size w W' := keepS hS hk (by have := hS.2.2.2.2.1; omega)
theorem belS {w W : World} {kind : ByteArray} {src num : Int} {rows : Value}
    (hS : W.cell? ⟨w.heap.size, 0, none⟩ = some (.string kind) ∧ W.cell? ⟨w.heap.size, 1, none⟩ = some (.int .i64 src) ∧ W.cell? ⟨w.heap.size, 2, none⟩ = some (.int .i64 num) ∧ W.cell? ⟨w.heap.size, 3, none⟩ = some rows ∧ w.heap.size + 1 < W.heap.size ∧ Below w.heap.size w W) : Below w.heap.size w W := hS.2.2.2.2.2
theorem Lib.isBuilderF_lt {T e : TypeId} {B b : Nat} {bs : List Value} {w : World} (h : Lib.IsBuilderF T e B b bs w) : b < w.heap.size := by
  rcases h with ⟨_, v, h2, _⟩ | ⟨_, v, h2, _⟩ <;> (rcases Nat.lt_or_ge b w.heap.size with g | g; exact g; simp [Array.getElem?_eq_none g] at h2)
theorem Tryd.bw_ws (b : Nat) (l : List UInt8) (s : ByteArray) (w : World) (h : Lib.IsBuilderF 62 5 b b (Lib.byteCells l) w) (hlen : l.length + s.size ≤ 140737488355328) :
    Calls Tryd.prog 37 #[.pointer (some ⟨b, 0, none⟩), .string s] w fun e w' => e = .returned (.tuple #[.int .i64 s.size, .nilIface]) ∧ (Lib.IsBuilderF 62 5 b b (Lib.byteCells (l ++ s.data.toList)) w' ∧ Below b w w') := by
  have := Tryd.bw_WriteString b b (Lib.byteCells l) s w h (by rw [Lib.byteCells_length]; exact hlen) (Nat.le_of_lt (Lib.isBuilderF_lt h))
  rw [Lib.strCells_eq, ← Lib.byteCells_append] at this
  exact this
theorem flat_len {α : Type} (g : α → Str') (c : Nat) : ∀ l : List α, (∀ x ∈ l, (g x).length ≤ c) → (l.flatMap g).length ≤ l.length * c
  | [], _ => by simp
  | x :: l, h => by
    have h1 := h x (by simp)
    have h2 := flat_len g c l (fun y hy => h y (by simp [hy]))
    rw [List.flatMap_cons, List.length_append, List.length_cons, Nat.add_mul]; omega
theorem fldT_len (f : Str') (h : f.length ≤ 1000) : (fldT f).length ≤ 2001 := by
  have := escP_len f
  unfold fldT; rw [List.length_cons]; omega
theorem flds_len (fs : List Str') (h : fs.length ≤ 1000) (hf : ∀ f ∈ fs, f.length ≤ 1000) : (fs.flatMap fldT).length ≤ 2001000 := by
  have h1 := flat_len fldT 2001 fs fun x hx => fldT_len x (hf x hx)
  have h2 := Nat.mul_le_mul_right 2001 h
  omega
theorem rowT_len (fs : List Str') (h : fs.length ≤ 1000) (hf : ∀ f ∈ fs, f.length ≤ 1000) : (rowT fs).length ≤ 2001004 := by
  have := flds_len fs h hf
  unfold rowT
  simp only [List.length_append, List.length_cons, List.length_nil]; omega
theorem rows_len (rs : List (List Str')) (h : rs.length ≤ 1000) (hr : ∀ r ∈ rs, r.length ≤ 1000) (hf : ∀ r ∈ rs, ∀ f ∈ r, f.length ≤ 1000) : (rs.flatMap rowT).length ≤ 2001004000 := by
  have h1 := flat_len rowT 2001004 rs fun x hx => rowT_len x (hr x hx) (hf x hx)
  have h2 := Nat.mul_le_mul_right 2001004 h
  omega
theorem headT_len (kind : Str') (src num : Int) (h1 : kind.length ≤ 1000) (h2 : (Lib.itoa src).length ≤ 1000) (h3 : (Lib.itoa num).length ≤ 1000) : (headT kind src num).length ≤ 3008 := by
  unfold headT; simp only [List.length_append, List.length_cons, List.length_nil]; omega
def bodyT (kind : Str') (src num : Int) (rs : List (List Str')) : Str' := headT kind src num ++ rs.flatMap rowT
def fullT (kind : Str') (src num : Int) (rs : List (List Str')) (c : Int) : Str' := bodyT kind src num rs ++ ([69, 78, 68, 124] ++ Lib.itoa rs.length ++ [124] ++ Lib.itoa c ++ [10])
def fmtRes (valid : Bool) (t : Str') : Value := if valid = false then .tuple #[.string ⟨#[]⟩, .int .i64 1] else if 8192 < t.length then .tuple #[.string ⟨#[]⟩, .int .i64 3] else .tuple #[.string ⟨t.toArray⟩, .int .i64 0]
theorem sz3 : (⟨#[82, 79, 87]⟩ : ByteArray).size = 3 := rfl
theorem sz4 : (⟨#[69, 78, 68, 124]⟩ : ByteArray).size = 4 := rfl
theorem Tryd.escape_l (f : Str') (h : f.length ≤ 1000) (w : World) :
    Calls Tryd.prog 39 #[.string ⟨f.toArray⟩] w fun e w' => e = .returned (.string ⟨(escP f).toArray⟩) ∧ Below w.heap.size w w' := by
  have := Tryd.escape_walk ⟨f.toArray⟩ (by rw [szi]; exact h) w
  simpa using this
theorem Tryd.bw_len (b : Nat) (l : List UInt8) (w : World) (h : Lib.IsBuilderF 62 5 b b (Lib.byteCells l) w) :
    Calls Tryd.prog 41 #[.pointer (some ⟨b, 0, none⟩)] w fun e w' => e = .returned (.int .i64 l.length) ∧ w' = w := by
  have := Tryd.Builder_Len_f b b (Lib.byteCells l) w h
  rw [Lib.byteCells_length] at this
  exact this
def InR (n : Int) : Prop := -9223372036854775808 ≤ n ∧ n ≤ 9223372036854775807
set_option maxHeartbeats 16000000 in
set_option maxRecDepth 100000 in
theorem Tryd.format_walk (kind : ByteArray) (src num : Int) (rows : Value) (w : World) (valid : Bool) (c : Int) (hks : kind.size ≤ 1000) (hsr : InR src) (hnr : InR num) (hcr : InR c) (his : (Lib.itoa src).length ≤ 1000) (hin : (Lib.itoa num).length ≤ 1000) (hic : (Lib.itoa c).length ≤ 1000)
    (rs : List (List Str')) (hrs : RowsAt w rows rs) (hir : (Lib.itoa rs.length).length ≤ 1000) (hrl : rs.length ≤ 1000) (hfl : ∀ r ∈ rs, r.length ≤ 1000) (hff : ∀ r ∈ rs, ∀ f ∈ r, f.length ≤ 1000)
    (hV : ∀ w1, Below w.heap.size w w1 → Calls Tryd.prog 17 #[.agg #[.string kind, .int .i64 src, .int .i64 num, rows]] w1 fun e w' => e = .returned (.bool valid) ∧ Below w1.heap.size w1 w')
    (hI : ∀ (n : Int) w1, InR n → Below w.heap.size w w1 → Calls Tryd.prog 38 #[.int .i64 n] w1 fun e w' => e = .returned (.string ⟨(Lib.itoa n).toArray⟩) ∧ Below w1.heap.size w1 w')
    (hC : ∀ w1, Below w.heap.size w w1 → Calls Tryd.prog 27 #[.string ⟨(bodyT kind.data.toList src num rs).toArray⟩] w1 fun e w' => e = .returned (.int .i64 c) ∧ Below w1.heap.size w1 w') :
    Calls Tryd.prog 15 #[.agg #[.string kind, .int .i64 src, .int .i64 num, rows]] w fun e w' => e = .returned (fmtRes valid (fullT kind.data.toList src num rs c)) ∧ Below w.heap.size w w' := by
  obtain ⟨ra, rcap, rfl, hrows⟩ := hrs
  have hbl := (Below.refl w.heap.size w).alloc (Nat.le_refl _) (.cells #[.string kind, .int .i64 src, .int .i64 num, .slice ra rs.length rcap] 25)
  go_enter Tryd.func15, Tryd.ntmps15
  go_wp2_with (first
    | (go_at_call 17; refine (hV _ hbl).mono ?_; rintro e w1 ⟨rfl, hb1⟩))
  · rename_i hv
    have : valid = false := by simpa using hv
    subst this
    go_ret2
    exact ⟨rfl, hbl.trans (hb1.mono (by simp))⟩
  · have hbW : Below w.heap.size w (w1.alloc (.cells #[.pointer none, .slice none 0 0] 62)) := (hbl.trans (hb1.mono (by simp))).alloc (by have := hb1.size; simp at this; omega) _
    have hB := Lib.fresh_builder w1
    have hA : BoxAt w.heap.size kind src num (.slice ra rs.length rcap) (w1.alloc (.cells #[.pointer none, .slice none 0 0] 62)) := by
      have hs1 : w.heap.size < w1.heap.size := by have := hb1.size; simp at this; omega
      have hbx := (Below.refl w1.heap.size w1).alloc (Nat.le_refl _) (.cells #[.pointer none, .slice none 0 0] 62)
      have hc : ∀ j u, (#[Value.string kind, .int .i64 src, .int .i64 num, .slice ra rs.length rcap] : Array Value)[j]? = some u → (w1.alloc (.cells #[.pointer none, .slice none 0 0] 62)).cell? ⟨w.heap.size, j, none⟩ = some u := fun j u hu => by
        rw [hbx.cell (p := ⟨w.heap.size, j, none⟩) hs1, hb1.cell (p := ⟨w.heap.size, j, none⟩) (by simp), World.cell?_alloc_new]
        exact hu
      exact ⟨hc 0 _ rfl, hc 1 _ rfl, hc 2 _ rfl, hc 3 _ rfl, by simp; omega⟩
    have hws : w.heap.size < w1.heap.size := by have := hb1.size; simp at this; omega
    obtain ⟨Wa, hWa⟩ : ∃ W, W = w1.alloc (.cells #[.pointer none, .slice none 0 0] 62) := ⟨_, rfl⟩
    rw [← hWa] at hbW hB hA ⊢
    have hsa : w1.heap.size < Wa.heap.size := by rw [hWa]; simp
    clear hWa
    obtain ⟨a0, a1, a2, a3, a4⟩ := hA
    have f1 : ¬ 9223372036854775807 < 5 + kind.size := by omega
    have f2 : ¬ 9223372036854775807 < 5 + kind.size + 1 := by omega
    have f3 : ¬ 9223372036854775807 < 5 + kind.size + 1 + (Lib.itoa src).length := by omega
    have f4 : ¬ 9223372036854775807 < 5 + kind.size + 1 + (Lib.itoa src).length + 1 := by omega
    have f5 : ¬ 9223372036854775807 < 5 + kind.size + 1 + (Lib.itoa src).length + 1 + (Lib.itoa num).length := by omega
    have f6 : ¬ 9223372036854775807 < 5 + kind.size + 1 + (Lib.itoa src).length + 1 + (Lib.itoa num).length + 1 := by omega
    go_region_held3 (fun w' => w'.cell? ⟨w.heap.size, 0, none⟩ = some (.string kind) ∧ w'.cell? ⟨w.heap.size, 1, none⟩ = some (.int .i64 src) ∧ w'.cell? ⟨w.heap.size, 2, none⟩ = some (.int .i64 num) ∧ w'.cell? ⟨w.heap.size, 3, none⟩ = some (.slice ra rs.length rcap) ∧ w.heap.size + 1 < w'.heap.size ∧ Below w.heap.size w w')
      (first | exact ⟨a0, a1, a2, a3, a4, hbW.drew⟩ | exact keepI (by assumption) (by assumption) | exact keepS (by assumption) (by assumption) hws)
      (first | (go_at_call 38; refine (hI _ _ (by first | exact hsr | exact hnr) (by first | assumption | exact belS (by assumption))).mono ?_; rintro e w2 ⟨rfl, hk⟩) | (go_at_call 37; refine (Tryd.bw_ws w1.heap.size [] _ _ (by repeat' first | exact hB | refine Lib.isBuilderF_kept ?_ (by assumption)) (by simp only [ByteArray.size_append, sz5, sz124, sz10, szi, List.length_cons, List.length_nil]; omega)).mono ?_; rintro e w4 ⟨rfl, hB4, hk⟩))
    rename _ ∧ _ => hS
    have hB5 : Lib.IsBuilderF 62 5 w1.heap.size w1.heap.size (Lib.byteCells (headT kind.data.toList src num)) w4 := by
      simpa [headT] using hB4
    clear hB4 hk hB a0 a1 a2 a3 a4 hsa f1 f2 f3 f4 f5 f6 hbW
    obtain ⟨a0, a1, a2, a3, a4, a5⟩ := hS
    go_wp2
    clear a0 a1 a2
    have hhead := headT_len kind.data.toList src num hks his hin
    have hT : ∀ k, (headT kind.data.toList src num ++ (rs.take k).flatMap rowT).length ≤ 2001007008 := fun k => by
      have h1 : (rs.take k).length ≤ 1000 := by rw [List.length_take]; omega
      have h2 := rows_len (rs.take k) h1 (fun r hr => hfl r (List.mem_of_mem_take hr)) (fun r hr => hff r (List.mem_of_mem_take hr))
      rw [List.length_append]; omega
    go_loopw [31] (fun i wr => ∃ k : Nat, k ≤ rs.length ∧ i = .int .i64 k ∧ Lib.IsBuilderF 62 5 w1.heap.size w1.heap.size (Lib.byteCells (headT kind.data.toList src num ++ (rs.take k).flatMap rowT)) wr ∧ Below w1.heap.size w4 wr) (fun i _ => rs.length - (RowKit.intOf i).toNat)
    case atStart => exact ⟨0, Nat.zero_le _, rfl, by simpa using hB5, Below.refl _ _⟩
    case round =>
      obtain ⟨k, hk, rfl, hBr, hbr⟩ := hrel
      have hbw := a5.trans (hbr.mono (Nat.le_of_lt hws))
      have hTk := hT k
      by_cases hlt : k < rs.length
      · obtain ⟨b0, o0, u0, rfl, h0, h1, h2⟩ := hrows k hlt
        obtain ⟨fa, fcap, rfl, hfs⟩ := h2
        have c0 : wr.cell? ⟨b0, o0 + k, none⟩ = some (.slice fa rs[k].length fcap) := (hbw.cell (p := ⟨b0, o0 + k, none⟩) h0).trans h1
        have hrk := hfl _ (List.getElem_mem hlt)
        have hfk := hff _ (List.getElem_mem hlt)
        have hTx : ∀ j, (headT kind.data.toList src num ++ (rs.take k).flatMap rowT ++ [82, 79, 87] ++ (rs[k].take j).flatMap fldT).length ≤ 2003008011 := fun j => by
          have h1 : (rs[k].take j).length ≤ 1000 := by rw [List.length_take]; omega
          have h2 := flds_len (rs[k].take j) h1 (fun r hr => hfk r (List.mem_of_mem_take hr))
          rw [List.length_append, List.length_append, List.length_cons, List.length_cons, List.length_cons, List.length_nil]; omega
        go_wp2_with (first
          | (go_at_call 37; refine (Tryd.bw_ws _ _ _ _ hBr (by rw [sz3]; omega)).mono ?_; rintro e w5 ⟨rfl, hB6, hb6⟩))
        go_loopw [38] (fun i wr => ∃ j : Nat, j ≤ rs[k].length ∧ i = .int .i64 j ∧ Lib.IsBuilderF 62 5 w1.heap.size w1.heap.size (Lib.byteCells (headT kind.data.toList src num ++ (rs.take k).flatMap rowT ++ [82, 79, 87] ++ (rs[k].take j).flatMap fldT)) wr ∧ Below w1.heap.size w5 wr) (fun i _ => rs[k].length - (RowKit.intOf i).toNat)
        case atStart => exact ⟨0, Nat.zero_le _, rfl, by simpa using hB6, Below.refl _ _⟩
        case round =>
          obtain ⟨j, hj, rfl, hBx, hbx⟩ := hrel
          have hbxw := hbw.trans ((hb6.trans hbx).mono (Nat.le_of_lt hws))
          have hTj := hTx j
          by_cases hjt : j < rs[k].length
          · obtain ⟨b2, o2, rfl, g0, g1⟩ := hfs j hjt
            have c1 : wr.cell? ⟨b2, o2 + j, none⟩ = some (.string ⟨(rs[k])[j].toArray⟩) := (hbxw.cell (p := ⟨b2, o2 + j, none⟩) g0).trans g1
            have hfj := hfk _ (List.getElem_mem hjt)
            have hej := escP_len (rs[k])[j]
            have q1 : ¬ 9223372036854775807 < 1 + (escP (rs[k])[j]).length := by omega
            go_wp2_with (first
              | (go_at_call 39; refine (Tryd.escape_l _ hfj _).mono ?_; rintro e w6 ⟨rfl, hb7⟩)
              | (go_at_call 37; refine (Tryd.bw_ws _ _ _ _ (Lib.isBuilderF_kept hBx hb7) (by simp only [ByteArray.size_append, szi, List.length_cons, List.length_nil]; omega)).mono ?_; rintro e w8 ⟨rfl, hB9, hb9⟩))
            refine ⟨⟨j + 1, by omega, by simp, ?_, (hbx.trans (hb7.mono (Nat.le_of_lt (Lib.isBuilderF_lt hBx)))).trans hb9⟩, by simp [RowKit.intOf]; omega⟩
            have e1 : (rs[k].take (j + 1)).flatMap fldT = (rs[k].take j).flatMap fldT ++ fldT (rs[k])[j] := by
              rw [List.take_succ, List.getElem?_eq_getElem hjt, List.flatMap_append]; simp
            rw [e1]
            simpa [fldT] using hB9
          · have : j = rs[k].length := by omega
            subst this
            go_wp2_with (first
              | (go_at_call 37; refine (Tryd.bw_ws _ _ _ _ hBx (by rw [sz10]; omega)).mono ?_; rintro e w8 ⟨rfl, hB9, hb9⟩))
            refine ⟨⟨k + 1, by omega, by simp, ?_, (hbr.trans (hb6.trans hbx)).trans hb9⟩, by simp [RowKit.intOf]; omega⟩
            have e1 : (rs.take (k + 1)).flatMap rowT = (rs.take k).flatMap rowT ++ rowT rs[k] := by
              rw [List.take_succ, List.getElem?_eq_getElem hlt, List.flatMap_append]; simp
            rw [e1]
            simpa [rowT] using hB9
      · have : k = rs.length := by omega
        subst this
        rw [List.take_of_length_le (Nat.le_refl _)] at hBr hTk
        have a3r : wr.cell? ⟨w.heap.size, 3, none⟩ = some (.slice ra rs.length rcap) := (hbr.cell (p := ⟨w.heap.size, 3, none⟩) hws).trans a3
        have hrr : InR rs.length := by unfold InR; omega
        have q1 : ¬ 9223372036854775807 < 4 + (Lib.itoa rs.length).length := by omega
        have q2 : ¬ 9223372036854775807 < 4 + (Lib.itoa rs.length).length + 1 := by omega
        have q3 : ¬ 9223372036854775807 < 4 + (Lib.itoa rs.length).length + 1 + (Lib.itoa c).length := by omega
        have q4 : ¬ 9223372036854775807 < 4 + (Lib.itoa rs.length).length + 1 + (Lib.itoa c).length + 1 := by omega
        go_wp2_with (first
          | (go_at_call 40; refine (Tryd.Builder_String_any_k _ _ _ _ hBr (Nat.le_of_lt (Lib.isBuilderF_lt hBr))).mono ?_; rintro e w5 ⟨rfl, hB6, hb6, hok⟩)
          | (go_at_call 27; refine (hC _ (hbw.trans (hb6.mono (Nat.le_of_lt hws)))).mono ?_; rintro e w6 ⟨rfl, hb8⟩; have a3s : w6.cell? ⟨w.heap.size, 3, none⟩ = some (.slice ra rs.length rcap) := (hb8.cell (p := ⟨w.heap.size, 3, none⟩) (Nat.lt_of_lt_of_le hws (Nat.le_of_lt (Lib.isBuilderF_lt hB6)))).trans ((hb6.cell (p := ⟨w.heap.size, 3, none⟩) hws).trans a3r); have hw6 : Below w.heap.size w w6 := (hbw.trans (hb6.mono (Nat.le_of_lt hws))).trans (hb8.mono (Nat.le_of_lt (Nat.lt_trans hws (Lib.isBuilderF_lt hB6)))); have hB6w := Lib.isBuilderF_kept hB6 hb8)
          | (go_at_call 38; refine (hI _ _ (by first | exact hcr | exact hrr) (by first | exact hw7 | exact hw6)).mono ?_; rintro e w7 ⟨rfl, hb9⟩; have hB7 := Lib.isBuilderF_kept (by first | exact hB7 | exact hB6w) hb9; have hw7 : Below w.heap.size w w7 := Below.trans (by first | exact hw7 | exact hw6) (hb9.mono (by first | exact hw7.size | exact hw6.size)))
          | (go_at_call 37; refine (Tryd.bw_ws w1.heap.size (headT kind.data.toList src num ++ rs.flatMap rowT) _ _ hB7 (by simp only [ByteArray.size_append, szi, List.length_cons, List.length_nil]; omega)).mono ?_; rintro e w8 ⟨rfl, hB9, hb10⟩; have hBF : Lib.IsBuilderF 62 5 w1.heap.size w1.heap.size (Lib.byteCells (fullT kind.data.toList src num rs c)) w8 := (by simpa [fullT, bodyT] using hB9); have hw8 : Below w.heap.size w w8 := hw7.trans (hb10.mono (Nat.le_of_lt hws)); clear hB9)
          | (go_at_call 41; refine (Tryd.bw_len _ _ _ hBF).mono ?_; rintro e w9 ⟨rfl, rfl⟩)
          | (go_at_call 40; refine (Tryd.Builder_String_any_k _ _ _ _ hBF (Nat.le_of_lt (Lib.isBuilderF_lt hBF))).mono ?_; rintro e w10 ⟨rfl, hB11, hb11, hok⟩))
        · have hvt : valid = true := by
            have h : (!valid) = false := by assumption
            simpa using h
          rename_i hlong
          go_ret2
          refine ⟨?_, hw8⟩
          unfold fmtRes
          rw [hvt, if_neg (by decide), if_pos (by omega)]
          rfl
        · have hvt : valid = true := by
            have h : (!valid) = false := by assumption
            simpa using h
          have hshort : ((fullT kind.data.toList src num rs c).length : Int) ≤ 8192 := by assumption
          go_ret2
          refine ⟨?_, hw8.trans (hb11.mono (Nat.le_of_lt hws))⟩
          unfold fmtRes
          rw [hvt, if_neg (by decide), if_neg (by omega)]
          rfl
end Go.Proofs
namespace Go.Proofs
open Go.RowKit Go.Shelf Go.Lib
set_option linter.all false
attribute [local go_sem] Oper.semAt_some

/-- the lines of a text, without the bytes 10 -/
def linesL : List UInt8 → List (List UInt8)
  | [] => []
  | c :: r => match h : Lib.indexByte (c :: r) 10 with
    | .ofNat e => (c :: r).take e :: linesL ((c :: r).drop (e + 1))
    | .negSucc _ => [c :: r]
termination_by l => l.length
decreasing_by simp; omega

/-- What the box holds. -/
def boxLen (b1 : Nat) (W : World) : Nat := match W.cell? ⟨b1, 0, none⟩ with | some (.string t) => t.size | _ => 0
theorem take_extract (l : List UInt8) (e : Nat) : (⟨(l.take e).toArray⟩ : ByteArray) = (⟨l.toArray⟩ : ByteArray).extract 0 e := by
  apply ByteArray.ext
  simp
theorem drop_extract (l : List UInt8) (e : Nat) (h : e ≤ l.length) : (⟨(l.drop e).toArray⟩ : ByteArray) = (⟨l.toArray⟩ : ByteArray).extract e l.length := by
  apply ByteArray.ext
  simp
  exact (List.take_of_length_le (by simp)).symm
set_option maxRecDepth 100000 in
set_option maxHeartbeats 4000000 in
theorem Tryd.lines_in (n : Nat) (l b1 : Nat) (s : List UInt8) (hs : s.length ≤ 100000) (J : List (List UInt8) → World → Prop)
    (hJbox : ∀ pre W v, J pre W → J pre (W.setCell ⟨b1, 0, none⟩ v))
    (hY : ∀ pre x W, pre.length < (linesL s).length → J pre W → YieldAt Fence.wide (n - 1) Tryd.prog l #[.string ⟨x.toArray⟩] W fun e W' => e = .returned (.bool true) ∧ J (pre ++ [x]) W' ∧ W'.cell? ⟨b1, 0, none⟩ = W.cell? ⟨b1, 0, none⟩ ∧ W'.frozen? ⟨b1, 0, none⟩ = W.frozen? ⟨b1, 0, none⟩)
    (W : World) (hb : W.cell? ⟨b1, 0, none⟩ = some (.string ⟨s.toArray⟩)) (hf : W.frozen? ⟨b1, 0, none⟩ = false) (h0 : J [] W) :
    CallsIn Fence.wide n Tryd.prog 62 #[.func (.yield l) #[] #[], .pointer (some ⟨b1, 0, none⟩)] W fun e W' => (∃ v, e = .returned v) ∧ J (linesL s) W' := by
  refine callsIn_of_wp Tryd.func62 rfl trivial ?_ rfl
  simp only [Tryd.ntmps62, List.size_toArray, List.length_cons, List.length_nil, Nat.reduceAdd, Nat.reduceSub, Array.replicate_succ, Array.replicate_zero, List.push_toArray, List.append_toArray, List.nil_append, List.cons_append]
  gi_wp2
  gi_loopw [3] (fun p wr => ∃ (pre : List (List UInt8)) (rest : List UInt8), wr.cell? ⟨b1, 0, none⟩ = some (.string ⟨rest.toArray⟩) ∧ wr.frozen? ⟨b1, 0, none⟩ = false ∧ rest.length ≤ 100000 ∧ linesL s = pre ++ linesL rest ∧ J pre wr)
    (fun p wr => boxLen b1 wr)
  case atStart => exact ⟨[], s, hb, hf, hs, rfl, h0⟩
  case round =>
    obtain ⟨pre, rest, hc, hfr, hrl, hx, hJ⟩ := hrel
    cases rest with
    | nil =>
      gi_wp2
      go_end0
      exact ⟨⟨_, rfl⟩, by rw [hx, linesL]; simpa using hJ⟩
    | cons c0 r0 =>
      generalize hR : c0 :: r0 = rest at hc hx hrl
      have hpos : 0 < rest.length := by rw [← hR]; simp
      cases hI : Lib.indexByte rest 10 with
      | negSucc k =>
        have hlin : linesL rest = [rest] := by subst hR; rw [linesL]; split <;> simp_all
        obtain ⟨fn, tmps, assign, body, hy, hRd⟩ := hY pre rest wr (by rw [hx, hlin]; simp) hJ
        gi_wp2_with (refine ⟨trivial, (fun h => by cases h), ?_⟩; refine (callsIn_wide.2 (Tryd.strings_IndexByte _ _ _)).mono ?_; rintro e w1 ⟨rfl, rfl⟩)
        refine ⟨(fun h => by cases h), ?_⟩
        refine hRd.mono ?_
        rintro e W3 ⟨rfl, hJ3, hc3, hf3⟩
        gi_wp2
        refine bodyPost_ret (results_none rfl _ _ _) rfl ?_
        exact ⟨⟨_, rfl⟩, by rw [hx, hlin]; exact hJ3⟩
      | ofNat e =>
        have hlin : linesL rest = rest.take e :: linesL (rest.drop (e + 1)) := by
          subst hR
          rw [linesL]
          split
          · rename_i e' he
            have : e' = e := by have := he.symm.trans hI; exact Int.ofNat.inj this
            subst this; rfl
          · rename_i k' he
            have := he.symm.trans hI; simp at this
        obtain ⟨fn, tmps, assign, body, hy, hRd⟩ := hY pre (rest.take e) wr (by rw [hx, hlin]; simp) hJ
        have hle : e + 1 ≤ rest.length := by
          obtain ⟨h1, _⟩ := Lib.indexByte_some hI
          exact (List.getElem?_eq_some_iff.1 h1).1
        have hle0 : e ≤ rest.length := by omega
        rw [take_extract] at hy
        gi_wp2_with (refine ⟨trivial, (fun h => by cases h), ?_⟩; refine (callsIn_wide.2 (Tryd.strings_IndexByte _ _ _)).mono ?_; rintro e w1 ⟨rfl, rfl⟩)
        refine ⟨(fun h => by cases h), ?_⟩
        refine hRd.mono ?_
        rintro e' W3 ⟨rfl, hJ3, hc3, hf3⟩
        have hc4 := hc3.trans hc
        have hf4 := hf3.trans hfr
        have hw : wrap64 ((e : Int) + 1) = ((e + 1 : Nat) : Int) := by unfold wrap64; omega
        have hw2 : (0 : Int) ≤ ((e + 1 : Nat) : Int) ∧ ((e + 1 : Nat) : Int) ≤ rest.length := by omega
        gi_wp2
        rw [← drop_extract rest (e + 1) hle]
        have hcs : (W3.setCell ⟨b1, 0, none⟩ (.string ⟨(rest.drop (e + 1)).toArray⟩)).cell? ⟨b1, 0, none⟩ = some (.string ⟨(rest.drop (e + 1)).toArray⟩) := World.cell?_setCell_same' _ _ _ (by rw [hc4]; rfl)
        refine ⟨⟨pre ++ [rest.take e], rest.drop (e + 1), hcs, by rw [World.frozen?_setCell]; exact hf4, by rw [List.length_drop]; omega, by rw [hx, hlin]; simp, hJbox _ _ _ hJ3⟩, ?_⟩
        unfold boxLen
        rw [hcs, hc]
        simp only [szi, List.length_drop]
        omega
end Go.Proofs
namespace Go.Proofs
open Go.RowKit Go.Shelf Go.Lib
set_option linter.all false

/-- A round's end: it goes on, whatever holds no cells lies as it lay, the box too. -/
def lnPost (b1 : Nat) (I : List (List UInt8) → World → Prop) (xs : List (List UInt8)) (W : World) : Exit → Act → World → Prop
  | .normal, _, W' => KeepsOthers W W' ∧ I xs W' ∧ W'.cell? ⟨b1, 0, none⟩ = W.cell? ⟨b1, 0, none⟩ ∧ W'.frozen? ⟨b1, 0, none⟩ = W.frozen? ⟨b1, 0, none⟩
  | _, _, _ => False
theorem cell_putObj {W : World} {l b1 : Nat} {o : Obj} (h : b1 ≠ l) : (W.putObj l o).cell? ⟨b1, 0, none⟩ = W.cell? ⟨b1, 0, none⟩ := by
  simp only [World.cell?, World.putObj_heap_other h]
theorem frozen_putObj {W : World} {l b1 : Nat} {o : Obj} (h : b1 ≠ l) : (W.putObj l o).frozen? ⟨b1, 0, none⟩ = W.frozen? ⟨b1, 0, none⟩ := by
  simp only [World.frozen?, World.putObj_heap_other h]
set_option maxRecDepth 100000 in
set_option maxHeartbeats 4000000 in
theorem Tryd.range_lines {n : Nat} {g : Operand} {ps : Array Tmp} {assign body : Code} {Q : Exit → Act → World → Prop} {a : Act} {w : World} (b1 : Nat) (s : List UInt8) (hs : s.length ≤ 100000)
    (hg : a.eval g = .func (.func 62) #[] #[.pointer (some ⟨b1, 0, none⟩)]) (hps : ps.size = 1) (hb : w.cell? ⟨b1, 0, none⟩ = some (.string ⟨s.toArray⟩)) (hf : w.frozen? ⟨b1, 0, none⟩ = false)
    (I : List (List UInt8) → World → Prop) (hIbox : ∀ pre W v, I pre W → I pre (W.setCell ⟨b1, 0, none⟩ v)) (hIobj : ∀ pre W l o, w.heap.size ≤ l → (∀ o', W.heap[l]? = some o' → o'.isCells = false) → I pre W → I pre (W.putObj l o))
    (h0 : ∀ r, I [] ((w.alloc (.deferred (some []))).alloc (.loop r))) (a₁ : List UInt8 → Act)
    (hassign : ∀ (l : Nat) (x : List UInt8) (W : World) (K : Act → World → Prop), K (a₁ x) W →
      assign.wpIn (Fence.wide.inRound l) (n - 1 - 1) Tryd.prog (Exit.then K (fun _ _ _ => False)) { tmps := (ps.zip #[Value.string ⟨x.toArray⟩]).foldl (fun t (p, v) => t.setIfInBounds p v) a.tmps, defers := [] } W)
    (hbody : ∀ (l : Nat) (pre : List (List UInt8)) (x : List UInt8) (W : World), pre.length < (linesL s).length → w.heap.size ≤ l → I pre W → body.wpIn (Fence.wide.inRound l) (n - 1 - 1) Tryd.prog (lnPost b1 I (pre ++ [x]) W) (a₁ x) W)
    (hdone : ∀ (W : World), I (linesL s) W → W.heap[w.heap.size]? = some (.deferred (some [])) → (∃ v, W.cell? ⟨b1, 0, none⟩ = some v) → Q .normal { a with defers := { target := .collected w.heap.size, args := #[] } :: a.defers } W) :
    (Code.rangeFunc g ps assign body).wpIn Fence.wide n Tryd.prog Q a w := by
  have hb1 : b1 < w.heap.size := World.block_lt_of_cell? w _ hb
  refine wpIn_rangeFunc ?_
  intro fn hfn
  obtain ⟨rec, hrec⟩ : ∃ rec : LoopState → Option Code → Loop, rec = fun st pe => { state := st, pending := pe, fn, tmps := a.tmps, params := ps, assign, body, defers := w.heap.size } := ⟨_, rfl⟩
  obtain ⟨W1, hW1⟩ : ∃ W1, (w.alloc (.deferred (some []))).alloc (.loop (rec .ready none)) = W1 := ⟨_, rfl⟩
  have hs1 : W1.heap.size = w.heap.size + 2 := by rw [← hW1]; simp
  have hL1 : W1.heap[w.heap.size + 1]? = some (.loop (rec .ready none)) := by
    rw [← hW1]; have := heap_alloc_new (w.alloc (.deferred (some []))) (.loop (rec .ready none)); rwa [World.size_alloc] at this
  have hK1 : W1.heap[w.heap.size]? = some (.deferred (some [])) := by
    rw [← hW1]; exact (Below.heap_alloc _ _ _ (by simp)).trans (heap_alloc_new w _)
  have hB1 : Below w.heap.size w W1 := by rw [← hW1]; exact ((Below.refl _ w).alloc (Nat.le_refl _) _).alloc (by simp) _
  refine ⟨w.heap.size + 1, [{ target := .collected w.heap.size, args := #[] }], W1, { target := .fn (.func 62) #[.pointer (some ⟨b1, 0, none⟩)], args := #[.func (.yield (w.heap.size + 1)) #[] #[]] }, W1, 62,
    #[.func (.yield (w.heap.size + 1)) #[] #[]] ++ #[.pointer (some ⟨b1, 0, none⟩)], W1, ?_, ?_, (fun _ _ => trivial), ?_, (fun h => by cases h), ?_⟩
  · rw [← hW1, hrec]; exact run_enterLoop_outer _ _ _ _ _
  · simp only [resolve, hg]
    simp [go_sem]
  · simp [invoke, go_sem, enters_of Tryd.func62 (by kernel_rfl) rfl]
  · refine (Tryd.lines_in (n - 1) (w.heap.size + 1) b1 s hs
      (fun pre W => I pre W ∧ W.heap[w.heap.size + 1]? = some (.loop (rec .ready none)) ∧ W.heap[w.heap.size]? = some (.deferred (some [])) ∧ ∃ v, W.cell? ⟨b1, 0, none⟩ = some v)
      ?_ ?_ W1 ((hB1.cell (p := ⟨b1, 0, none⟩) hb1).trans hb) ((hB1.frozen (p := ⟨b1, 0, none⟩) hb1).trans hf) ⟨by rw [← hW1]; exact h0 _, hL1, hK1, _, (hB1.cell (p := ⟨b1, 0, none⟩) hb1).trans hb⟩).mono ?_
    · rintro pre W v ⟨hi, hl, hk, u, hu⟩
      exact ⟨hIbox pre W v hi, (Below.heap_setCell W ⟨b1, 0, none⟩ v _ (by show w.heap.size + 1 ≠ b1; omega)).trans hl, (Below.heap_setCell W ⟨b1, 0, none⟩ v _ (by show w.heap.size ≠ b1; omega)).trans hk, _, World.cell?_setCell_same' _ _ _ (by rw [hu]; rfl)⟩
    · rintro pre x W hpl ⟨hi, hl, hk, u, hu⟩
      have hlt : w.heap.size + 1 < W.heap.size := (Array.getElem?_eq_some_iff.1 hl).1
      have hy := run_yield (P := Tryd.prog) (args := #[Value.string ⟨x.toArray⟩]) hl (by rw [hrec]; exact hps.symm)
      rw [hrec] at hy
      refine ⟨fn, _, assign, body, hy, roundIn_of_wpIn hfn (hassign _ x W _ ⟨_, run_beginRound hl (by rw [hrec]), ?_⟩)⟩
      obtain ⟨W2, hW2⟩ : ∃ W2, W2 = W.putObj (w.heap.size + 1) (.loop { rec .ready none with state := .busy }) := ⟨_, rfl⟩
      have hl2 : W2.heap[w.heap.size + 1]? = some (.loop { rec .ready none with state := .busy }) := by rw [hW2]; exact World.putObj_heap_same hlt
      have hk2 : W2.heap[w.heap.size]? = some (.deferred (some [])) := by rw [hW2]; exact (World.putObj_heap_other (by omega)).trans hk
      have hi2 : I pre W2 := by rw [hW2]; exact hIobj _ _ _ _ (by omega) (fun o' ho => by rw [hl] at ho; cases ho; rfl) hi
      have hc2 : W2.cell? ⟨b1, 0, none⟩ = W.cell? ⟨b1, 0, none⟩ := by rw [hW2]; exact cell_putObj (by omega)
      have hf2 : W2.frozen? ⟨b1, 0, none⟩ = W.frozen? ⟨b1, 0, none⟩ := by rw [hW2]; exact frozen_putObj (by omega)
      rw [← hW2]
      refine wpIn_mono (hbody _ pre x W2 hpl (by omega) hi2) ?_
      rintro e a3 W3 hp
      cases e with
      | normal =>
        obtain ⟨hk3, hi3, hc3, hf3⟩ := hp
        have hl3 := hk3.same _ _ hl2 rfl
        have hk4 := hk3.same _ _ hk2 rfl
        have hr := run_endRound (P := Tryd.prog) none hl3
        refine ⟨_, _, hr, rfl, ⟨hIobj _ _ _ _ (by omega) (fun o' ho => by rw [hl3] at ho; cases ho; rfl) hi3, ?_, ?_, ?_⟩, ?_, ?_⟩
        · rw [hrec]; exact World.putObj_heap_same (Array.getElem?_eq_some_iff.1 hl3).1
        · exact (World.putObj_heap_other (by omega)).trans hk4
        · exact ⟨u, by rw [cell_putObj (by omega), hc3, hc2]; exact hu⟩
        · rw [cell_putObj (by omega), hc3, hc2]
        · rw [frozen_putObj (by omega), hf3, hf2]
      | _ => exact hp.elim
    · rintro e W2 ⟨⟨v, rfl⟩, hi, hl, hk, u, hu⟩
      have := run_endLoop (P := Tryd.prog) hl (by rw [hrec]; simp)
      rw [hrec] at this
      exact ⟨none, _, this, hdone _ (hIobj _ _ _ _ (by omega) (fun o' ho => by rw [hl] at ho; cases ho; rfl) hi) ((World.putObj_heap_other (by omega)).trans hk) ⟨u, by rw [cell_putObj (by omega)]; exact hu⟩⟩
end Go.Proofs
namespace Go.Proofs
open Go.RowKit Go.Shelf Go.Lib
set_option linter.all false
attribute [local go_sem] Oper.semAt_some

theorem Tryd.lines_call (F : Fence) (n : Nat) (h48 : F.fn 48) (hro : F.round = none) (x : ByteArray) (w : World) :
    CallsIn F n Tryd.prog 48 #[.string x] w fun e w' => e = .returned (.func (.func 62) #[] #[.pointer (some ⟨w.heap.size, 0, none⟩)]) ∧ w' = w.alloc (.cells #[.string x] 9) := by
  refine callsIn_of_wp Tryd.func48 rfl h48 ?_ hro
  simp only [Tryd.ntmps48, List.size_toArray, List.length_cons, List.length_nil, Nat.reduceAdd, Nat.reduceSub, Array.replicate_succ, Array.replicate_zero, List.push_toArray, List.append_toArray, List.nil_append, List.cons_append]
  gi_wp2
  go_ret
  exact ⟨rfl, rfl⟩
/-- the part of exchange.Parse that collects the lines -/
def linesOf : Code → Code
  | .seq _ (.seq _ (.seq _ (.seq _ (.seq x _)))) => x
  | c => c
noncomputable def linesCode : Code := linesOf (Tryd.f21.body.getD .skip)
theorem cellOneNew (W : World) (v : Value) (t : TypeId) : ∀ (j : Nat) (u : Value), [v][j]? = some u → (W.alloc (.cells #[v] t)).cell? ((⟨W.heap.size, 0, none⟩ : Addr).add j) = some u := by
  intro j u h
  cases j with
  | zero =>
    simp at h
    subst h
    have := (Boxed.new W t v).cell
    simpa [Addr.add] using this
  | succ j => simp at h
/-- What the rounds keep. -/
structure LinesInv (w : World) (bA : Nat) (el : TypeId) (pre : List (List UInt8)) (W : World) : Prop where
  size : w.heap.size + 1 ≤ W.heap.size
  old : ∀ b, b < w.heap.size → b ≠ bA → W.heap[b]? = w.heap[b]?
  os : W.os = w.os
  tape : W.tape = w.tape
  output : W.output = w.output
  box : ∃ v, Boxed W bA el v ∧ W.ownsRow (w.heap.size + 1) 9 1 v pre.length (pre.map fun x => .string ⟨x.toArray⟩)
theorem LinesInv.box' {w : World} {bA : Nat} {el : TypeId} {pre : List (List UInt8)} {W : World} (h : LinesInv w bA el pre W) (hA : bA < w.heap.size) (v : Value) : LinesInv w bA el pre (W.setCell ⟨w.heap.size, 0, none⟩ v) := by
  obtain ⟨u, h1, h2⟩ := h.box
  have hb : ∀ b, b ≠ w.heap.size → (W.setCell ⟨w.heap.size, 0, none⟩ v).heap[b]? = W.heap[b]? := fun b hb => Below.heap_setCell W ⟨w.heap.size, 0, none⟩ v b hb
  refine ⟨Nat.le_trans h.size (KeepsWalks.setCell W _ v).size, fun b h3 h4 => (hb b (by omega)).trans (h.old b h3 h4), h.os, h.tape, h.output, u, ?_, ?_⟩
  · exact (hb bA (by omega)).trans h1
  · exact h2.kept (grownBy_setCell' W w.heap.size v) (.inr fun e => by have := (h2.lt _ e).1; omega)
theorem LinesInv.obj {w : World} {bA : Nat} {el : TypeId} {pre : List (List UInt8)} {W : World} (h : LinesInv w bA el pre W) (hA : bA < w.heap.size) (l : Nat) (o : Obj) (hl : w.heap.size ≤ l) (hn : ∀ o', W.heap[l]? = some o' → o'.isCells = false) : LinesInv w bA el pre (W.putObj l o) := by
  obtain ⟨u, h1, h2⟩ := h.box
  have hb : ∀ b, b ≠ l → (W.putObj l o).heap[b]? = W.heap[b]? := fun b hb => World.putObj_heap_other hb
  refine ⟨by simpa [World.putObj] using h.size, fun b h3 h4 => (hb b (by omega)).trans (h.old b h3 h4), h.os, h.tape, h.output, u, (hb bA (by omega)).trans h1, ?_⟩
  refine h2.kept (grownBy_putObj' W l o) ?_
  rcases h2.2 with ⟨rfl, _⟩ | ⟨g, cap, cur, rfl, _, hgb, _⟩
  · exact .inl rfl
  · refine .inr fun e' => ?_
    obtain rfl : g = l := by simpa [Value.ownBlock] using e'
    have := hn _ hgb
    cases this
theorem LinesInv.alloc {w : World} {bA : Nat} {el : TypeId} {pre : List (List UInt8)} {W : World} (h : LinesInv w bA el pre W) (hA : bA < w.heap.size) (o : Obj) : LinesInv w bA el pre (W.alloc o) := by
  obtain ⟨u, h1, h2⟩ := h.box
  have hb : ∀ b, b < W.heap.size → (W.alloc o).heap[b]? = W.heap[b]? := fun b hb => Below.heap_alloc W o b hb
  have := h.size
  exact ⟨by simp; omega, fun b h3 h4 => (hb b (by omega)).trans (h.old b h3 h4), h.os, h.tape, h.output, u, h1.alloc o, h2.alloc o⟩
theorem LinesInv.add {w : World} {bA : Nat} {el : TypeId} {pre : List (List UInt8)} {W w1 : World} {v v' : Value} {x : List UInt8} {tmp : Obj} (h : LinesInv w bA el pre W) (hA : bA < w.heap.size) (hv : Boxed W bA el v)
    (hrow : W.ownsRow (w.heap.size + 1) 9 1 v pre.length (pre.map fun x => .string ⟨x.toArray⟩))
    (hown' : w1.ownsRow (w.heap.size + 1) 9 1 v' (pre.length + 1) ((pre.map fun x => .string ⟨x.toArray⟩) ++ [.string ⟨x.toArray⟩])) (hgrow : (W.alloc tmp).grownBy w1 v.ownBlock) :
    Boxed w1 bA el v ∧ KeepsOthers W (w1.setCell ⟨bA, 0, none⟩ v') ∧ LinesInv w bA el (pre ++ [x]) (w1.setCell ⟨bA, 0, none⟩ v') ∧
      (w1.setCell ⟨bA, 0, none⟩ v').cell? ⟨w.heap.size, 0, none⟩ = W.cell? ⟨w.heap.size, 0, none⟩ ∧ (w1.setCell ⟨bA, 0, none⟩ v').frozen? ⟨w.heap.size, 0, none⟩ = W.frozen? ⟨w.heap.size, 0, none⟩ := by
  have hne : ∀ k, k < w.heap.size + 1 → some k ≠ v.ownBlock := fun k hk e => by have := (hrow.lt _ e.symm).1; omega
  have hs := h.size
  have hv1 : Boxed w1 bA el v := (hv.alloc tmp).kept hgrow (hne _ (by omega))
  have hb1 : ∀ b, b < w.heap.size + 1 → w1.heap[b]? = W.heap[b]? := fun b hb => (hgrow.block b (by simp; omega) (hne _ hb)).trans (Below.heap_alloc W tmp b (by omega))
  have hb2 : ∀ b, b ≠ bA → (w1.setCell ⟨bA, 0, none⟩ v').heap[b]? = w1.heap[b]? := fun b hb => Below.heap_setCell w1 ⟨bA, 0, none⟩ v' b hb
  have hsz := hgrow.size
  simp only [World.size_alloc] at hsz
  refine ⟨hv1, ?_, ⟨Nat.le_trans (by omega) (KeepsWalks.setCell w1 _ v').size, fun b h3 h4 => ((hb2 b h4).trans (hb1 b (by omega))).trans (h.old b h3 h4), hgrow.os.trans h.os, hgrow.tape.trans h.tape, hgrow.output.trans h.output, v', hv1.set v', ?_⟩, ?_, ?_⟩
  · refine ((KeepsOthers.alloc W tmp).trans (KeepsOthers.of_grownBy hgrow fun j o ej hj => ?_)).trans (KeepsOthers.setCell _ _ _)
    rcases (hrow.alloc tmp).2 with ⟨rfl, _⟩ | ⟨g, cap, cur, rfl, _, hgb, _⟩
    · simp [Value.ownBlock] at ej
    · obtain rfl : g = j := by simpa [Value.ownBlock] using ej
      rw [hgb] at hj; cases hj; rfl
  · rw [List.length_append, List.map_append]
    exact hown'.kept (grownBy_setCell' w1 bA v') (.inr fun e => by have := (hown'.lt _ e).1; omega)
  · exact World.cell?_of_block ((hb2 w.heap.size (by omega)).trans (hb1 w.heap.size (by omega)))
  · exact World.frozen?_of_block ((hb2 w.heap.size (by omega)).trans (hb1 w.heap.size (by omega)))
theorem Tryd.info9 : (Tryd.prog.info? 9).map (fun i => (i.zero, i.size, i.bytes)) = some (some (.string ⟨#[]⟩), 1, 16) := by kernel_rfl
theorem linesL_len (s : List UInt8) : (linesL s).length ≤ s.length := by
  induction h : s.length using Nat.strongRecOn generalizing s with
  | ind n ih =>
    cases s with
    | nil => simp [linesL]
    | cons c r =>
      rw [linesL]
      split
      · rename_i e he
        subst h
        have := ih ((c :: r).drop (e + 1)).length (by simp; omega) _ rfl
        simp only [List.length_cons] at this ⊢
        simp at this ⊢
        omega
      · simp at h ⊢; omega
theorem linesL_pre {s : List UInt8} {pre : List (List UInt8)} {rest : List UInt8} (h : linesL s = pre ++ linesL rest) : pre.length ≤ s.length := by
  have := linesL_len s
  rw [h, List.length_append] at this
  omega
set_option maxRecDepth 100000 in
set_option maxHeartbeats 8000000 in
theorem Tryd.lines_code (x1 x2 x3 x5 x6 x7 x8 x9 x10 x11 x12 x13 x14 x15 x16 x17 x18 x19 x20 x21 x22 x23 x24 x25 x26 x27 x28 x29 x30 x31 x32 x33 x34 x35 x36 x37 x38 x39 x40 x41 x42 x43 x44 x45 x46 x47 x48 x49 x50 x51 x52 x53 x54 x55 x56 x57 x58 x59 x60 x61 x62 x63 x64 x65 x66 x67 x68 x69 x70 x71 x72 x73 x74 x75 x76 x77 x78 x79 x80 x81 x82 x83 x84 x85 x86 x87 x88 x89 x90 x91 x92 x93 x94 x95 x96 x97 x98 x99 x100 x101 x102 x103 x104 x105 x106 x107 x108 x109 x110 x111 x112 x113 x114 x115 x116 : Value) (ds : List Deferred) (w : World) (s : List UInt8) (hs : s.length ≤ 100000) (bA : Nat) (el : TypeId) (hA : Boxed w bA el (.slice none 0 0)) (Q : Exit → Act → World → Prop)
    (hQ : ∀ (W : World) (D : Nat), LinesInv w bA el (linesL s) W → w.heap.size ≤ D → W.heap[D]? = some (.deferred (some [])) → Q .normal { tmps := #[.string ⟨s.toArray⟩, x1, x2, x3, .pointer (some ⟨bA, 0, none⟩), x5, x6, x7, x8, x9, x10, x11, x12, x13, x14, x15, x16, x17, x18, x19, x20, x21, x22, x23, x24, x25, x26, x27, x28, x29, x30, .string ⟨s.toArray⟩, .func (.func 62) #[] #[.pointer (some ⟨w.heap.size, 0, none⟩)], x33, x34, x35, x36, x37, x38, x39, x40, x41, x42, x43, x44, x45, x46, x47, x48, x49, x50, x51, x52, x53, x54, x55, x56, x57, x58, x59, x60, x61, x62, x63, x64, x65, x66, x67, x68, x69, x70, x71, x72, x73, x74, x75, x76, x77, x78, x79, x80, x81, x82, x83, x84, x85, x86, x87, x88, x89, x90, x91, x92, x93, x94, x95, x96, x97, x98, x99, x100, x101, x102, x103, x104, x105, x106, x107, x108, x109, x110, x111, x112, x113, x114, x115, x116], defers := { target := .collected D, args := #[] } :: ds } W) :
    linesCode.wpIn Fence.wide 5 Tryd.prog Q { tmps := #[.string ⟨s.toArray⟩, x1, x2, x3, .pointer (some ⟨bA, 0, none⟩), x5, x6, x7, x8, x9, x10, x11, x12, x13, x14, x15, x16, x17, x18, x19, x20, x21, x22, x23, x24, x25, x26, x27, x28, x29, x30, x31, x32, x33, x34, x35, x36, x37, x38, x39, x40, x41, x42, x43, x44, x45, x46, x47, x48, x49, x50, x51, x52, x53, x54, x55, x56, x57, x58, x59, x60, x61, x62, x63, x64, x65, x66, x67, x68, x69, x70, x71, x72, x73, x74, x75, x76, x77, x78, x79, x80, x81, x82, x83, x84, x85, x86, x87, x88, x89, x90, x91, x92, x93, x94, x95, x96, x97, x98, x99, x100, x101, x102, x103, x104, x105, x106, x107, x108, x109, x110, x111, x112, x113, x114, x115, x116], defers := ds } w := by
  have hAl := hA.lt
  obtain ⟨i0, hi, hz0, hz1, hz2⟩ := info_parts Tryd.info9
  dsimp only [linesCode, linesOf, Tryd.f21, Option.getD]
  gi_wp2
  refine ⟨trivial, ?_⟩
  refine (Tryd.lines_call Fence.wide _ trivial rfl _ _).mono ?_
  rintro e w' ⟨rfl, rfl⟩
  gi_wp2
  have L0 : LinesInv w bA el [] (w.alloc (.cells #[.string ⟨s.toArray⟩] 9)) := ⟨by simp, fun b hb _ => Below.heap_alloc w _ b hb, rfl, rfl, rfl, _, hA.alloc _, World.ownsRow_nil _ _ _ _⟩
  have hbx : Boxed (w.alloc (.cells #[.string ⟨s.toArray⟩] 9)) w.heap.size 9 (.string ⟨s.toArray⟩) := Boxed.new w 9 _
  refine Tryd.range_lines w.heap.size s hs rfl rfl hbx.cell hbx.frozen (LinesInv w bA el) (fun pre W v h => h.box' hAl v) (fun pre W l o hl hn h => h.obj hAl l o (by simp at hl; omega) hn)
    (fun r => (L0.alloc hAl _).alloc hAl _) (fun x => { tmps := #[.string ⟨s.toArray⟩, x1, x2, x3, .pointer (some ⟨bA, 0, none⟩), .string ⟨x.toArray⟩, x6, x7, x8, x9, x10, x11, x12, x13, x14, x15, x16, x17, x18, x19, x20, x21, x22, x23, x24, x25, x26, x27, x28, x29, x30, .string ⟨s.toArray⟩, .func (.func 62) #[] #[.pointer (some ⟨w.heap.size, 0, none⟩)], .string ⟨x.toArray⟩, x34, x35, x36, x37, x38, x39, x40, x41, x42, x43, x44, x45, x46, x47, x48, x49, x50, x51, x52, x53, x54, x55, x56, x57, x58, x59, x60, x61, x62, x63, x64, x65, x66, x67, x68, x69, x70, x71, x72, x73, x74, x75, x76, x77, x78, x79, x80, x81, x82, x83, x84, x85, x86, x87, x88, x89, x90, x91, x92, x93, x94, x95, x96, x97, x98, x99, x100, x101, x102, x103, x104, x105, x106, x107, x108, x109, x110, x111, x112, x113, x114, x115, x116], defers := [] }) ?assign ?body ?done
  case assign =>
    intro l x W K hK
    gi_wp2
    exact hK
  case body =>
    intro l pre x W hpl0 hl hI
    obtain ⟨v, hv, hrow⟩ := hI.box
    have hc := hv.cell
    have hpl : pre.length ≤ 100000 := by have := linesL_len s; omega
    gi_wp2_with (gi_at_builtin; refine wpListIn_append_own _ rfl _ _ 36 rfl (w.heap.size + 1) 9 i0 (.string ⟨#[]⟩) 1 16 Tryd.underlying36 hi hz0 hz1 hz2 rfl (by decide) _ _ _ rfl (hrow.alloc _) ⟨W.heap.size, 0, none⟩ 1 1 [.string ⟨x.toArray⟩] rfl rfl (cellOneNew _ _ _) (by simp [Value.oneCell']) (by simp only [maxLen]; omega) (by omega) (by have := hI.size; simp; omega) ?_; intro v' w1 hown' hgrow _; obtain ⟨g', cap', rfl⟩ := ownsRow_succ hown'; obtain ⟨hv1, hk2, hI2, hc2, hf2⟩ := hI.add hAl hv hrow hown' hgrow; have hc1 := hv1.cell; have hf1 := hv1.frozen)
    exact ⟨hk2, hI2, hc2, hf2⟩
  case done =>
    intro W hI hD hb
    exact hQ W _ hI (by simp) hD
end Go.Proofs
