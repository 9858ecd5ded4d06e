/-
  Walks of Decode and of ref12.Make. No condition but those that each theorem names.
-/
import Derived.Test.YtmgjidfafnajnaaDoorBXC
import Derived.Laws.EntriesVeiled
import Derived.Laws.ResultCell
namespace Go.Proofs
open Go.RowKit Go.LS Go.Deep
set_option linter.all false

def fillTo (word : List Int) (k : Nat) : List Int := word.mapIdx fun i c => if i < k ∧ c = -1 then 0 else c
def ersTo (word : List Int) (k : Nat) : List Nat := (List.range k).filter fun i => word.getD i 0 == -1
def wholeTo (word : List Int) (k : Nat) : List Nat := (List.range k).filter fun i => word.getD i 0 != -1
theorem fillTo_get (word : List Int) (k i : Nat) (h : i < word.length) : (fillTo word k).getD i 0 = if i < k ∧ word.getD i 0 = -1 then 0 else word.getD i 0 := by
  simp [fillTo, List.getD_eq_getElem?_getD, List.getElem?_eq_getElem h]
theorem ersTo_step (word : List Int) (k : Nat) : ersTo word (k + 1) = ersTo word k ++ (if word.getD k 0 = -1 then [k] else []) := by
  unfold ersTo
  rw [List.range_succ, List.filter_append]
  congr 1
  by_cases h : word.getD k 0 = -1
  · rw [if_pos h, List.filter_cons_of_pos (by simpa using h)]; rfl
  · rw [if_neg h, List.filter_cons_of_neg (by simpa using h)]; rfl
theorem wholeTo_step (word : List Int) (k : Nat) : wholeTo word (k + 1) = wholeTo word k ++ (if word.getD k 0 = -1 then [] else [k]) := by
  unfold wholeTo
  rw [List.range_succ, List.filter_append]
  congr 1
  by_cases h : word.getD k 0 = -1
  · rw [if_pos h, List.filter_cons_of_neg (by simpa using h)]; rfl
  · rw [if_neg h, List.filter_cons_of_pos (by simpa using h)]; rfl
theorem ersTo_len (word : List Int) (k : Nat) : (ersTo word k).length ≤ k := by
  unfold ersTo
  exact Nat.le_trans (List.length_filter_le _ _) (by simp)
theorem wholeTo_len (word : List Int) (k : Nat) : (wholeTo word k).length ≤ k := by
  unfold wholeTo
  exact Nat.le_trans (List.length_filter_le _ _) (by simp)
def rowI (l : List Int) : Nat → Value := fun i => .int .i64 (l.getD i 0)
structure FillW (w wr : World) (B bW bD bP bH n : Nat) (fc : Nat → Value) (wv : Value) (es hs : List Nat) (pv hv : Value) : Prop where
  since : w.Since B wr
  ord : B ≤ bW ∧ bW < bD ∧ bD < bP ∧ bP < bH ∧ bH < wr.heap.size
  word : ValsAt wr bW 1 (fun _ => wv)
  fill : ValsAt wr bD n fc
  placesV : ValsAt wr bP 1 (fun _ => pv)
  wholeV : ValsAt wr bH 1 (fun _ => hv)
  ownP : wr.ownsRow B 3 1 pv es.length (intV es)
  ownH : wr.ownsRow B 3 1 hv hs.length (intV hs)
  farP : ∀ x, pv.ownBlock = some x → bH < x
  farH : ∀ x, hv.ownBlock = some x → bH < x
  apart : ∀ x, pv.ownBlock = some x → hv.ownBlock ≠ some x
variable {w wr : World} {B bW bD bP bH n : Nat} {fc : Nat → Value} {wv : Value} {es hs : List Nat} {pv hv : Value}
theorem FillW.setF (h : FillW w wr B bW bD bP bH n fc wv es hs pv hv) (i : Nat) (v : Value) : FillW w (wr.setCell ⟨bD, i, none⟩ v) B bW bD bP bH n (fun j => if j = i then v else fc j) wv es hs pv hv := by
  obtain ⟨o1, o2, o3, o4, o5⟩ := h.ord
  refine ⟨h.since.setCell (by show B ≤ bD; omega) _, ⟨o1, o2, o3, o4, by simpa [World.setCell] using o5⟩, h.word.setOther (by show bW ≠ bD; omega) _, h.fill.set i v, h.placesV.setOther (by show bP ≠ bD; omega) _, h.wholeV.setOther (by show bH ≠ bD; omega) _, own_setOther h.ownP ?_ _, own_setOther h.ownH ?_ _, h.farP, h.farH, h.apart⟩
  · cases hb : pv.ownBlock with
    | none => exact .inl rfl
    | some x => right; intro e; have := h.farP x hb; have := Option.some.inj e; omega
  · cases hb : hv.ownBlock with
    | none => exact .inl rfl
    | some x => right; intro e; have := h.farH x hb; have := Option.some.inj e; omega
theorem FillW.congr (h : FillW w wr B bW bD bP bH n fc wv es hs pv hv) {g : Nat → Value} (e : ∀ i, i < n → fc i = g i) : FillW w wr B bW bD bP bH n g wv es hs pv hv :=
  ⟨h.since, h.ord, h.word, h.fill.congr e, h.placesV, h.wholeV, h.ownP, h.ownH, h.farP, h.farH, h.apart⟩
theorem FillW.pushP (h : FillW w wr B bW bD bP bH n fc wv es hs pv hv) {w1 : World} {g cap x : Nat} {o : Obj} (hown : w1.ownsRow B 3 1 (.slice (some ⟨g, 0, none⟩) (es.length + 1) cap) (es.length + 1) (intV es ++ [.int .i64 (x : Int)])) (hg0 : (wr.alloc o).grownBy w1 pv.ownBlock) (hat : pv.ownBlock = some g ∨ g = (wr.alloc o).heap.size) :
    FillW w (w1.setCell ⟨bP, 0, none⟩ (.slice (some ⟨g, 0, none⟩) (es.length + 1) cap)) B bW bD bP bH n fc wv (es ++ [x]) hs (.slice (some ⟨g, 0, none⟩) (es.length + 1) cap) hv := by
  have hg : wr.grownBy w1 pv.ownBlock := grow_alloc (o := o) ⟨hg0.os, hg0.tape, hg0.output, hg0.size, hg0.block⟩
  obtain ⟨o1, o2, o3, o4, o5⟩ := h.ord
  have hne : ∀ k, k ≤ bH → some k ≠ pv.ownBlock := fun k hk e => by have := h.farP k e.symm; omega
  have hb : ∀ k, k ≤ bH → w1.heap[k]? = wr.heap[k]? := fun k hk => hg.block k (by omega) (hne k hk)
  have hgH : bH < g := by
    rcases hat with e | e
    · exact h.farP g e
    · simp at e; omega
  have hH1 : w1.ownsRow B 3 1 hv hs.length (intV hs) := h.ownH.kept hg (by
    cases hb : hv.ownBlock with
    | none => exact .inl rfl
    | some x =>
      right; intro e
      exact h.apart x e.symm hb)
  refine ⟨(h.since.grown hg (by omega) (fun k hk => (h.ownP.lt k hk).1)).setCell (by show B ≤ bP; omega) _, ⟨o1, o2, o3, o4, by have := hg.size; simp [World.setCell]; omega⟩, (h.word.of_block (hb _ (by omega))).setOther (by show bW ≠ bP; omega) _, (h.fill.of_block (hb _ (by omega))).setOther (by show bD ≠ bP; omega) _, ((h.placesV.of_block (hb _ (by omega))).set 0 _).congr (fun i hi => by rw [if_pos (by omega)]), (h.wholeV.of_block (hb _ (by omega))).setOther (by show bH ≠ bP; omega) _, own_setOther (by rw [List.length_append, List.length_singleton, intV_app]; exact hown) (.inr (by intro e; have : g = bP := Option.some.inj e; omega)) _, own_setOther hH1 ?_ _, fun x hx => (show g = x from Option.some.inj hx) ▸ hgH, h.farH, fun x hx e => ?_⟩
  · cases hb : hv.ownBlock with
    | none => exact .inl rfl
    | some x => right; intro e; have := h.farH x hb; have := Option.some.inj e; omega
  · have : g = x := Option.some.inj hx
    subst this
    rcases hat with e1 | e1
    · exact h.apart g e1 e
    · have := (h.ownH.lt g e).2; simp at e1; omega
theorem FillW.pushH (h : FillW w wr B bW bD bP bH n fc wv es hs pv hv) {w1 : World} {g cap x : Nat} {o : Obj} (hown : w1.ownsRow B 3 1 (.slice (some ⟨g, 0, none⟩) (hs.length + 1) cap) (hs.length + 1) (intV hs ++ [.int .i64 (x : Int)])) (hg0 : (wr.alloc o).grownBy w1 hv.ownBlock) (hat : hv.ownBlock = some g ∨ g = (wr.alloc o).heap.size) :
    FillW w (w1.setCell ⟨bH, 0, none⟩ (.slice (some ⟨g, 0, none⟩) (hs.length + 1) cap)) B bW bD bP bH n fc wv es (hs ++ [x]) pv (.slice (some ⟨g, 0, none⟩) (hs.length + 1) cap) := by
  have hg : wr.grownBy w1 hv.ownBlock := grow_alloc (o := o) ⟨hg0.os, hg0.tape, hg0.output, hg0.size, hg0.block⟩
  obtain ⟨o1, o2, o3, o4, o5⟩ := h.ord
  have hne : ∀ k, k ≤ bH → some k ≠ hv.ownBlock := fun k hk e => by have := h.farH k e.symm; omega
  have hb : ∀ k, k ≤ bH → w1.heap[k]? = wr.heap[k]? := fun k hk => hg.block k (by omega) (hne k hk)
  have hgH : bH < g := by
    rcases hat with e | e
    · exact h.farH g e
    · simp at e; omega
  have hP1 : w1.ownsRow B 3 1 pv es.length (intV es) := h.ownP.kept hg (by
    cases hb : pv.ownBlock with
    | none => exact .inl rfl
    | some x =>
      right; intro e
      exact h.apart x hb e.symm)
  refine ⟨(h.since.grown hg (by omega) (fun k hk => (h.ownH.lt k hk).1)).setCell (by show B ≤ bH; omega) _, ⟨o1, o2, o3, o4, by have := hg.size; simp [World.setCell]; omega⟩, (h.word.of_block (hb _ (by omega))).setOther (by show bW ≠ bH; omega) _, (h.fill.of_block (hb _ (by omega))).setOther (by show bD ≠ bH; omega) _, (h.placesV.of_block (hb _ (by omega))).setOther (by show bP ≠ bH; omega) _, ((h.wholeV.of_block (hb _ (by omega))).set 0 _).congr (fun i hi => by rw [if_pos (by omega)]), own_setOther hP1 ?_ _, own_setOther (by rw [List.length_append, List.length_singleton, intV_app]; exact hown) (.inr (by intro e; have : g = bH := Option.some.inj e; omega)) _, h.farP, fun x hx => (show g = x from Option.some.inj hx) ▸ hgH, fun x hx e => ?_⟩
  · cases hb : pv.ownBlock with
    | none => exact .inl rfl
    | some x => right; intro e; have := h.farP x hb; have := Option.some.inj e; omega
  · have : g = x := Option.some.inj e
    subst this
    rcases hat with e1 | e1
    · exact h.apart g hx e1
    · have := (h.ownP.lt g hx).2; simp at e1; omega
theorem addAt_snoc : ∀ (ps vs w : List Nat) (p x : Nat), ps.length = vs.length → addAt w (ps ++ [p]) (vs ++ [x]) = (addAt w ps vs).set p ((addAt w ps vs).getD p 0 ^^^ x)
  | [], [], w, p, x, _ => rfl
  | q :: ps, v :: vs, w, p, x, h => by
    show addAt (w.set q (w.getD q 0 ^^^ v)) (ps ++ [p]) (vs ++ [x]) = _
    rw [addAt_snoc ps vs _ p x (by simpa using h)]
    rfl
end Go.Proofs
namespace Go.Proofs
open Go.RowKit Go.LS Go.Deep
set_option linter.all false

def intW (l : List Int) : List Value := l.map (Value.int .i64)
theorem intW_len (l : List Int) : (intW l).length = l.length := by simp [intW]
theorem intW_get (l : List Int) (i : Nat) (h : i < l.length) : (intW l)[i]? = some (.int .i64 (l.getD i 0)) := by
  unfold intW; rw [List.getElem?_map, List.getD_eq_getElem?_getD, List.getElem?_eq_getElem h]; rfl
theorem intW_one (l : List Int) : ∀ u ∈ intW l, u.oneCell' = true := by
  intro u hu
  obtain ⟨x, _, rfl⟩ := List.mem_map.1 hu
  rfl
theorem vals_own {w : World} {B e g cap n : Nat} {l : List Int} (h : w.ownsRow B e 1 (.slice (some ⟨g, 0, none⟩) n cap) n (intW l)) : ValsAt w g n (rowI l) := by
  rcases h.2 with ⟨h1, _⟩ | ⟨g', cap', cur, e1, hb, hc, hn, hm, hs, ht⟩
  · cases h1
  · cases e1
    have hl : n ≤ l.length := by have := h.1; rw [intW_len] at this; omega
    refine ⟨cur, e, hc, fun i hi => ?_⟩
    have : (cur.toList.take (n * 1))[i]? = (intW l)[i]? := by rw [ht]
    rw [List.getElem?_take, if_pos (by omega), intW_get l i (by omega)] at this
    rw [← Array.getElem?_toList, this]; rfl
theorem fillTo_zero (word : List Int) : fillTo word 0 = word := by
  unfold fillTo
  apply List.ext_getElem
  · simp
  · intro i h1 h2; simp
theorem two_nil {w : World} {a : Nat} {u : Value} (h : a < w.heap.size) (c : w.cell? ⟨a, 0, none⟩ = some u) : ((w.alloc (.cells #[.slice none 0 0] 22)).alloc (.cells #[.slice none 0 0] 22)).cell? ⟨a, 0, none⟩ = some u :=
  (World.cell?_alloc_lt (w.alloc _) _ ⟨a, 0, none⟩ (by show a < _; simp; omega)).trans ((World.cell?_alloc_lt w _ ⟨a, 0, none⟩ h).trans c)
theorem ValsAt.alloc {w : World} {b n : Nat} {f : Nat → Value} (h : ValsAt w b n f) (o : Obj) : ValsAt (w.alloc o) b n f := h.of_block (Below.heap_alloc w o b h.lt)
theorem valsNew (w : World) (c : Array Value) (t : TypeId) (n : Nat) (f : Nat → Value) (hc : ∀ i, i < n → c[i]? = some (f i)) : ValsAt (w.alloc (.cells c t)) w.heap.size n f := ⟨c, t, heap_alloc_new _ _, hc⟩
theorem fill_start {w w3 : World} {B bW bD n : Nat} {fc : Nat → Value} {wv : Value} (hS : w.Since B w3) (h1 : B ≤ bW) (h2 : bW < bD) (h3 : bD < w3.heap.size) (hW : ValsAt w3 bW 1 (fun _ => wv)) (hD : ValsAt w3 bD n fc) :
    FillW w ((w3.alloc (.cells #[.slice none 0 0] 22)).alloc (.cells #[.slice none 0 0] 22)) B bW bD w3.heap.size (w3.heap.size + 1) n fc wv [] [] (.slice none 0 0) (.slice none 0 0) := by
  have hz : (w3.alloc (.cells #[.slice none 0 0] 22)).heap.size = w3.heap.size + 1 := by simp
  have hg : ∀ i, i < 1 → (#[.slice none 0 0] : Array Value)[i]? = some ((fun _ => Value.slice none 0 0) i) := fun i hi => by
    match i, hi with
    | 0, _ => rfl
  refine ⟨(hS.alloc (by omega) _).alloc (by omega) _, ⟨h1, h2, h3, by omega, by simp⟩, (hW.alloc _).alloc _, (hD.alloc _).alloc _, (valsNew w3 _ _ 1 _ hg).alloc _, ?_, World.ownsRow_nil _ _ _ _, World.ownsRow_nil _ _ _ _, (fun x hx => by cases hx), (fun x hx => by cases hx), (fun x hx => by cases hx)⟩
  have := valsNew (w3.alloc (.cells #[.slice none 0 0] 22)) #[.slice none 0 0] 22 1 (fun _ => .slice none 0 0) hg
  rw [hz] at this
  exact this
theorem fill_end {word : List Int} (hr : ∀ i, i < word.length → -1 ≤ word.getD i 0 ∧ word.getD i 0 < 32) (i : Nat) (h : i < word.length) : rowI (fillTo word word.length) i = intF (fillOf word) i := by
  unfold rowI intF
  rw [fillTo_get _ _ _ h]
  have hh := hr i h
  have : (fillOf word).getD i 0 = if word.getD i 0 = -1 then 0 else (word.getD i 0).toNat := by
    simp [fillOf, List.getD_eq_getElem?_getD, List.getElem?_eq_getElem h]
  rw [this]
  by_cases e : word.getD i 0 = -1
  · rw [if_pos ⟨h, e⟩, if_pos e]; rfl
  · rw [if_neg (fun h => e h.2), if_neg e]
    congr 1; omega
theorem fillOf_len (word : List Int) : (fillOf word).length = word.length := by simp [fillOf]
theorem dec_start {w wr w5 : World} {B bW bD bP bH n : Nat} {fc : Nat → Value} {wv : Value} {es hs : List Nat} {pv hv : Value} (h : FillW w wr B bW bD bP bH n fc wv es hs pv hv) (hS : wr.Since wr.heap.size w5) (s0 s1 s2 s3 s4 s5 : Nat) :
    DecW w (((w5.alloc (.cells #[.int .i64 (s0 : Int), .int .i64 (s1 : Int), .int .i64 (s2 : Int), .int .i64 (s3 : Int), .int .i64 (s4 : Int), .int .i64 (s5 : Int)] 79)).alloc (.cells #[.slice none 0 0] 22)).alloc (.cells #[searchV w5.heap.size bW bP (w5.heap.size + 1) bH (w5.heap.size + 1 + 1)] 103)) B bW bP bH w5.heap.size (w5.heap.size + 1) (w5.heap.size + 1 + 1) bD n fc wv hv [s0, s1, s2, s3, s4, s5] hs es pv (.slice none 0 0) := by
  obtain ⟨o1, o2, o3, o4, o5⟩ := h.ord
  have hb : ∀ k, k ≤ bH → w5.heap[k]? = wr.heap[k]? := fun k hk => hS.block k (by omega)
  have hz := hS.size
  have hz1 : (w5.alloc (.cells #[.int .i64 (s0 : Int), .int .i64 (s1 : Int), .int .i64 (s2 : Int), .int .i64 (s3 : Int), .int .i64 (s4 : Int), .int .i64 (s5 : Int)] 79)).heap.size = w5.heap.size + 1 := by simp
  have hz2 : ((w5.alloc (.cells #[.int .i64 (s0 : Int), .int .i64 (s1 : Int), .int .i64 (s2 : Int), .int .i64 (s3 : Int), .int .i64 (s4 : Int), .int .i64 (s5 : Int)] 79)).alloc (.cells #[.slice none 0 0] 22)).heap.size = w5.heap.size + 1 + 1 := by simp
  have one : ∀ (x : Value) i, i < 1 → (#[x] : Array Value)[i]? = some ((fun _ => x) i) := fun x i hi => by
    match i, hi with
    | 0, _ => rfl
  have hsum := valsNew w5 #[.int .i64 (s0 : Int), .int .i64 (s1 : Int), .int .i64 (s2 : Int), .int .i64 (s3 : Int), .int .i64 (s4 : Int), .int .i64 (s5 : Int)] 79 6 (intF [s0, s1, s2, s3, s4, s5]) (fun i hi => by
    match i, hi with
    | 0, _ => rfl
    | 1, _ => rfl
    | 2, _ => rfl
    | 3, _ => rfl
    | 4, _ => rfl
    | 5, _ => rfl)
  have hval := valsNew (w5.alloc (.cells #[.int .i64 (s0 : Int), .int .i64 (s1 : Int), .int .i64 (s2 : Int), .int .i64 (s3 : Int), .int .i64 (s4 : Int), .int .i64 (s5 : Int)] 79)) #[.slice none 0 0] 22 1 (fun _ => .slice none 0 0) (one _)
  have hfn := valsNew ((w5.alloc (.cells #[.int .i64 (s0 : Int), .int .i64 (s1 : Int), .int .i64 (s2 : Int), .int .i64 (s3 : Int), .int .i64 (s4 : Int), .int .i64 (s5 : Int)] 79)).alloc (.cells #[.slice none 0 0] 22)) #[searchV w5.heap.size bW bP (w5.heap.size + 1) bH (w5.heap.size + 1 + 1)] 103 1 (fun _ => searchV w5.heap.size bW bP (w5.heap.size + 1) bH (w5.heap.size + 1 + 1)) (one _)
  rw [hz1] at hval
  rw [hz2] at hfn
  have far : ∀ v : Value, (∀ x, v.ownBlock = some x → bH < x) → (∀ x, v.ownBlock = some x → x < wr.heap.size) → ∀ x, v.ownBlock = some x → x ≠ bW ∧ x ≠ bP ∧ x ≠ bH ∧ x ≠ w5.heap.size ∧ x ≠ w5.heap.size + 1 ∧ x ≠ w5.heap.size + 1 + 1 ∧ x ≠ bD := by
    intro v h1 h2 x hx
    have a := h1 x hx
    have b := h2 x hx
    omega
  refine ⟨((((h.since.trans (sinceMono hS (by omega))).alloc (by omega) _).alloc (by omega) _).alloc (by omega) _), ⟨o1, o2, o3, o4, by omega, by omega, by omega, by simp⟩, (((h.word.of_block (hb _ (by omega))).alloc _).alloc _).alloc _, (((h.fill.of_block (hb _ (by omega))).alloc _).alloc _).alloc _, (hsum.alloc _).alloc _, (((h.wholeV.of_block (hb _ (by omega))).alloc _).alloc _).alloc _, hfn, (((h.placesV.of_block (hb _ (by omega))).alloc _).alloc _).alloc _, hval.alloc _, (((own_keep h.ownP hS).alloc _).alloc _).alloc _, (((own_keep h.ownH hS).alloc _).alloc _).alloc _, far pv h.farP (fun x hx => (h.ownP.lt x hx).2), far hv h.farH (fun x hx => (h.ownH.lt x hx).2), ?_⟩
  cases hb : hv.ownBlock with
  | none => exact .inl rfl
  | some x => right; intro e; exact h.apart x e.symm hb
theorem decL_some {f : List Nat → Option (List Nat)} {ers whole : List Nat} {m q : Nat} {r : Nat × List Nat × List Nat} (h : decL f ers whole m q = some r) :
    0 < m ∧ 2 * q + ers.length ≤ 6 ∧ ((∃ p, srch f whole q ers = some p ∧ r = (q, p.1, p.2)) ∨ (srch f whole q ers = none ∧ decL f ers whole (m - 1) (q + 1) = some r)) := by
  cases m with
  | zero => cases h
  | succ m =>
    simp only [decL] at h
    split at h
    · rename_i hc
      refine ⟨by omega, hc, ?_⟩
      cases hs : srch f whole q ers with
      | none => rw [hs] at h; exact .inr ⟨rfl, h⟩
      | some p => rw [hs] at h; exact .inl ⟨p, rfl, (Option.some.inj h).symm⟩
    · cases h
set_option maxHeartbeats 16000000 in
set_option maxRecDepth 100000 in
theorem Tryd.Decode_walk (word : List Int) (b o cap : Nat) (w : World) (ht : TabsAt w) (h2 : 2 ≤ w.heap.size) (hb : b < w.heap.size) (hw : IntsAt w b o word) (h7 : 7 ≤ word.length) (h15 : word.length ≤ 15) (hr : ∀ i, i < word.length → -1 ≤ word.getD i 0 ∧ word.getD i 0 < 32)
    (kk : Nat) (pl v : List Nat) (hdec : decP word = some (kk, pl, v)) (hpn : ∀ i ∈ pl, i < word.length) (hpv : pl.length = v.length) (hvs : Sml v) :
    Calls Tryd.prog 30 #[.slice (some ⟨b, o, none⟩) word.length cap] w fun e w' => ∃ D : Nat, e = .returned (.tuple #[.slice (some ⟨D, 0, none⟩) (word.length - 6) (word.length - 6), .int .i64 (kk : Int), .int .i64 0]) ∧ w.Since w.heap.size w' ∧ w.heap.size ≤ D ∧ ValsAt w' D word.length (intF (addAt (fillOf word) pl v)) := by
  obtain ⟨i3, hi3, hz30, hz31, hz32⟩ := info_parts Tryd.info3
  have hs1 := (World.Since.refl w.heap.size w).alloc (Nat.le_refl _) (.cells #[.slice (some ⟨b, o, none⟩) word.length cap] 22)
  have hv1 : ValsAt (w.alloc (.cells #[.slice (some ⟨b, o, none⟩) word.length cap] 22)) w.heap.size 1 (fun _ => .slice (some ⟨b, o, none⟩) word.length cap) := ⟨_, _, heap_alloc_new _ _, fun i hi => by
    match i, hi with
    | 0, _ => rfl⟩
  have hz1 : (w.alloc (.cells #[.slice (some ⟨b, o, none⟩) word.length cap] 22)).heap.size = w.heap.size + 1 := by simp
  obtain ⟨w1, hw1⟩ : ∃ w1, w.alloc (.cells #[.slice (some ⟨b, o, none⟩) word.length cap] 22) = w1 := ⟨_, rfl⟩
  rw [hw1] at hs1 hv1 hz1
  have hw1' : IntsAt w1 b o word := fun i hi => (hs1.cell (a := ⟨b, o + i, none⟩) hb).trans (hw i hi)
  have hiw := fun c => Tryd.isWord_walk word (-1) b o c w1 (by omega) hw1' h7 h15 hr
  have hcl : ∀ w2 : World, w1.Since w1.heap.size w2 → ∀ c, Calls Tryd.prog 45 #[.slice (some ⟨b, o, none⟩) word.length c] w2 fun e w' => ∃ v, e = .returned v ∧ w2.Since w2.heap.size w' ∧ w'.ownsRow w2.heap.size 3 1 v word.length (intW word) ∧ v ≠ .slice none 0 0 := by
    intro w2 h c
    have := Tryd.clone_walk b o c (intW word) w2 (fun j u hu => by
      have hj : j < word.length := by have := (List.getElem?_eq_some_iff.1 hu).1; rwa [intW_len] at this
      rw [intW_get word j hj] at hu
      cases hu
      exact (h.cell (a := ⟨b, o + j, none⟩) (by show b < _; omega)).trans (hw1' j hj)) (intW_one _) (by rw [intW_len]; omega)
    rw [intW_len] at this
    exact this
  have c1 := hv1.cell (i := 0) (by decide)
  have c2 : ∀ w2 : World, w1.Since w1.heap.size w2 → w2.cell? ⟨w.heap.size, 0, none⟩ = some (.slice (some ⟨b, o, none⟩) word.length cap) := fun w2 h => (h.cell (a := ⟨w.heap.size, 0, none⟩) (by show w.heap.size < _; omega)).trans c1
  go_enter Tryd.func30, Tryd.ntmps30
  go_wp2_with (first
    | (go_at_call 27; refine (hiw _).mono ?_; rintro e w2 ⟨rfl, hS2⟩; have cc2 := c2 w2 hS2)
    | (go_at_call 45; refine (hcl _ hS2 _).mono ?_; rintro e w3 ⟨v3, rfl, hS3, hO3, hn3⟩; obtain ⟨ao3, fcap, rfl, hf3⟩ := own_form0 hO3; obtain ⟨bD, rfl, hD3, _⟩ := hf3 (by omega); have cc3 := c2 w3 (hS2.trans (sinceMono hS3 hS2.size)); have cc4 := two_nil (w := w3) (by have := hS2.size; have := hS3.size; omega) cc3))
  have hS13 : w1.Since w1.heap.size w3 := hS2.trans (sinceMono hS3 hS2.size)
  have hDl := (hO3.lt bD rfl).1
  have hsz2 := hS2.size
  have hF0 := fill_start (w := w) (w3 := w3) (B := w.heap.size) (bW := w.heap.size) (bD := bD) (n := word.length) (fc := rowI word) (wv := .slice (some ⟨b, o, none⟩) word.length cap) (hs1.trans (sinceMono hS13 (by omega))) (Nat.le_refl _) (by omega) hD3 (hv1.of_block (hS13.block _ (by omega))) (vals_own hO3)
  have hfcap := own_cap hO3
  clear hO3 hf3 hn3 hcl hiw c1 c2 cc2 cc3 cc4
  generalize (w3.alloc (.cells #[.slice none 0 0] 22)).alloc (.cells #[.slice none 0 0] 22) = w4 at hF0 ⊢
  obtain ⟨bP, hbP⟩ : ∃ bP, w3.heap.size = bP := ⟨_, rfl⟩
  obtain ⟨bH, hbH⟩ : ∃ bH, bP + 1 = bH := ⟨_, rfl⟩
  rw [hbP, hbH] at hF0 ⊢
  rw [hbP] at hD3
  clear hbP hbH
  go_loopw [24] (fun u wi => ∃ (k : Nat) (pv hv : Value), k ≤ word.length ∧ u = .int .i64 k ∧ FillW w wi w.heap.size w.heap.size bD bP bH word.length (rowI (fillTo word k)) (.slice (some ⟨b, o, none⟩) word.length cap) (ersTo word k) (wholeTo word k) pv hv) (fun u _ => word.length - (RowKit.intOf u).toNat)
  case atStart => exact ⟨0, _, _, Nat.zero_le _, rfl, by rw [fillTo_zero]; exact hF0⟩
  case round =>
    obtain ⟨k, pv, hv, hk, rfl, hI⟩ := hrel
    obtain ⟨o1, o2, o3, o4, o5⟩ := hI.ord
    by_cases hkl : k < word.length
    · have hcell : wr.cell? ⟨b, o + k, none⟩ = some (.int .i64 (word.getD k 0)) := (hI.since.cell (a := ⟨b, o + k, none⟩) hb).trans (hw k hkl)
      have hki : (k : Int) < (word.length : Int) := by omega
      have hel := ersTo_len word k
      have hwl := wholeTo_len word k
      by_cases hneg : word.getD k 0 = -1
      · rw [hneg] at hcell
        have hFs := hI.setF k (.int .i64 0)
        have hfl := hI.fill.cell hkl
        have hff := hI.fill.frozen k
        have cP := hFs.placesV.cell (i := 0) (by decide)
        have fP := hFs.placesV.frozen 0
        have hown := hFs.ownP
        have hbB : w.heap.size ≤ (wr.setCell ⟨bD, k, none⟩ (.int .i64 0)).heap.size := by simp [World.setCell]; omega
        have hneP : some bP ≠ pv.ownBlock := fun e => by have := hI.farP bP e.symm; omega
        have hltP : bP < (wr.setCell ⟨bD, k, none⟩ (.int .i64 0)).heap.size := by simp [World.setCell]; omega
        have hnb : ((wr.setCell ⟨bD, k, none⟩ (.int .i64 0)).alloc (.cells #[.int .i64 (k : Int)] 3)).heap[wr.heap.size]? = some (.cells #[.int .i64 (k : Int)] 3 (0, 0)) := by
          have h := heap_alloc_new (wr.setCell ⟨bD, k, none⟩ (.int .i64 0)) (.cells #[.int .i64 (k : Int)] 3)
          rwa [show (wr.setCell ⟨bD, k, none⟩ (.int .i64 0)).heap.size = wr.heap.size by simp [World.setCell]] at h
        go_wp2_with (refine wpList_append_lies _ rfl _ _ 22 rfl w.heap.size 3 i3 (.int .i64 0) 1 8 Tryd.underlying22 hi3 hz30 hz31 hz32 rfl (by decide) pv _ _ rfl (hown.alloc _) ⟨wr.heap.size, 0, none⟩ 1 1 [.int .i64 (k : Int)] rfl rfl (World.news_of_block (cs := #[.int .i64 (k : Int)]) (t := 3) (fr := (0, 0)) hnb) (by simp [Value.oneCell']) (by omega) (by unfold maxLen; omega) (by omega) (by simp; omega) _ rfl ?_; intro gg ncap wA hownA hgrow hat hlt; have hfA := (hgrow.cell_far ⟨bP, 0, none⟩ (by simp; omega) hneP).trans ((World.cell?_alloc_past (w := wr.setCell ⟨bD, k, none⟩ (.int .i64 0)) _ _ _ hltP).trans cP); have hfB := (hgrow.frozen_far ⟨bP, 0, none⟩ (by simp; omega) hneP).trans ((World.frozen?_alloc_past (w := wr.setCell ⟨bD, k, none⟩ (.int .i64 0)) _ _ _ hltP).trans fP))
        have hnext := (hFs.pushP hownA hgrow hat).congr (g := rowI (fillTo word (k + 1))) (fun i hi => by
          unfold rowI
          rw [fillTo_get _ _ _ hi, fillTo_get _ _ _ hi]
          by_cases e : i = k
          · subst e; rw [if_pos rfl, if_pos ⟨by omega, hneg⟩]
          · rw [if_neg e]
            by_cases e2 : i < k ∧ word.getD i 0 = -1
            · rw [if_pos e2, if_pos ⟨by omega, e2.2⟩]
            · rw [if_neg e2, if_neg (fun h => e2 ⟨by omega, h.2⟩)])
        have e1 : ersTo word k ++ [k] = ersTo word (k + 1) := by rw [ersTo_step, if_pos hneg]
        have e2 : wholeTo word k = wholeTo word (k + 1) := by rw [wholeTo_step, if_pos hneg, List.append_nil]
        rw [e1, e2] at hnext
        exact ⟨⟨k + 1, _, _, by omega, by simp, hnext⟩, by simp [RowKit.intOf]; omega⟩
      · have hnb1 : (word.getD k 0 == -1) = false := by simpa using hneg
        have hgk : fillTo word k = fillTo word (k + 1) := by
          apply List.ext_getElem
          · simp [fillTo]
          · intro i h1 h2
            have hi : i < word.length := by simpa [fillTo] using h1
            have := fillTo_get word k i hi
            have h' := fillTo_get word (k + 1) i hi
            rw [List.getD_eq_getElem?_getD, List.getElem?_eq_getElem h1] at this
            rw [List.getD_eq_getElem?_getD, List.getElem?_eq_getElem h2] at h'
            show (some (fillTo word k)[i]).getD 0 = (some (fillTo word (k + 1))[i]).getD 0
            rw [this, h']
            by_cases e : i = k
            · subst e; rw [if_neg (fun h => hneg h.2), if_neg (fun h => hneg h.2)]
            · by_cases e2 : i < k ∧ word.getD i 0 = -1
              · rw [if_pos e2, if_pos ⟨by omega, e2.2⟩]
              · rw [if_neg e2, if_neg (fun h => e2 ⟨by omega, h.2⟩)]
        have e1 : ersTo word k = ersTo word (k + 1) := by rw [ersTo_step, if_neg hneg, List.append_nil]
        have e2 : wholeTo word k ++ [k] = wholeTo word (k + 1) := by rw [wholeTo_step, if_neg hneg]
        have cP := hI.wholeV.cell (i := 0) (by decide)
        have fP := hI.wholeV.frozen 0
        have hown := hI.ownH
        have hneP : some bH ≠ hv.ownBlock := fun e => by have := hI.farH bH e.symm; omega
        have hpush := fun (w1 : World) (g cap : Nat) a b c => hI.pushH (w1 := w1) (g := g) (cap := cap) (x := k) (o := .cells #[.int .i64 (k : Int)] 3) a b c
        rw [e1, e2, hgk] at hpush
        have hnl : (wholeTo word k).length = (wholeTo word k).length := rfl
        generalize hc : word.getD k 0 = c at hcell hneg hnb1
        clear hc hgk
        go_wp2_with (refine wpList_append_lies _ rfl _ _ 22 rfl w.heap.size 3 i3 (.int .i64 0) 1 8 Tryd.underlying22 hi3 hz30 hz31 hz32 rfl (by decide) hv _ _ rfl (hown.alloc _) ⟨wr.heap.size, 0, none⟩ 1 1 [.int .i64 (k : Int)] rfl rfl (World.news_of_block (cs := #[.int .i64 (k : Int)]) (t := 3) (fr := (0, 0)) (heap_alloc_new wr _)) (by simp [Value.oneCell']) (by omega) (by unfold maxLen; omega) (by omega) (by simp; omega) _ rfl ?_; intro gg ncap wA hownA hgrow hat hlt; have hfA := (hgrow.cell_far ⟨bH, 0, none⟩ (by simp; omega) hneP).trans ((World.cell?_alloc_past (w := wr) _ _ _ o5).trans cP); have hfB := (hgrow.frozen_far ⟨bH, 0, none⟩ (by simp; omega) hneP).trans ((World.frozen?_alloc_past (w := wr) _ _ _ o5).trans fP))
        exact ⟨⟨k + 1, _, _, by omega, by simp, hpush _ _ _ hownA hgrow hat⟩, by simp [RowKit.intOf]; omega⟩
    · have hke : k = word.length := by omega
      subst hke
      have hI2 := hI.congr (g := intF (fillOf word)) (fun i hi => fill_end hr i hi)
      clear hI
      have hfl := fillOf_len word
      have hsm : Sml (fillOf word) := fill_sml (fun x hx => by
        obtain ⟨i, hi, rfl⟩ := List.mem_iff_getElem.1 hx
        have := hr i hi
        rw [List.getD_eq_getElem?_getD, List.getElem?_eq_getElem hi] at this
        simp at this
        by_cases e : word[i] = -1
        · exact .inl e
        · right; omega)
      have hwn : ∀ i ∈ wholeTo word word.length, i < word.length := fun i hi => List.mem_range.1 (List.mem_filter.1 hi).1
      have hen : ∀ i ∈ ersTo word word.length, i < word.length := fun i hi => List.mem_range.1 (List.mem_filter.1 hi).1
      have hwl := wholeTo_len word word.length
      have hdec' : decL (corrP word.length [syn word.length (fillOf word) 1, syn word.length (fillOf word) 2, syn word.length (fillOf word) 3, syn word.length (fillOf word) 4, syn word.length (fillOf word) 5, syn word.length (fillOf word) 6]) (ersTo word word.length) (wholeTo word word.length) 4 0 = some (kk, pl, v) := hdec
      have hss : Sml [syn word.length (fillOf word) 1, syn word.length (fillOf word) 2, syn word.length (fillOf word) 3, syn word.length (fillOf word) 4, syn word.length (fillOf word) 5, syn word.length (fillOf word) 6] := by
        intro x hx
        simp at hx
        rcases hx with rfl | rfl | rfl | rfl | rfl | rfl <;> exact syn_lt _ _ _
      have hsy : ∀ c, Calls Tryd.prog 28 #[.slice (some ⟨bD, 0, none⟩) word.length c] wr fun e w' => e = .returned (.agg #[.int .i64 (syn word.length (fillOf word) 1 : Int), .int .i64 (syn word.length (fillOf word) 2 : Int), .int .i64 (syn word.length (fillOf word) 3 : Int), .int .i64 (syn word.length (fillOf word) 4 : Int), .int .i64 (syn word.length (fillOf word) 5 : Int), .int .i64 (syn word.length (fillOf word) 6 : Int)]) ∧ wr.Since wr.heap.size w' := by
        intro c
        have := Tryd.syndromes_walk (fillOf word) bD 0 c wr (tabsS ht hI2.since h2) (by omega) (by omega) (by omega) hsm (fun i hi => by rw [Nat.zero_add]; exact hI2.fill.cell (by omega))
        rw [hfl] at this
        exact this
      have hpl0 := hI2.placesV
      generalize syn word.length (fillOf word) 1 = s0 at hdec' hss hsy
      generalize syn word.length (fillOf word) 2 = s1 at hdec' hss hsy
      generalize syn word.length (fillOf word) 3 = s2 at hdec' hss hsy
      generalize syn word.length (fillOf word) 4 = s3 at hdec' hss hsy
      generalize syn word.length (fillOf word) 5 = s4 at hdec' hss hsy
      generalize syn word.length (fillOf word) 6 = s5 at hdec' hss hsy
      obtain ⟨aoP, capP, rfl, haoP⟩ := own_form0 hI2.ownP
      go_wp2_with (first
        | (go_at_call 28; refine (hsy _).mono ?_; rintro e w5 ⟨rfl, hS5⟩; have cP5 := ((hpl0.of_block (hS5.block _ (by omega))).alloc (.cells #[.int .i64 (s0 : Int), .int .i64 (s1 : Int), .int .i64 (s2 : Int), .int .i64 (s3 : Int), .int .i64 (s4 : Int), .int .i64 (s5 : Int)] 79)).cell (i := 0) (by decide)))
      have hD0 := dec_start hI2 hS5 s0 s1 s2 s3 s4 s5
      unfold searchV at hD0
      clear cP5 hpl0 hsy hI2 haoP hF0
      generalize (((w5.alloc (.cells #[.int .i64 (s0 : Int), .int .i64 (s1 : Int), .int .i64 (s2 : Int), .int .i64 (s3 : Int), .int .i64 (s4 : Int), .int .i64 (s5 : Int)] 79)).alloc (.cells #[.slice none 0 0] 22)).alloc (.cells #[.func (.func 54) #[] #[.pointer (some ⟨w5.heap.size, 0, none⟩), .pointer (some ⟨w.heap.size, 0, none⟩), .pointer (some ⟨bP, 0, none⟩), .pointer (some ⟨w5.heap.size + 1, 0, none⟩), .pointer (some ⟨bH, 0, none⟩), .pointer (some ⟨w5.heap.size + 1 + 1, 0, none⟩)]] 103)) = w6 at hD0 ⊢
      generalize w5.heap.size + 1 + 1 = bF at hD0 ⊢
      generalize w5.heap.size + 1 = bV at hD0 ⊢
      generalize w5.heap.size = bS at hD0 ⊢
      generalize hers : ersTo word word.length = ers at *
      generalize hwho : wholeTo word word.length = whole at *
      have hel : ers.length ≤ word.length := by rw [← hers]; exact ersTo_len _ _
      clear hers hwho hdec
      go_loopw [14] (fun u wi => ∃ (q : Nat) (pv vv : Value), q ≤ 4 ∧ u = .int .i64 q ∧ DecW w wi w.heap.size w.heap.size bP bH bS bV bF bD word.length (intF (fillOf word)) (.slice (some ⟨b, o, none⟩) word.length cap) hv [s0, s1, s2, s3, s4, s5] whole ers pv vv ∧ decL (corrP word.length [s0, s1, s2, s3, s4, s5]) ers whole (4 - q) q = some (kk, pl, v)) (fun u _ => 5 - (RowKit.intOf u).toNat)
      case atStart => exact ⟨0, _, _, by omega, rfl, hD0, hdec'⟩
      case round =>
        obtain ⟨q, pv, vv, hq, rfl, hD, hL⟩ := hrel
        obtain ⟨g1, g2, g3⟩ := decL_some hL
        have hcall := Tryd.search_walk h2 ht (by omega) hss (by omega) hwn q 0 ers pv vv wr hD hen (by omega) (Nat.zero_le _)
        have cF := hD.fn.cell (i := 0) (by decide)
        unfold searchV at cF
        have hq6 : 2 * (q : Int) + (ers.length : Int) ≤ 6 := by omega
        have hw2 : IntKind.i64.wrap (2 * (q : Int)) = 2 * (q : Int) := IntWalk.i64_in _ (by omega)
        rw [show ((0 : Nat) : Int) = 0 from rfl] at hcall
        go_wp2_with fail
        go_at_call 54
        refine hcall.mono ?_
        rintro e w7 ⟨ok7, pv7, vv7, ps7, rfl, hD7, hout⟩
        clear hD hcall cF
        rcases hout with ⟨rfl, v7, hs7, hl7, ho7, hb7⟩ | ⟨rfl, rfl, hs7⟩
        · obtain ⟨p, hp1, hp2⟩ | ⟨hp1, _⟩ := g3
          · have hpe : p = (ps7, v7) := by
              have := hp1.symm.trans hs7
              exact Option.some.inj this
            subst hpe
            obtain ⟨rfl, rfl, rfl⟩ : kk = q ∧ pl = ps7 ∧ v = v7 := by
              simp only [Prod.mk.injEq] at hp2
              exact hp2
            obtain ⟨o1, o2, o8, o3, o4, o5, o6, o7⟩ := hD7.ord
            have cP := hD7.places.cell (i := 0) (by decide)
            have hpl6 : pl.length ≤ 6 := by
              obtain ⟨s, a1, a2, a3, a4⟩ := srch_some _ _ _ _ _ _ hs7
              rw [a3, List.length_append]; omega
            obtain ⟨aoP7, capP7, rfl, hfP⟩ := own_form0 hD7.ownP
            obtain ⟨aoV7, capV7, rfl, hfV⟩ := own_form0 ho7
            clear hl7 hp2
            go_wp2
            go_loopw [61] (fun u wi => ∃ (i : Nat), i ≤ pl.length ∧ u = .int .i64 i ∧ DecW w wi w.heap.size w.heap.size bP bH bS bV bF bD word.length (intF (addAt (fillOf word) (pl.take i) (v.take i))) (.slice (some ⟨b, o, none⟩) word.length cap) hv [s0, s1, s2, s3, s4, s5] whole pl (.slice aoP7 pl.length capP7) (.slice aoV7 v.length capV7) ∧ wi.ownsRow w.heap.size 3 1 (.slice aoV7 v.length capV7) v.length (intV v)) (fun u _ => pl.length - (RowKit.intOf u).toNat)
            case atStart => exact ⟨0, Nat.zero_le _, rfl, by rw [List.take_zero, List.take_zero]; exact hD7, ho7⟩
            case round =>
              obtain ⟨i, hi, rfl, hE, hO⟩ := hrel
              by_cases hil : i < pl.length
              · obtain ⟨gP, rfl, _, _⟩ := hfP (by omega)
                obtain ⟨gV, rfl, _, _⟩ := hfV (by omega)
                have cp := nats_own hE.ownP rfl i hil
                have cv := nats_own hO rfl i (by omega)
                rw [Nat.zero_add] at cp cv
                have hpi : pl.getD i 0 < word.length := by
                  rw [List.getD_eq_getElem?_getD, List.getElem?_eq_getElem hil]; exact hpn _ (List.getElem_mem hil)
                have hvi : v.getD i 0 < 32 := getD_sml hvs i
                have hsn : addAt (fillOf word) (pl.take (i + 1)) (v.take (i + 1)) = (addAt (fillOf word) (pl.take i) (v.take i)).set (pl.getD i 0) ((addAt (fillOf word) (pl.take i) (v.take i)).getD (pl.getD i 0) 0 ^^^ v.getD i 0) := by
                  rw [List.take_succ, List.take_succ, List.getElem?_eq_getElem hil, List.getElem?_eq_getElem (show i < v.length by omega), List.getD_eq_getElem?_getD (l := pl), List.getElem?_eq_getElem hil, List.getD_eq_getElem?_getD (l := v), List.getElem?_eq_getElem (show i < v.length by omega)]
                  exact addAt_snoc _ _ _ _ _ (by simp; omega)
                have hal : (addAt (fillOf word) (pl.take i) (v.take i)).length = word.length := by rw [addAt_len, hfl]
                have has : Sml (addAt (fillOf word) (pl.take i) (v.take i)) := addAt_sml _ _ _ hsm (fun x hx => hvs x (List.mem_of_mem_take hx))
                have hx := getD_sml has (pl.getD i 0)
                have cf := hE.fill.cell hpi
                have ff := hE.fill.frozen (pl.getD i 0)
                unfold intF at cf
                have cV := hE.values.cell (i := 0) (by decide)
                have hset := (hE.setF (pl.getD i 0) (.int .i64 (bits .xor .i64 ((addAt (fillOf word) (pl.take i) (v.take i)).getD (pl.getD i 0) 0 : Int) (v.getD i 0 : Int)))).fillCongr (g := intF (addAt (fillOf word) (pl.take (i + 1)) (v.take (i + 1)))) (fun j hj => by
                  rw [xor_nat hx hvi, hsn]
                  unfold intF
                  rw [getD_setN _ _ _ _ (by omega)]
                  split <;> rfl)
                have hOn := own_setOther (g := bD) (i := pl.getD i 0) hO (.inr (by intro e; have h1 := hb7 gV rfl; have : gV = bD := Option.some.inj e; omega)) (.int .i64 (bits .xor .i64 ((addAt (fillOf word) (pl.take i) (v.take i)).getD (pl.getD i 0) 0 : Int) (v.getD i 0 : Int)))
                have ii : (i : Int) < (pl.length : Int) := by omega
                have iv : (i : Int) < (v.length : Int) := by omega
                have pi2 : ((pl.getD i 0 : Nat) : Int) < (word.length : Int) := by omega
                clear hsn hal has
                generalize (addAt (fillOf word) (pl.take i) (v.take i)).getD (pl.getD i 0) 0 = x at cf hset hOn hx
                generalize pl.getD i 0 = p at cp hpi cf ff hset hOn pi2
                generalize v.getD i 0 = y at cv hvi hset hOn
                go_wp2
                go_region
                all_goals
                  go_wp2
                  exact ⟨⟨i + 1, by omega, by simp, hset.drewN 1, hOn⟩, by simp [RowKit.intOf]; omega⟩
              · have hie : i = pl.length := by omega
                rw [hie, List.take_length, hpv, List.take_length] at hE
                have w6 : IntKind.i64.wrap ((word.length : Int) - 6) = ((word.length - 6 : Nat) : Int) := by rw [IntWalk.i64_in _ (by omega)]; omega
                have w66 : RowKit.wrap64 ((word.length : Int) - 6) = ((word.length - 6 : Nat) : Int) := by unfold RowKit.wrap64; omega
                go_wp2
                go_ret3
                exact ⟨bD, rfl, hE.since, by omega, hE.fill⟩
          · exfalso
            have := hp1.symm.trans hs7
            cases this
        · obtain ⟨p, hp1, _⟩ | ⟨_, hp2⟩ := g3
          · exfalso
            have := hp1.symm.trans hs7
            cases this
          · rw [show 4 - q - 1 = 4 - (q + 1) by omega] at hp2
            go_wp2
            exact ⟨⟨q + 1, _, _, by omega, by simp, hD7, hp2⟩, by simp [RowKit.intOf]; omega⟩
end Go.Proofs
namespace Go.Proofs
open Go.RowKit Go.LS Go.Deep
set_option linter.all false

/-- pages and the lines that are left, after a part that needs nd lines -/
def pgStep (st : List (List Nat) × Int) (i : Nat) (nd : Int) : List (List Nat) × Int :=
  let p := if st.2 < nd then (st.1 ++ [[]], 30) else st
  (p.1.set (p.1.length - 1) (p.1.getD (p.1.length - 1) [] ++ [i]), p.2 - nd)
def pgTo (nds : List Int) : Nat → List (List Nat) × Int
  | 0 => ([[], []], 30)
  | k + 1 => pgStep (pgTo nds k) k (nds.getD k 0)
def padP (m : List (List Nat)) : List (List Nat) := m ++ List.replicate ((4 - m.length % 4) % 4) []
theorem pgStep_ok {st : List (List Nat) × Int} {i : Nat} {nd : Int} (h1 : 2 ≤ st.1.length) (h2 : 0 ≤ st.2 ∧ st.2 ≤ 30) (h3 : 0 ≤ nd ∧ nd ≤ 30) : 2 ≤ (pgStep st i nd).1.length ∧ (pgStep st i nd).1.length ≤ st.1.length + 1 ∧ 0 ≤ (pgStep st i nd).2 ∧ (pgStep st i nd).2 ≤ 30 := by
  unfold pgStep
  by_cases h : st.2 < nd
  · rw [if_pos h]; simp only [List.length_set, List.length_append, List.length_singleton]; omega
  · rw [if_neg h]; simp only [List.length_set]; omega
theorem pgTo_ok {nds : List Int} (h : ∀ i, i < nds.length → 0 ≤ nds.getD i 0 ∧ nds.getD i 0 ≤ 30) : ∀ k, k ≤ nds.length → 2 ≤ (pgTo nds k).1.length ∧ (pgTo nds k).1.length ≤ 2 + k ∧ 0 ≤ (pgTo nds k).2 ∧ (pgTo nds k).2 ≤ 30
  | 0, _ => by simp [pgTo]
  | k + 1, hk => by
    have ih := pgTo_ok h k (by omega)
    have := pgStep_ok (i := k) ih.1 ih.2.2 (h k (by omega))
    show 2 ≤ (pgStep (pgTo nds k) k (nds.getD k 0)).1.length ∧ (pgStep (pgTo nds k) k (nds.getD k 0)).1.length ≤ _ ∧ 0 ≤ (pgStep (pgTo nds k) k (nds.getD k 0)).2 ∧ (pgStep (pgTo nds k) k (nds.getD k 0)).2 ≤ 30
    omega
theorem pgTo_rows (nds : List Int) : ∀ k r, ((pgTo nds k).1.getD r []).length ≤ k
  | 0, r => by
    show (([[], []] : List (List Nat)).getD r []).length ≤ 0
    match r with
    | 0 => simp
    | 1 => simp
    | r + 2 => simp [List.getD_eq_getElem?_getD]
  | k + 1, r => by
    have ih := pgTo_rows nds k
    show ((pgStep (pgTo nds k) k (nds.getD k 0)).1.getD r []).length ≤ _
    unfold pgStep
    have key : ∀ m : List (List Nat), (∀ r, (m.getD r []).length ≤ k) → ((m.set (m.length - 1) (m.getD (m.length - 1) [] ++ [k])).getD r []).length ≤ k + 1 := by
      intro m hm
      by_cases h : m.length - 1 < m.length
      · rw [getD_set _ _ _ _ h]
        split
        · rw [List.length_append, List.length_singleton]; have := hm (m.length - 1); omega
        · have := hm r; omega
      · rw [List.set_eq_of_length_le (by omega)]; have := hm r; omega
    by_cases h : (pgTo nds k).2 < nds.getD k 0
    · rw [if_pos h]
      refine key _ fun r => ?_
      by_cases hr : r < (pgTo nds k).1.length
      · have := ih r
        rw [List.getD_eq_getElem?_getD, List.getElem?_append_left hr, ← List.getD_eq_getElem?_getD]; exact this
      · rw [List.getD_eq_getElem?_getD, List.getElem?_append_right (by omega)]
        cases hx : [([] : List Nat)][r - (pgTo nds k).1.length]? with
        | none => simp
        | some y =>
          have := List.mem_of_getElem? hx
          simp at this; subst this; simp
    · rw [if_neg h]
      exact key _ ih
theorem GridW.two {w wr : World} {B : Nat} {e1 e2 : Nat} (h : w.Since B wr) (hb : B ≤ wr.heap.size) :
    GridW w (wr.alloc (.cells #[.slice none 0 0, .slice none 0 0] e1)) B e1 e2 (.slice (some ⟨wr.heap.size, 0, none⟩) 2 2) [.slice none 0 0, .slice none 0 0] [[], []] := by
  have h0 : ∀ r, r < 2 → ([.slice none 0 0, .slice none 0 0] : List Value).getD r undef = .slice none 0 0 := by
    intro r hr
    match r, hr with
    | 0, _ => rfl
    | 1, _ => rfl
  have h1 : ∀ r, r < 2 → ([[], []] : List (List Nat)).getD r [] = [] := by
    intro r hr
    match r, hr with
    | 0, _ => rfl
    | 1, _ => rfl
  refine ⟨h.alloc hb _, by simp; omega, rfl, World.ownsRow_lit wr #[.slice none 0 0, .slice none 0 0] 2 hb (by decide) rfl, fun r hr => ?_, fun r s hr hs' hne => ?_, fun r hr => ?_⟩
  · rw [h0 r hr, h1 r hr]; exact World.ownsRow_nil _ _ _ _
  · rw [h0 r hr]; exact .inl rfl
  · rw [h0 r hr]; exact .inl rfl
theorem replicate_succ' (n : Nat) (m : List (List Nat)) : m ++ List.replicate (n + 1) [] = (m ++ [[]]) ++ List.replicate n [] := by rw [List.replicate_succ]; simp
theorem padP_step (m : List (List Nat)) (h : m.length % 4 ≠ 0) : padP (m ++ [[]]) = padP m := by
  unfold padP
  rw [List.length_append, List.length_singleton]
  have : (4 - m.length % 4) % 4 = (4 - (m.length + 1) % 4) % 4 + 1 := by omega
  rw [this, replicate_succ']
theorem padP_end (m : List (List Nat)) (h : m.length % 4 = 0) : padP m = m := by
  unfold padP; rw [h]; simp
theorem GridW.keep {w wr w' : World} {B e1 e2 : Nat} {H : Value} {hs : List Value} {rows : List (List Nat)} (h : GridW w wr B e1 e2 H hs rows) (hS : wr.Since wr.heap.size w') : GridW w w' B e1 e2 H hs rows :=
  ⟨h.since.trans (sinceMono hS h.le), Nat.le_trans h.le hS.size, h.len, own_keep h.head hS, fun r hr => own_keep (h.own r hr) hS, h.inj, h.ne⟩
theorem getD_snoc (hs : List Value) (x : Value) {n : Nat} (h : hs.length = n) : (hs ++ [x]).getD n undef = x := by
  subst h; simp [List.getD_eq_getElem?_getD]
theorem getD_snoc2 (rows : List (List Nat)) : (rows ++ [[]]).getD rows.length [] = [] := by simp [List.getD_eq_getElem?_getD]
theorem GridW.morePage {w wr w1 : World} {B e1 e2 M mn gg ncap : Nat} {hs : List Value} {rows : List (List Nat)} {o : Obj} (h : GridW w wr B e1 e2 (.slice (some ⟨M, 0, none⟩) rows.length mn) hs rows) (hl : hs.length = rows.length)
    (hown : w1.ownsRow B e1 1 (.slice (some ⟨gg, 0, none⟩) (rows.length + 1) ncap) (rows.length + 1) (hs ++ [.slice none 0 0])) (hgrow : (wr.alloc o).grownBy w1 (Value.slice (some ⟨M, 0, none⟩) rows.length mn).ownBlock) (hat : (Value.slice (some ⟨M, 0, none⟩) rows.length mn).ownBlock = some gg ∨ gg = (wr.alloc o).heap.size) :
    GridW w w1 B e1 e2 (.slice (some ⟨gg, 0, none⟩) (rows.length + 1) ncap) (hs ++ [.slice none 0 0]) (rows ++ [[]]) ∧ (hs ++ [Value.slice none 0 0]).length = rows.length + 1 := by
  refine ⟨(h.alloc o).more (by rw [hl]; exact hown) hgrow ?_, by simp [hl]⟩
  rcases hat with e | e
  · left; rw [e]; rfl
  · right; rw [← e]; rfl
theorem results_cell_tmp_row {P : Program} {fn : Func} {p u : Tmp} {ty : TypeId} (h : fn.results = #[.cell p ty, .tmp u]) (tmps : Array Value) (w : World) (g : Nat) (t : TypeId) (cs : Array Value) (fr : Nat × Nat) (d : TypeDesc)
    (hp : tmps.getD p undef = .pointer (some ⟨g, 0, none⟩)) (hg : w.heap[g]? = some (.cells cs t fr))
    (hu : P.underlying ty = some d) (hd : (match d with | .struct _ | .array _ _ => true | _ => false) = true) (hi : (P.info? ty).map (·.size) = some cs.size) :
    (results fn tmps).run P w = .ok (.tuple #[.agg cs, tmps.getD u undef]) w := by
  have hp' : tmps[p]?.getD undef = .pointer (some ⟨g, 0, none⟩) := by simpa using hp
  rw [results_cell_tmp h]
  simp [hp', asAddr, run_loadVar_row w g t ty cs fr d hg hu hd hi, Result.andThen]
def lenV : Value → Nat
  | .slice _ n _ => n
  | _ => 0
theorem GridW.setLow {w wr : World} {B e1 e2 : Nat} {H : Value} {hs : List Value} {rows : List (List Nat)} (h : GridW w wr B e1 e2 H hs rows) {a : Addr} (ha : a.block < B) (v : Value) : GridW (w.setCell a v) (wr.setCell a v) B e1 e2 H hs rows := by
  have far : ∀ {u : Value} {n : Nat} {xs : List Value} {e : Nat}, wr.ownsRow B e 1 u n xs → (wr.setCell a v).ownsRow B e 1 u n xs := by
    intro u n xs e ho
    refine ho.kept (row := some a.block) ⟨rfl, rfl, rfl, by simp [World.setCell], fun k hk hne => blk_setCell_other _ _ _ _ (by intro e'; exact hne (by rw [e']))⟩ ?_
    cases hb : u.ownBlock with
    | none => exact .inl rfl
    | some x => right; intro e; have := (ho.lt x hb).1; have := Option.some.inj e; omega
  refine ⟨⟨h.since.os, h.since.tape, h.since.output, by simpa [World.setCell] using h.since.size, fun k hk => ?_⟩, by simpa [World.setCell] using h.le, h.len, far h.head, fun r hr => far (h.own r hr), h.inj, h.ne⟩
  have := h.since.block k hk
  simp only [World.setCell, Array.getElem?_modify, this]
theorem belowSince {w w' : World} (h : Below w.heap.size w w') : w.Since w.heap.size w' := ⟨h.os, h.tape, h.output, h.size, h.block⟩
set_option maxHeartbeats 16000000 in
set_option maxRecDepth 100000 in
theorem Tryd.make_walk (code var : Int) (b o pcap : Nat) (pc : Nat → Nat → Value) (nds : List Int) (w : World) (ao : Option Addr)
    (hao : 0 < nds.length → ao = some ⟨b, o, none⟩ ∧ b < w.heap.size)
    (hc : ∀ i, i < nds.length → ∀ j, j < 6 → w.cell? ⟨b, o + i * 6 + j, none⟩ = some (pc i j)) (h8 : nds.length ≤ 8)
    (hnd : ∀ i, i < nds.length → 0 ≤ nds.getD i 0 ∧ nds.getD i 0 ≤ 30)
    (hval : ∀ w1, w.Since w.heap.size w1 → Calls Tryd.prog 37 #[.agg #[.int .i64 code, .int .i64 var, .slice ao nds.length pcap]] w1 fun e w' => e = .returned (.bool true) ∧ Below w1.heap.size w1 w')
    (hneed : ∀ i, i < nds.length → ∀ w1, w.Since w.heap.size w1 → Calls Tryd.prog 38 #[.agg #[pc i 0, pc i 1, pc i 2, pc i 3, pc i 4, pc i 5]] w1 fun e w' => e = .returned (.int .i64 (nds.getD i 0)) ∧ Below w1.heap.size w1 w') :
    Calls Tryd.prog 17 #[.agg #[.int .i64 code, .int .i64 var, .slice ao nds.length pcap]] w fun e w' => ∃ (H : Value) (hs : List Value), e = .returned (.tuple #[.agg #[H], .int .i64 0]) ∧ w.Since w.heap.size w' ∧
      (∃ w1, GridW w1 w' (w.heap.size + 2) 22 3 H hs (padP (pgTo nds nds.length).1)) := by
  obtain ⟨i22, hi22, hz220, hz221, hz222⟩ := info_parts Tryd.info22
  obtain ⟨i3, hi3, hz30, hz31, hz32⟩ := info_parts Tryd.info3
  go_enter Tryd.func17, Tryd.ntmps17
  go_wp2_with (first
    | (go_at_call 37; refine (hval _ (((World.Since.refl w.heap.size w).alloc (Nat.le_refl _) _).alloc (by simp) _)).mono ?_; rintro e w2 ⟨rfl, hb2⟩))
  obtain ⟨w0, hw0⟩ : ∃ w0, (w.alloc (.cells #[.int .i64 code, .int .i64 var, .slice ao nds.length pcap] 57)).alloc (.cells #[.slice none 0 0] 52) = w0 := ⟨_, rfl⟩
  have hs0 : w.Since w.heap.size w0 := by rw [← hw0]; exact ((World.Since.refl w.heap.size w).alloc (Nat.le_refl _) _).alloc (by simp) _
  have hz0 : w0.heap.size = w.heap.size + 2 := by rw [← hw0]; simp
  have hp0 : w0.cell? ⟨w.heap.size, 2, none⟩ = some (.slice ao nds.length pcap) := by
    rw [← hw0]
    exact (World.cell?_alloc_lt _ _ ⟨w.heap.size, 2, none⟩ (by show w.heap.size < _; simp)).trans (by rw [World.cell?_alloc_new]; rfl)
  have hR0 : w0.rowIs (w.heap.size + 1) 52 1 (fun _ => .slice none 0 0) := by
    have := World.rowIs_alloc (w.alloc (.cells #[.int .i64 code, .int .i64 var, .slice ao nds.length pcap] 57)) #[.slice none 0 0] 52 (fun _ => .slice none 0 0) (fun i hi => by
      match i, hi with
      | 0, _ => rfl)
    rw [hw0] at this
    rw [show (w.alloc (.cells #[.int .i64 code, .int .i64 var, .slice ao nds.length pcap] 57)).heap.size = w.heap.size + 1 by simp] at this
    exact this
  rw [hw0] at hb2
  have hS2 : w0.Since (w.heap.size + 2) w2 := ⟨hb2.os, hb2.tape, hb2.output, hb2.size, fun k hk => hb2.block k (by omega)⟩
  have hz2 := hb2.size
  have hG0 := GridW.two (e1 := 22) (e2 := 3) hS2 (by omega)
  clear hb2 hS2 hw0
  generalize w2.alloc (.cells #[.slice none 0 0, .slice none 0 0] 22) = w3 at hG0 ⊢
  generalize w2.heap.size = M0 at hG0 ⊢
  go_loopw [4, 5, 6] (fun v l i wr => ∃ (k M mn : Nat) (hs : List Value), k ≤ nds.length ∧ i = .int .i64 k ∧ l = .int .i64 (pgTo nds k).2 ∧ v = .slice (some ⟨M, 0, none⟩) (pgTo nds k).1.length mn ∧ hs.length = (pgTo nds k).1.length ∧ GridW w0 wr (w.heap.size + 2) 22 3 (.slice (some ⟨M, 0, none⟩) (pgTo nds k).1.length mn) hs (pgTo nds k).1) (fun _ _ i _ => nds.length - (RowKit.intOf i).toNat)
  case atStart => exact ⟨0, M0, 2, [.slice none 0 0, .slice none 0 0], Nat.zero_le _, rfl, rfl, rfl, rfl, hG0⟩
  case round =>
    obtain ⟨k, M, mn, hs, hk, rfl, rfl, rfl, hlen, hG⟩ := hrel
    obtain ⟨q1, q2, q3, q4⟩ := pgTo_ok hnd k hk
    have q5 := pgTo_rows nds k
    have hp : wr.cell? ⟨w.heap.size, 2, none⟩ = some (.slice ao nds.length pcap) := (hG.since.cell (a := ⟨w.heap.size, 2, none⟩) (by show w.heap.size < _; omega)).trans hp0
    by_cases hkl : k < nds.length
    · obtain ⟨rfl, hb⟩ := hao (by omega)
      have cc : ∀ j, j < 6 → wr.cell? ⟨b, o + k * 6 + j, none⟩ = some (pc k j) := fun j hj => (hG.since.cell (a := ⟨b, o + k * 6 + j, none⟩) (by show b < _; omega)).trans ((hs0.cell (a := ⟨b, o + k * 6 + j, none⟩) hb).trans (hc k hkl j hj))
      have c0 : wr.cell? ⟨b, o + k * 6, none⟩ = some (pc k 0) := cc 0 (by decide); have c1 := cc 1 (by decide); have c2 := cc 2 (by decide); have c3 := cc 3 (by decide); have c4 := cc 4 (by decide); have c5 := cc 5 (by decide)
      have hnk := hnd k hkl
      have hcall := hneed k hkl wr (hs0.trans (sinceMono hG.since (by omega)))
      have hstep : pgTo nds (k + 1) = pgStep (pgTo nds k) k (nds.getD k 0) := rfl
      have hki : (k : Int) < (nds.length : Int) := by omega
      generalize pc k 0 = p0 at *
      generalize pc k 1 = p1 at *
      generalize pc k 2 = p2 at *
      generalize pc k 3 = p3 at *
      generalize pc k 4 = p4 at *
      generalize pc k 5 = p5 at *
      generalize nds.getD k 0 = nd at *
      generalize pgTo nds k = st at *
      obtain ⟨rows, left⟩ := st
      simp only at q1 q2 q3 q4 q5 hlen hG
      clear cc hc hneed hval
      go_wp2_with fail
      refine hcall.mono ?_
      rintro e w4 ⟨rfl, hb4⟩
      have hG4 := hG.keep (belowSince hb4)
      clear hb4 hG hcall c0 c1 c2 c3 c4 c5
      have hrl : rows.length ≤ 20 := by omega
      have hown4 : w4.ownsRow (w.heap.size + 2) 22 1 (.slice (some ⟨M, 0, none⟩) rows.length mn) rows.length hs := by have := hG4.head; rwa [hlen] at this
      by_cases hlt : left < nd
      · have hnlt : ¬ nd ≤ left := by omega
        have hbl : w.heap.size + 2 ≤ w4.heap.size := hG4.le
        have hnx : pgStep (rows, left) k nd = ((rows ++ [[]]).set rows.length ((rows ++ [[]]).getD rows.length [] ++ [k]), 30 - nd) := by
          unfold pgStep
          rw [if_pos hlt]
          simp only [List.length_append, List.length_singleton, Nat.add_sub_cancel]
        have wnd : RowKit.wrap64 (30 - nd) = 30 - nd := by unfold RowKit.wrap64; omega
        have wnd2 : IntKind.i64.wrap (30 - nd) = 30 - nd := IntWalk.i64_in _ (by omega)
        go_wp2_with (first
          | (refine wpList_append_lies _ rfl (.tmp 30) (.tmp 31) 33 rfl (w.heap.size + 2) 22 i22 (.slice none 0 0) 1 24 Tryd.underlying33 hi22 hz220 hz221 hz222 rfl (by decide) _ rows.length hs rfl (hown4.alloc _) ⟨w4.heap.size, 0, none⟩ 1 1 [.slice none 0 0] rfl rfl (World.news_of_block (cs := #[.slice none 0 0]) (t := 22) (fr := (0, 0)) (heap_alloc_new w4 _)) (by simp [Value.oneCell']) (by omega) (by unfold maxLen; omega) (by omega) (by simp; omega) _ rfl ?_; intro gg ncap wA hownA hgrow hat hlt2; obtain ⟨hGx, hlx⟩ := hG4.morePage hlen hownA hgrow hat; obtain ⟨hneM, hltM, hcell, hfree, hown5, hpush⟩ := hGx.step hlx (r := rows.length) (v := .slice none 0 0) (c := 0) (by simp) (getD_snoc hs _ hlen) (by rw [getD_snoc2]; rfl) k; have hbA := hGx.le; rw [getD_snoc2] at hown5)
          | (refine wpList_append_lies _ rfl (.tmp 41) (.tmp 43) 22 rfl (w.heap.size + 2) 3 i3 (.int .i64 0) 1 8 Tryd.underlying22 hi3 hz30 hz31 hz32 rfl (by decide) _ 0 _ rfl (hown5.alloc _) ⟨wA.heap.size, 0, none⟩ 1 1 [.int .i64 (k : Int)] rfl rfl (World.news_of_block (cs := #[.int .i64 (k : Int)]) (t := 3) (fr := (0, 0)) (heap_alloc_new wA _)) (by simp [Value.oneCell']) (by omega) (by decide) (by decide) (by simp; omega) _ rfl ?_; intro g2 cap2 wB hownB hgrowB hatB hltB; have hfA := (hgrowB.cell_far ⟨gg, rows.length, none⟩ (by simp; omega) hneM).trans ((World.cell?_alloc_past (w := wA) _ _ _ hltM).trans hcell); have hfB := (hgrowB.frozen_far ⟨gg, rows.length, none⟩ (by simp; omega) hneM).trans ((World.frozen?_alloc_past (w := wA) _ _ _ hltM).trans hfree)))
        obtain ⟨hs2, hl2, hG2⟩ := hpush wB g2 cap2 0 _ (by rw [getD_snoc2]; exact hownB) hgrowB hatB
        have hst2 := hstep.trans hnx
        have hln : ((rows ++ [[]]).set rows.length ((rows ++ [[]]).getD rows.length [] ++ [k])).length = rows.length + 1 := by simp
        exact ⟨⟨k + 1, gg, ncap, hs2, by omega, by simp, by rw [hst2], by rw [hst2, hln], by rw [hst2, hln]; exact hl2, by rw [hst2, hln]; exact hG2⟩, by simp [RowKit.intOf]; omega⟩
      · have hnx : pgStep (rows, left) k nd = (rows.set (rows.length - 1) (rows.getD (rows.length - 1) [] ++ [k]), left - nd) := by
          unfold pgStep
          rw [if_neg hlt]
        have hge : nd ≤ left := by omega
        have wnd : RowKit.wrap64 (left - nd) = left - nd := by unfold RowKit.wrap64; omega
        have wnd2 : IntKind.i64.wrap (left - nd) = left - nd := IntWalk.i64_in _ (by omega)
        have q6 := q5 (rows.length - 1)
        obtain ⟨hneM, hltM, hcell, hfree, hown5, hpush⟩ := hG4.step hlen (r := rows.length - 1) (by omega) rfl rfl k
        generalize hs.getD (rows.length - 1) undef = hd at hcell hown5 hneM hpush
        generalize hrow : rows.getD (rows.length - 1) [] = row at hcell hown5 hpush hnx q6
        have i01 : (0 : Int) ≤ (rows.length : Int) - 1 := by omega
        have i02 : (rows.length : Int) - 1 < (rows.length : Int) := by omega
        have wi1 : IntKind.i64.wrap ((rows.length : Int) - 1) = ((rows.length - 1 : Nat) : Int) := by rw [IntWalk.i64_in _ (by omega)]; omega
        have wi2 : RowKit.wrap64 ((rows.length : Int) - 1) = ((rows.length - 1 : Nat) : Int) := by unfold RowKit.wrap64; omega
        have i03 : ((rows.length - 1 : Nat) : Int) < (rows.length : Int) := by omega
        have hbA := hG4.le
        clear hown4 q5
        go_wp2_with (refine wpList_append_lies _ rfl (.tmp 41) (.tmp 43) 22 rfl (w.heap.size + 2) 3 i3 (.int .i64 0) 1 8 Tryd.underlying22 hi3 hz30 hz31 hz32 rfl (by decide) _ row.length _ rfl (hown5.alloc _) ⟨w4.heap.size, 0, none⟩ 1 1 [.int .i64 (k : Int)] rfl rfl (World.news_of_block (cs := #[.int .i64 (k : Int)]) (t := 3) (fr := (0, 0)) (heap_alloc_new w4 _)) (by simp [Value.oneCell']) (by omega) (by unfold maxLen; omega) (by omega) (by simp; omega) _ rfl ?_; intro g2 cap2 wB hownB hgrowB hatB hltB; have hfA := (hgrowB.cell_far ⟨M, rows.length - 1, none⟩ (by simp; omega) hneM).trans ((World.cell?_alloc_past (w := w4) _ _ _ hltM).trans hcell); have hfB := (hgrowB.frozen_far ⟨M, rows.length - 1, none⟩ (by simp; omega) hneM).trans ((World.frozen?_alloc_past (w := w4) _ _ _ hltM).trans hfree))
        obtain ⟨hs2, hl2, hG2⟩ := hpush wB g2 cap2 0 _ hownB hgrowB hatB
        have hst2 := hstep.trans hnx
        have hln : (rows.set (rows.length - 1) (row ++ [k])).length = rows.length := by simp
        exact ⟨⟨k + 1, M, mn, hs2, by omega, by simp, by rw [hst2], by rw [hst2, hln], by rw [hst2, hln]; exact hl2, by rw [hst2, hln]; exact hG2⟩, by simp [RowKit.intOf]; omega⟩
    · have hke : k = nds.length := by omega
      subst hke
      obtain ⟨rows, hrows⟩ : ∃ rows, (pgTo nds nds.length).1 = rows := ⟨_, rfl⟩
      rw [hrows] at hlen hG q1 q2 ⊢
      go_wp2
      go_loopw [4] (fun v wr => ∃ (M mn : Nat) (hs : List Value) (rows' : List (List Nat)), v = .slice (some ⟨M, 0, none⟩) rows'.length mn ∧ hs.length = rows'.length ∧ GridW w0 wr (w.heap.size + 2) 22 3 (.slice (some ⟨M, 0, none⟩) rows'.length mn) hs rows' ∧ padP rows' = padP rows ∧ rows'.length ≤ 12) (fun v _ => (4 - lenV v % 4) % 4)
      case atStart => exact ⟨M, mn, hs, rows, rfl, hlen, hG, rfl, by omega⟩
      case round =>
        obtain ⟨M, mn, hs, rws, rfl, hlen, hG, hpd, h12⟩ := hrel
        by_cases h4 : rws.length % 4 = 0
        · have e4 : ((rws.length : Int).tmod 4) = 0 := by rw [Int.tmod_eq_emod_of_nonneg (by omega)]; omega
          have hR := hR0.of_block (hG.since.block _ (by omega))
          have cR := hR.cell (i := 0) (by decide)
          have fR := hR.frozen 0
          have n12 : ¬ (12 : Int) < (rws.length : Int) := by omega
          go_wp2
          have hrr := hR.set 0 (.slice (some ⟨M, 0, none⟩) rws.length mn)
          obtain ⟨cc, hcc, hsz, hget⟩ := hrr
          have hc1 : cc = #[.slice (some ⟨M, 0, none⟩) rws.length mn] := by
            apply Array.ext_getElem?
            intro i
            match i with
            | 0 => rw [hget 0 (by decide)]; rfl
            | i + 1 => rw [Array.getElem?_eq_none (by omega), Array.getElem?_eq_none (by simp)]
          subst hc1
          refine bodyPost_ret (results_cell_tmp_row rfl _ _ (w.heap.size + 1) 52 _ _ _ rfl hcc Tryd.underlying52 rfl (by kernel_rfl)) rfl ?_
          refine ⟨_, rfl, (hs0.trans (sinceMono hG.since (by omega))).setCell (by show w.heap.size ≤ w.heap.size + 1; omega) _, hs, w0.setCell ⟨w.heap.size + 1, 0, none⟩ (.slice (some ⟨M, 0, none⟩) rws.length mn), ?_⟩
          rw [← hpd, padP_end _ h4]
          exact hG.setLow (a := ⟨w.heap.size + 1, 0, none⟩) (by show w.heap.size + 1 < _; omega) _
        · have e4 : ((rws.length : Int).tmod 4) ≠ 0 := by rw [Int.tmod_eq_emod_of_nonneg (by omega)]; omega
          have e4' : ((rws.length : Int).tmod 4 != 0) = true := by simp; omega
          have hown4 : wr.ownsRow (w.heap.size + 2) 22 1 (.slice (some ⟨M, 0, none⟩) rws.length mn) rws.length hs := by have := hG.head; rwa [hlen] at this
          have hbl := hG.le
          go_wp2_with (refine wpList_append_lies _ rfl (.tmp 53) (.tmp 54) 33 rfl (w.heap.size + 2) 22 i22 (.slice none 0 0) 1 24 Tryd.underlying33 hi22 hz220 hz221 hz222 rfl (by decide) _ rws.length hs rfl (hown4.alloc _) ⟨wr.heap.size, 0, none⟩ 1 1 [.slice none 0 0] rfl rfl (World.news_of_block (cs := #[.slice none 0 0]) (t := 22) (fr := (0, 0)) (heap_alloc_new wr _)) (by simp [Value.oneCell']) (by omega) (by unfold maxLen; omega) (by omega) (by simp; omega) _ rfl ?_; intro gg ncap wA hownA hgrow hat hlt2; obtain ⟨hGx, hlx⟩ := hG.morePage hlen hownA hgrow hat)
          have hln : (rws ++ [[]]).length = rws.length + 1 := by simp
          exact ⟨⟨gg, ncap, hs ++ [.slice none 0 0], rws ++ [[]], by rw [hln], by rw [hln]; exact hlx, by rw [hln]; exact hGx, by rw [padP_step _ h4]; exact hpd, by omega⟩, by simp [lenV]; omega⟩
end Go.Proofs
