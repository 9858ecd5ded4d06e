/-
  Walks of Codeword, Encode and the search. No condition but those that each theorem names.
-/
import Derived.Test.YtmgjidfafnajnaaDoorBXB
import Derived.ChangeKeysEq
import Derived.Laws.StructEq
import Derived.Test.YtmgjidfafnajnaaDoorPRX
namespace Go.Proofs
open Go.RowKit Go.LS Go.Deep
set_option linter.all false

def IntsAt (w : World) (b o : Nat) (l : List Int) : Prop := ∀ i, i < l.length → w.cell? ⟨b, o + i, none⟩ = some (.int .i64 (l.getD i 0))
theorem Tryd.isWord1_walk (c m : Int) (B : Nat) (w : World) (hc : w.cell? ⟨B, 0, none⟩ = some (.int .i64 m)) (h1 : m ≤ c) (h2 : c < 32) :
    Calls Tryd.prog 51 #[.int .i64 c, .pointer (some ⟨B, 0, none⟩)] w fun e w' => e = .returned (.bool false) ∧ w' = w := by
  have h3 : ¬ c < m := by omega
  have h4 : ¬ 32 ≤ c := by omega
  go_enter Tryd.func51, Tryd.ntmps51
  go_wp2
  all_goals first
    | (go_ret; exact ⟨rfl, rfl⟩)
theorem Tryd.encode1_walk (c : Nat) (w : World) (h : c < 32) : Calls Tryd.prog 41 #[.int .i64 (c : Int)] w fun e w' => e = .returned (.bool false) ∧ w' = w := by
  have he : el (c : Int) = true := by simp [el]; omega
  go_enter Tryd.func41, Tryd.ntmps41
  go_wp2_with (first
    | (go_at_call 42; refine (Tryd.isElement_walk _ _).mono ?_; rintro e w1 ⟨rfl, rfl⟩))
  all_goals first
    | (go_ret; exact ⟨rfl, rfl⟩)
set_option maxHeartbeats 1000000 in
set_option maxRecDepth 100000 in
theorem Tryd.index51_walk (l : List Int) (m : Int) (b o cap B : Nat) (w : World) (hw : IntsAt w b o l) (hc : w.cell? ⟨B, 0, none⟩ = some (.int .i64 m)) (hl : l.length ≤ 1000) (h : ∀ i, i < l.length → m ≤ l.getD i 0 ∧ l.getD i 0 < 32) :
    Calls Tryd.prog 59 #[.slice (some ⟨b, o, none⟩) l.length cap, .func (.func 51) #[] #[.pointer (some ⟨B, 0, none⟩)]] w fun e w' => e = .returned (.int .i64 (-1)) ∧ w' = w := by
  go_enter Tryd.func59, Tryd.ntmps59
  go_wp2
  go_loopw [8] (fun v wr => ∃ i : Nat, i ≤ l.length ∧ v = .int .i64 i ∧ wr = w) (fun v _ => l.length - (RowKit.intOf v).toNat)
  case atStart => exact ⟨0, Nat.zero_le _, rfl, rfl⟩
  case round =>
    obtain ⟨i, hi, rfl, rfl⟩ := hrel
    by_cases hil : i < l.length
    · have hcell := hw i hil
      obtain ⟨h1, h2⟩ := h i hil
      generalize l.getD i 0 = c at hcell h1 h2
      have hii : (i : Int) < (l.length : Int) := by omega
      go_wp2_with (first
        | (go_at_call 51; refine (Tryd.isWord1_walk _ _ _ _ hc h1 h2).mono ?_; rintro e w1 ⟨rfl, rfl⟩))
      all_goals exact ⟨⟨i + 1, by omega, by simp, trivial⟩, by simp [RowKit.intOf]; omega⟩
    · have hie : i = l.length := by omega
      subst hie
      go_wp2
      go_ret
      exact ⟨rfl, rfl⟩
set_option maxHeartbeats 1000000 in
set_option maxRecDepth 100000 in
theorem Tryd.index41_walk (l : List Nat) (b o cap : Nat) (w : World) (hw : NatsAt w b o l) (hl : l.length ≤ 1000) (h : Sml l) :
    Calls Tryd.prog 59 #[.slice (some ⟨b, o, none⟩) l.length cap, .func (.func 41) #[] #[]] w fun e w' => e = .returned (.int .i64 (-1)) ∧ w' = w := by
  go_enter Tryd.func59, Tryd.ntmps59
  go_wp2
  go_loopw [8] (fun v wr => ∃ i : Nat, i ≤ l.length ∧ v = .int .i64 i ∧ wr = w) (fun v _ => l.length - (RowKit.intOf v).toNat)
  case atStart => exact ⟨0, Nat.zero_le _, rfl, rfl⟩
  case round =>
    obtain ⟨i, hi, rfl, rfl⟩ := hrel
    by_cases hil : i < l.length
    · have hcell := hw i hil
      have h1 := getD_sml h i
      generalize l.getD i 0 = c at hcell h1
      have hii : (i : Int) < (l.length : Int) := by omega
      go_wp2_with (first
        | (go_at_call 41; refine (Tryd.encode1_walk _ _ h1).mono ?_; rintro e w1 ⟨rfl, rfl⟩))
      all_goals exact ⟨⟨i + 1, by omega, by simp, trivial⟩, by simp [RowKit.intOf]; omega⟩
    · have hie : i = l.length := by omega
      subst hie
      go_wp2
      go_ret
      exact ⟨rfl, rfl⟩
theorem Tryd.contains41_walk (l : List Nat) (b o cap : Nat) (w : World) (hw : NatsAt w b o l) (hl : l.length ≤ 1000) (h : Sml l) :
    Calls Tryd.prog 40 #[.slice (some ⟨b, o, none⟩) l.length cap, .func (.func 41) #[] #[]] w fun e w' => e = .returned (.bool false) ∧ w' = w := by
  go_enter Tryd.func40, Tryd.ntmps40
  go_wp2_with (first
    | (go_at_call 59; refine (Tryd.index41_walk l _ _ _ _ hw hl h).mono ?_; rintro e w1 ⟨rfl, rfl⟩))
  all_goals
    go_ret
    exact ⟨rfl, rfl⟩
theorem Tryd.contains51_walk (l : List Int) (m : Int) (b o cap B : Nat) (w : World) (hw : IntsAt w b o l) (hc : w.cell? ⟨B, 0, none⟩ = some (.int .i64 m)) (hl : l.length ≤ 1000) (h : ∀ i, i < l.length → m ≤ l.getD i 0 ∧ l.getD i 0 < 32) :
    Calls Tryd.prog 40 #[.slice (some ⟨b, o, none⟩) l.length cap, .func (.func 51) #[] #[.pointer (some ⟨B, 0, none⟩)]] w fun e w' => e = .returned (.bool false) ∧ w' = w := by
  go_enter Tryd.func40, Tryd.ntmps40
  go_wp2_with (first
    | (go_at_call 59; refine (Tryd.index51_walk l m _ _ _ _ _ hw hc hl h).mono ?_; rintro e w1 ⟨rfl, rfl⟩))
  all_goals
    go_ret
    exact ⟨rfl, rfl⟩
theorem Tryd.isWord_walk (l : List Int) (m : Int) (b o cap : Nat) (w : World) (hb : b < w.heap.size) (hw : IntsAt w b o l) (h7 : 7 ≤ l.length) (h15 : l.length ≤ 15) (h : ∀ i, i < l.length → m ≤ l.getD i 0 ∧ l.getD i 0 < 32) :
    Calls Tryd.prog 27 #[.slice (some ⟨b, o, none⟩) l.length cap, .int .i64 m] w fun e w' => e = .returned (.bool true) ∧ w.Since w.heap.size w' := by
  have hs1 := (World.Since.refl w.heap.size w).alloc (Nat.le_refl _) (.cells #[.int .i64 m] 3)
  have hw1 : IntsAt (w.alloc (.cells #[.int .i64 m] 3)) b o l := fun i hi => (World.cell?_alloc_lt w _ ⟨b, o + i, none⟩ hb).trans (hw i hi)
  have hc1 : (w.alloc (.cells #[.int .i64 m] 3)).cell? ⟨w.heap.size, 0, none⟩ = some (.int .i64 m) := by rw [World.cell?_alloc_new]; rfl
  have e7 : ¬ ((l.length : Int) < 7) := by omega
  have e15 : ¬ ((15 : Int) < (l.length : Int)) := by omega
  go_enter Tryd.func27, Tryd.ntmps27
  go_wp2_with (first
    | (go_at_call 40; refine (Tryd.contains51_walk l m _ _ _ _ _ hw1 hc1 (by omega) h).mono ?_; rintro e w1 ⟨rfl, rfl⟩))
  all_goals
    go_ret
    exact ⟨rfl, hs1⟩
def nil6 : Array Value := #[.int .i64 0, .int .i64 0, .int .i64 0, .int .i64 0, .int .i64 0, .int .i64 0]
theorem Tryd.guard79 : Tryd.prog.eqGuardType Tryd.prog.depth 79 = false := by kernel_rfl
theorem Tryd.eq79 (w : World) : (Op.equal 79 (.agg nil6) (.agg nil6)).run Tryd.prog w = .ok true w := by
  obtain ⟨i3, hi3, hz30, hz31, hz32⟩ := info_parts Tryd.info3
  unfold Op.equal
  rw [show Op.maxDepth = 9998 + 1 + 1 from rfl, run_equalIn_array (P := Tryd.prog) (w := w) (9998 + 1) nil6 nil6 Tryd.underlying79 hi3]
  obtain ⟨r, hr, hiff⟩ := run_eqItems_plain (P := Tryd.prog) w 9998 (e := 3) (by kernel_rfl) nil6 nil6 (D := 5) (D' := 5) (List.range 6) [[.int .i64 0], [.int .i64 0], [.int .i64 0], [.int .i64 0], [.int .i64 0], [.int .i64 0]] [[.int .i64 0], [.int .i64 0], [.int .i64 0], [.int .i64 0], [.int .i64 0], [.int .i64 0]] (by kernel_rfl) (by kernel_rfl)
  rw [hr, hiff.2 rfl]
set_option maxRecDepth 100000 in
theorem Tryd.Codeword_walk (l : List Nat) (b o cap : Nat) (w : World) (ht : TabsAt w) (hb : b < w.heap.size) (h2 : 2 ≤ w.heap.size) (hw : NatsAt w b o l) (h7 : 7 ≤ l.length) (h15 : l.length ≤ 15) (hs : Sml l) (hc : ∀ j, 1 ≤ j → j ≤ 6 → syn l.length l j = 0) :
    Calls Tryd.prog 9 #[.slice (some ⟨b, o, none⟩) l.length cap] w fun e w' => e = .returned (.bool true) ∧ w.Since w.heap.size w' := by
  have hwi : IntsAt w b o (l.map fun x : Nat => (x : Int)) := fun i hi => by
    rw [List.length_map] at hi
    rw [hw i hi]
    simp [List.getD_eq_getElem?_getD, List.getElem?_map, List.getElem?_eq_getElem hi]
  have hiw := fun c => Tryd.isWord_walk (l.map fun x : Nat => (x : Int)) 0 b o c w hb hwi (by simpa using h7) (by simpa using h15) (fun i hi => by
    rw [List.length_map] at hi
    have : (l.map fun x : Nat => (x : Int)).getD i 0 = ((l.getD i 0 : Nat) : Int) := by simp [List.getD_eq_getElem?_getD, List.getElem?_map, List.getElem?_eq_getElem hi]
    rw [this]
    have := getD_sml hs i
    omega)
  simp only [List.length_map] at hiw
  have hsy : ∀ w1 : World, w.Since w.heap.size w1 → ∀ c, Calls Tryd.prog 28 #[.slice (some ⟨b, o, none⟩) l.length c] w1 fun e w' => e = .returned (.agg #[.int .i64 0, .int .i64 0, .int .i64 0, .int .i64 0, .int .i64 0, .int .i64 0]) ∧ w1.Since w1.heap.size w' := by
    intro w1 h1 c
    have := Tryd.syndromes_walk l b o c w1 (tabsS ht h1 h2) (by have := h1.size; omega) (by have := h1.size; omega) (by omega) hs (fun i hi => (h1.cell (a := ⟨b, o + i, none⟩) hb).trans (hw i hi))
    rw [hc 1 (by decide) (by decide), hc 2 (by decide) (by decide), hc 3 (by decide) (by decide), hc 4 (by decide) (by decide), hc 5 (by decide) (by decide), hc 6 (by decide) (by decide)] at this
    exact this
  have hEG := Tryd.guard79
  have hEq : ∀ w : World, (Op.equalIn 10000 79 (.agg nil6) (.agg nil6)).run Tryd.prog w = .ok true w := Tryd.eq79
  unfold nil6 at hEq
  go_enter Tryd.func9, Tryd.ntmps9
  go_wp2_with (first
    | (go_at_call 27; refine (hiw _).mono ?_; rintro e w1 ⟨rfl, h1⟩)
    | (go_at_call 28; refine (hsy _ h1 _).mono ?_; rintro e w3 ⟨rfl, h3⟩))
  all_goals
    go_ret
    exact ⟨rfl, h1.trans (sinceMono h3 h1.size)⟩
end Go.Proofs
namespace Go.Proofs
open Go.RowKit Go.LS Go.Deep
set_option linter.all false

def restK (l : List Nat) (k : Nat) : List Nat := (l.take k).foldl encStep [0, 0, 0, 0, 0, 0]
theorem restK_zero (l : List Nat) : restK l 0 = [0, 0, 0, 0, 0, 0] := by simp [restK]
theorem restK_step (l : List Nat) (k : Nat) (h : k < l.length) : restK l (k + 1) = encStep (restK l k) (l.getD k 0) := by
  unfold restK
  rw [List.take_succ, List.getElem?_eq_getElem h, List.foldl_append, List.getD_eq_getElem?_getD, List.getElem?_eq_getElem h]
  rfl
theorem restK_end (l : List Nat) : restK l l.length = encRest l := by unfold restK; rw [List.take_length]; rfl
theorem restK_ok {l : List Nat} (hs : Sml l) : ∀ k, k ≤ l.length → (restK l k).length = 6 ∧ Sml (restK l k)
  | 0, _ => by
    rw [restK_zero]
    exact ⟨rfl, by intro x hx; simp at hx; omega⟩
  | k + 1, h => by
    rw [restK_step _ _ (by omega)]
    have ih := restK_ok hs k (by omega)
    exact ⟨step_len _ ih.1, step_sml ih.2 (getD_sml hs k)⟩
def shl (r : List Nat) : List Nat := r.drop 1 ++ [0]
theorem shl_len {r : List Nat} (h : r.length = 6) : (shl r).length = 6 := by simp [shl]; omega
theorem shl_sml {r : List Nat} (h : Sml r) : Sml (shl r) := by
  intro x hx
  rcases List.mem_append.1 hx with h1 | h1
  · exact h x (List.mem_of_mem_drop h1)
  · simp at h1; omega
theorem shl_get {r : List Nat} (h : r.length = 6) (i : Nat) (hi : i < 6) : (shl r).getD i 0 = if i < 5 then r.getD (i + 1) 0 else 0 := by
  unfold shl
  simp only [List.getD_eq_getElem?_getD, List.getElem?_append, List.length_drop, List.getElem?_drop]
  by_cases h5 : i < 5
  · rw [if_pos (by omega), if_pos h5, Nat.add_comm]
  · rw [if_neg (by omega), if_neg h5]
    have : i - (r.length - 1) = 0 := by omega
    rw [this]; rfl
theorem enc_part (r : List Nat) (c : Nat) (h : r.length = 6) : partMap (fun i x => x ^^^ gm (c ^^^ r.getD 0 0) (genG.getD i 0)) (shl r) 6 = encStep r c := by
  refine ext_getD (by rw [partMap_len, shl_len h, step_len _ h]) fun i hi => ?_
  rw [partMap_len, shl_len h] at hi
  rw [partMap_get _ _ _ _ (by rw [shl_len h]; exact hi), if_pos hi]
  unfold encStep
  rw [List.getD_eq_getElem?_getD (l := List.zipWith _ _ _), List.getElem?_zipWith]
  have h1 : (r.drop 1 ++ [0])[i]? = some ((shl r).getD i 0) := by
    show (shl r)[i]? = _
    rw [List.getD_eq_getElem?_getD, List.getElem?_eq_getElem (by rw [shl_len h]; exact hi)]; rfl
  have h2 : genG[i]? = some (genG.getD i 0) := by
    rw [List.getD_eq_getElem?_getD, List.getElem?_eq_getElem (by exact hi)]; rfl
  rw [h1, h2]
  rfl
def intF (l : List Nat) : Nat → Value := fun i => .int .i64 (l.getD i 0 : Int)
set_option maxHeartbeats 8000000 in
set_option maxRecDepth 100000 in
theorem Tryd.Encode_walk (l : List Nat) (b o cap : Nat) (w : World) (ht : TabsAt w) (h2 : 2 ≤ w.heap.size) (hb : b < w.heap.size) (hw : NatsAt w b o l) (hs : Sml l) (h1 : 1 ≤ l.length) (h9 : l.length ≤ 9) :
    Calls Tryd.prog 21 #[.slice (some ⟨b, o, none⟩) l.length cap] w fun e w' => ∃ v, e = .returned (.tuple #[v, .int .i64 0]) ∧ w.Since w.heap.size w' ∧ w'.ownsRow w.heap.size 3 1 v (l.length + 6) (intV (encP l)) := by
  obtain ⟨i3, hi3, hz30, hz31, hz32⟩ := info_parts Tryd.info3
  have hct := fun c => Tryd.contains41_walk l b o c w hw (by omega) hs
  have hgn := Tryd.generator_walk w ht h2
  unfold genV at hgn
  have e1 : ¬ (l.length : Int) < 1 := by omega
  have e9 : ¬ (9 : Int) < (l.length : Int) := by omega
  go_enter Tryd.func21, Tryd.ntmps21
  go_wp2_with (first
    | (go_at_call 40; refine (hct _).mono ?_; rintro e w ⟨rfl, rfl⟩)
    | (go_at_call 43; refine hgn.mono ?_; rintro e w3 ⟨rfl, hS3⟩))
  have hst : w.Since w.heap.size ((w3.alloc (.cells #[.int .i64 17, .int .i64 26, .int .i64 30, .int .i64 27, .int .i64 30, .int .i64 24] 79)).alloc (.cells #[.int .i64 0, .int .i64 0, .int .i64 0, .int .i64 0, .int .i64 0, .int .i64 0] 79)) := (hS3.alloc hS3.size _).alloc (by have := hS3.size; simp; omega) _
  have hg0 : ((w3.alloc (.cells #[.int .i64 17, .int .i64 26, .int .i64 30, .int .i64 27, .int .i64 30, .int .i64 24] 79)).alloc (.cells #[.int .i64 0, .int .i64 0, .int .i64 0, .int .i64 0, .int .i64 0, .int .i64 0] 79)).rowIs w3.heap.size 79 6 (intF genG) := by
    refine (World.rowIs_alloc w3 #[.int .i64 17, .int .i64 26, .int .i64 30, .int .i64 27, .int .i64 30, .int .i64 24] 79 (intF genG) ?_).alloc _
    intro i hi
    match i, hi with
    | 0, _ => rfl
    | 1, _ => rfl
    | 2, _ => rfl
    | 3, _ => rfl
    | 4, _ => rfl
    | 5, _ => rfl
  have hr0 : ((w3.alloc (.cells #[.int .i64 17, .int .i64 26, .int .i64 30, .int .i64 27, .int .i64 30, .int .i64 24] 79)).alloc (.cells #[.int .i64 0, .int .i64 0, .int .i64 0, .int .i64 0, .int .i64 0, .int .i64 0] 79)).rowIs (w3.heap.size + 1) 79 6 (intF (restK l 0)) := by
    have h := World.rowIs_alloc (w3.alloc (.cells #[.int .i64 17, .int .i64 26, .int .i64 30, .int .i64 27, .int .i64 30, .int .i64 24] 79)) zero6 79 (intF (restK l 0)) (by
      rw [restK_zero]
      intro i hi
      match i, hi with
      | 0, _ => rfl
      | 1, _ => rfl
      | 2, _ => rfl
      | 3, _ => rfl
      | 4, _ => rfl
      | 5, _ => rfl)
    rw [World.size_alloc] at h
    exact h
  have hG2 := hS3.size
  obtain ⟨G, hGe⟩ : ∃ G, w3.heap.size = G := ⟨_, rfl⟩
  rw [hGe] at hg0 hr0 hG2 ⊢
  generalize ((w3.alloc (.cells #[.int .i64 17, .int .i64 26, .int .i64 30, .int .i64 27, .int .i64 30, .int .i64 24] 79)).alloc (.cells #[.int .i64 0, .int .i64 0, .int .i64 0, .int .i64 0, .int .i64 0, .int .i64 0] 79)) = w4 at hst hg0 hr0 ⊢
  clear hgn hct hS3 hGe w3
  go_loopw [25] (fun v wr => ∃ k : Nat, k ≤ l.length ∧ v = .int .i64 k ∧ w.Since w.heap.size wr ∧ wr.rowIs G 79 6 (intF genG) ∧ wr.rowIs (G + 1) 79 6 (intF (restK l k))) (fun v _ => l.length - (RowKit.intOf v).toNat)
  case atStart => exact ⟨0, Nat.zero_le _, rfl, hst, hg0, hr0⟩
  case round =>
    obtain ⟨k, hk, rfl, hS, hg, hr⟩ := hrel
    by_cases hkl : k < l.length
    · have hcell : wr.cell? ⟨b, o + k, none⟩ = some (.int .i64 (l.getD k 0 : Int)) := (hS.cell (a := ⟨b, o + k, none⟩) hb).trans (hw k hkl)
      have hki : (k : Int) < (l.length : Int) := by omega
      obtain ⟨hrl, hrs⟩ := restK_ok hs k hk
      have hx := getD_sml hs k
      have hnx := restK_step l k hkl
      generalize restK l k = r at hr hrl hrs hnx
      rw [← enc_part r _ hrl] at hnx
      have rc : ∀ i, i < 6 → wr.cell? ⟨G + 1, i, none⟩ = some (.int .i64 (r.getD i 0 : Int)) := fun i hi => hr.cell hi
      have r0 := rc 0 (by decide); have r1 := rc 1 (by decide); have r2 := rc 2 (by decide); have r3 := rc 3 (by decide); have r4 := rc 4 (by decide); have r5 := rc 5 (by decide)
      have f0 := hr.frozen 0; have f1 := hr.frozen 1; have f2 := hr.frozen 2; have f3 := hr.frozen 3; have f4 := hr.frozen 4; have f5 := hr.frozen 5
      have hxr := xor_nat hx (getD_sml hrs 0)
      clear rc
      have hF : l.getD k 0 ^^^ r.getD 0 0 < 32 := xor_lt32 hx (getD_sml hrs 0)
      generalize hFe : l.getD k 0 ^^^ r.getD 0 0 = F at hxr hnx hF
      generalize l.getD k 0 = c at hcell hxr
      obtain ⟨s0, hs0⟩ : ∃ s, r.getD 0 0 = s := ⟨_, rfl⟩
      obtain ⟨s1, hs1⟩ : ∃ s, r.getD 1 0 = s := ⟨_, rfl⟩
      obtain ⟨s2, hs2⟩ : ∃ s, r.getD 2 0 = s := ⟨_, rfl⟩
      obtain ⟨s3, hs3⟩ : ∃ s, r.getD 3 0 = s := ⟨_, rfl⟩
      obtain ⟨s4, hs4⟩ : ∃ s, r.getD 4 0 = s := ⟨_, rfl⟩
      obtain ⟨s5, hs5⟩ : ∃ s, r.getD 5 0 = s := ⟨_, rfl⟩
      rw [hs0] at r0 hxr; rw [hs1] at r1; rw [hs2] at r2; rw [hs3] at r3; rw [hs4] at r4; rw [hs5] at r5
      obtain ⟨cur, hcur, hcsz, hcget⟩ := hr
      have hcp : (Builtin.copy_ #[22, 22] 3 #[.slice (some ⟨G + 1, 0, none⟩) 6 6, .slice (some ⟨G + 1, 1, none⟩) 5 5]).run Tryd.prog wr.drew = .ok (.int .i64 5) (wr.drew.setRow (G + 1) #[.int .i64 s1, .int .i64 s2, .int .i64 s3, .int .i64 s4, .int .i64 s5, .int .i64 s5]) := by
        have := run_copy_row (P := Tryd.prog) wr.drew 22 22 3 3 (G + 1) 0 6 6 ⟨G + 1, 1, none⟩ 5 5 cur 79 [.int .i64 s1, .int .i64 s2, .int .i64 s3, .int .i64 s4, .int .i64 s5] Tryd.underlying22 (by rw [hi3]; simp [hz31]) hcur rfl (fun j v hj => by
          match j, hj with
          | 0, hj => cases hj; exact r1
          | 1, hj => cases hj; exact r2
          | 2, hj => cases hj; exact r3
          | 3, hj => cases hj; exact r4
          | 4, hj => cases hj; exact r5) (by rw [hcsz]; simp) (by intro v hv; simp at hv; rcases hv with rfl | rfl | rfl | rfl | rfl <;> rfl)
        rw [this]
        have h5 : cur.toList.drop (0 + 5) = [.int .i64 s5] := by
          apply List.ext_getElem?
          intro i
          rw [List.getElem?_drop]
          match i with
          | 0 => rw [Array.getElem?_toList, hcget 5 (by decide)]; show some (intF r 5) = _; unfold intF; rw [hs5]; rfl
          | i + 1 => rw [List.getElem?_eq_none (by simp; omega)]; rfl
        show Result.ok (goInt 5) _ = _
        rw [show ([.int .i64 s1, .int .i64 s2, .int .i64 s3, .int .i64 s4, .int .i64 s5] : List Value).length = 5 from rfl, h5]
        rfl
      go_wp2
      go_region
      have hW5 : (wr.drew.setRow (G + 1) #[.int .i64 s1, .int .i64 s2, .int .i64 s3, .int .i64 s4, .int .i64 s5, .int .i64 s5]).rowIs (G + 1) 79 6 (intF [s1, s2, s3, s4, s5, s5]) := by
        refine ⟨_, setRow_heap wr.drew (G + 1) cur _ 79 (0, 0) hcur, rfl, fun i hi => ?_⟩
        match i, hi with
        | 0, _ => rfl
        | 1, _ => rfl
        | 2, _ => rfl
        | 3, _ => rfl
        | 4, _ => rfl
        | 5, _ => rfl
      have hS5 : w.Since w.heap.size (wr.drew.setRow (G + 1) #[.int .i64 s1, .int .i64 s2, .int .i64 s3, .int .i64 s4, .int .i64 s5, .int .i64 s5]) :=
        hS.trans ⟨rfl, rfl, rfl, by simp [World.setRow], fun i hi => setRow_other _ _ _ _ (by omega)⟩
      have hg5 : (wr.drew.setRow (G + 1) #[.int .i64 s1, .int .i64 s2, .int .i64 s3, .int .i64 s4, .int .i64 s5, .int .i64 s5]).rowIs G 79 6 (intF genG) := hg.of_block (setRow_other _ _ _ _ (by omega))
      generalize (wr.drew.setRow (G + 1) #[.int .i64 s1, .int .i64 s2, .int .i64 s3, .int .i64 s4, .int .i64 s5, .int .i64 s5]) = w5 at hW5 hS5 hg5 ⊢
      clear hcp hcur hcsz hcget r0 r1 r2 r3 r4 r5 f0 f1 f2 f3 f4 f5 hcell
      have c5 : w5.cell? ⟨G + 1, 5, none⟩ = some (.int .i64 (s5 : Int)) := hW5.cell (i := 5) (by decide)
      have f5 := hW5.frozen 5
      have hS6 : w.Since w.heap.size (w5.setCell ⟨G + 1, 5, none⟩ (.int .i64 0)) := hS5.setCell (by show w.heap.size ≤ G + 1; omega) _
      have hg6 : (w5.setCell ⟨G + 1, 5, none⟩ (.int .i64 0)).rowIs G 79 6 (intF genG) := hg5.setOther (by show G ≠ G + 1; omega) _
      have hr6 : (w5.setCell ⟨G + 1, 5, none⟩ (.int .i64 0)).rowIs (G + 1) 79 6 (intF (partMap (fun i x => x ^^^ gm F (genG.getD i 0)) (shl r) 0)) := by
        rw [partMap_zero]
        refine (hW5.set 5 (.int .i64 0)).congr fun i hi => ?_
        unfold intF
        rw [shl_get hrl i hi]
        match i, hi with
        | 0, _ => rw [if_neg (by decide), if_pos (by decide)]; show Value.int .i64 (s1 : Int) = Value.int .i64 ((r.getD 1 0 : Nat) : Int); rw [hs1]
        | 1, _ => rw [if_neg (by decide), if_pos (by decide)]; show Value.int .i64 (s2 : Int) = Value.int .i64 ((r.getD 2 0 : Nat) : Int); rw [hs2]
        | 2, _ => rw [if_neg (by decide), if_pos (by decide)]; show Value.int .i64 (s3 : Int) = Value.int .i64 ((r.getD 3 0 : Nat) : Int); rw [hs3]
        | 3, _ => rw [if_neg (by decide), if_pos (by decide)]; show Value.int .i64 (s4 : Int) = Value.int .i64 ((r.getD 4 0 : Nat) : Int); rw [hs4]
        | 4, _ => rw [if_neg (by decide), if_pos (by decide)]; show Value.int .i64 (s5 : Int) = Value.int .i64 ((r.getD 5 0 : Nat) : Int); rw [hs5]
        | 5, _ => rw [if_pos rfl, if_neg (by decide)]; rfl
      have hsl : Sml (shl r) := shl_sml hrs
      have hll : (shl r).length = 6 := shl_len hrl
      clear hs0 hs1 hs2 hs3 hs4 hs5 hW5 hrs hrl hFe
      generalize shl r = q at hr6 hnx hsl hll
      go_wp2
      go_loopw [37] (fun v wi => ∃ i : Nat, i ≤ 6 ∧ v = .int .i64 i ∧ w.Since w.heap.size wi ∧ wi.rowIs G 79 6 (intF genG) ∧ wi.rowIs (G + 1) 79 6 (intF (partMap (fun i x => x ^^^ gm F (genG.getD i 0)) q i))) (fun v _ => 6 - (RowKit.intOf v).toNat)
      case atStart => exact ⟨0, Nat.zero_le _, rfl, hS6, hg6, hr6⟩
      case round =>
        obtain ⟨i, hi, rfl, hSi, hgi, hri⟩ := hrel
        by_cases hi6 : i < 6
        · have hii : (i : Int) < 6 := by omega
          have hgc := hgi.cell hi6
          have hrc := hri.cell hi6
          have hrf := hri.frozen i
          unfold intF at hgc hrc
          rw [partMap_get _ _ _ _ (by omega), if_neg (Nat.lt_irrefl _)] at hrc
          have hstep := partMap_step (fun i x => x ^^^ gm F (genG.getD i 0)) q i (by omega)
          have htw : TabsAt wr := tabsS ht hSi h2
          have hx : q.getD i 0 < 32 := getD_sml hsl i
          have hy : genG.getD i 0 < 32 := getD_sml genG_sml i
          have ml : ∀ w' : World, TabsAt w' → Calls Tryd.prog 44 #[.int .i64 (F : Int), .int .i64 (genG.getD i 0 : Int)] w' fun e w'' => e = .returned (.int .i64 (gm F (genG.getD i 0) : Int)) ∧ ∃ n, w'' = w'.drewN n := by
            intro w' h'
            rw [← mulI_nat hF hy]
            exact Tryd.Mul_walk _ _ _ h'
          have hnext : ∀ a, w.Since w.heap.size ((wr.drewN a).setCell ⟨G + 1, i, none⟩ (.int .i64 (bits .xor .i64 (q.getD i 0 : Int) (gm F (genG.getD i 0) : Int)))) ∧ ((wr.drewN a).setCell ⟨G + 1, i, none⟩ (.int .i64 (bits .xor .i64 (q.getD i 0 : Int) (gm F (genG.getD i 0) : Int)))).rowIs G 79 6 (intF genG) ∧ ((wr.drewN a).setCell ⟨G + 1, i, none⟩ (.int .i64 (bits .xor .i64 (q.getD i 0 : Int) (gm F (genG.getD i 0) : Int)))).rowIs (G + 1) 79 6 (intF (partMap (fun i x => x ^^^ gm F (genG.getD i 0)) q (i + 1))) := by
            intro a
            refine ⟨(sinceDrewN hSi a).setCell (by show w.heap.size ≤ G + 1; omega) _, (show (wr.drewN a).rowIs G 79 6 _ from hgi).setOther (by show G ≠ G + 1; omega) _, ((show (wr.drewN a).rowIs (G + 1) 79 6 _ from hri).set i _).congr fun k hk => ?_⟩
            rw [xor_nat hx (gm_lt _ _), ← hstep]
            unfold intF
            rw [getD_setN _ _ _ _ (by rw [partMap_len]; omega)]
            split <;> rfl
          clear hstep
          generalize gm F (genG.getD i 0) = z at ml hnext
          generalize q.getD i 0 = x at hrc hnext hx
          generalize genG.getD i 0 = y at hgc ml hy
          go_wp2
          go_region_law (first
            | (go_simp; go_at_call 44; refine (ml _ (by first | exact htw | exact ⟨htw.pw, htw.lg⟩)).mono ?_; rintro e w1 ⟨rfl, n1, rfl⟩))
          all_goals
            go_wp2
            exact ⟨⟨i + 1, by omega, by simp, hnext _⟩, by simp [RowKit.intOf]; omega⟩
        · have hie : i = 6 := by omega
          subst hie
          rw [← hnx] at hri
          go_wp2
          exact ⟨⟨k + 1, by omega, by simp, hSi, hgi, hri⟩, by simp [RowKit.intOf]; omega⟩
    · have hke : k = l.length := by omega
      subst hke
      rw [restK_end] at hr
      have hcl : ∀ c, Calls Tryd.prog 45 #[.slice (some ⟨b, o, none⟩) l.length c] wr.drew fun e w' => ∃ v, e = .returned v ∧ wr.Since wr.heap.size w' ∧ w'.ownsRow wr.heap.size 3 1 v l.length (intV l) ∧ v ≠ .slice none 0 0 := by
        intro c
        have h := Tryd.clone_walk b o c (intV l) wr.drew (fun j u hu => by
          have hj : j < l.length := by have := (List.getElem?_eq_some_iff.1 hu).1; rwa [intV_len] at this
          rw [intV_get l j hj] at hu
          cases hu
          exact (hS.cell (a := ⟨b, o + j, none⟩) hb).trans (hw j hj)) (intV_one _) (by rw [intV_len]; omega)
        rw [intV_len] at h
        refine h.mono ?_
        rintro e w' ⟨v, h1, h2, h3, h4⟩
        exact ⟨v, h1, ⟨h2.os, h2.tape, h2.output, h2.size, h2.block⟩, h3, h4⟩
      have hl6 := (enc_ok hs).1
      have henc : encP l = l ++ encRest l := rfl
      generalize encRest l = q at hr hl6 henc
      have hG3 := hr.lt
      have hle := hS.size
      have hnew : ∀ w2 : World, wr.Since wr.heap.size w2 → ∀ j u, (intV q)[j]? = some u → w2.cell? ((⟨G + 1, 0, none⟩ : Addr).add j) = some u := by
        intro w2 h j u hu
        have hj : j < q.length := by have := (List.getElem?_eq_some_iff.1 hu).1; rwa [intV_len] at this
        rw [intV_get q j hj] at hu
        cases hu
        rw [show (⟨G + 1, 0, none⟩ : Addr).add j = ⟨G + 1, j, none⟩ by unfold Addr.add; split <;> simp_all]
        exact (h.cell (a := ⟨G + 1, j, none⟩) hG3).trans (hr.cell (by omega))
      go_wp2
      go_region_law (first
        | (refine step_append_lies _ (by rfl) _ _ _ (by rfl) wr.heap.size 3 i3 (.int .i64 0) 1 8 Tryd.underlying22 hi3 hz30 hz31 hz32 rfl (by omega) v3 l.length (intV l) (by rfl) (by first | exact hO3 | exact hO3.drew)
            ⟨G + 1, 0, none⟩ 6 6 (intV q) (by rfl) (by rw [intV_len, hl6]) (hnew _ hS3) (intV_one q)
            (by omega) (by unfold maxLen; omega) (by omega) (by exact hS3.size) _ rfl ?_; intro gg cap1 wA hownA hgrow hat hlt)
        | (go_simp; go_at_call 45; refine (hcl _).mono ?_; rintro e w3 ⟨v3, rfl, hS3, hO3, hn3⟩))
      all_goals
        have hfin := hS.trans (sinceMono (growSince hS3 hgrow (fun k hk => (hO3.lt k hk).1) hS3.size) hle)
        have hown5 := ownMono hownA hle
        rw [← intV_app, ← henc] at hown5
        clear hnew hgrow hat hlt hownA hO3 hS3 hcl
        go_wp2
        go_ret2
        exact ⟨_, rfl, hfin, hown5⟩
end Go.Proofs
namespace Go.Proofs
open Go.RowKit Go.LS Go.Deep
set_option linter.all false

theorem srch_cons (f : List Nat → Option (List Nat)) (x : Nat) (l : List Nat) (w : Nat) (ps : List Nat) : srch f (x :: l) (w + 1) ps = match srch f l w (ps ++ [x]) with | some r => some r | none => srch f l (w + 1) ps := rfl
theorem srch_nil (f : List Nat → Option (List Nat)) (w : Nat) (ps : List Nat) : srch f [] (w + 1) ps = none := rfl
theorem own_keep {w w' : World} {B e size n : Nat} {v : Value} {xs : List Value} (h : w.ownsRow B e size v n xs) (hS : w.Since w.heap.size w') : w'.ownsRow B e size v n xs :=
  h.kept (row := none) ⟨hS.os, hS.tape, hS.output, hS.size, fun k hk _ => hS.block k hk⟩ (by cases v.ownBlock <;> simp)
def searchV (bS bW bP bV bH bF : Nat) : Value := .func (.func 54) #[] #[.pointer (some ⟨bS, 0, none⟩), .pointer (some ⟨bW, 0, none⟩), .pointer (some ⟨bP, 0, none⟩), .pointer (some ⟨bV, 0, none⟩), .pointer (some ⟨bH, 0, none⟩), .pointer (some ⟨bF, 0, none⟩)]
structure DecW (w wr : World) (B bW bP bH bS bV bF : Nat) (bD nD : Nat) (fc : Nat → Value) (wv hv : Value) (ss whole ps : List Nat) (pv vv : Value) : Prop where
  since : w.Since B wr
  ord : B ≤ bW ∧ bW < bD ∧ bD < bP ∧ bP < bH ∧ bH < bS ∧ bS < bV ∧ bV < bF ∧ bF < wr.heap.size
  word : ValsAt wr bW 1 (fun _ => wv)
  fill : ValsAt wr bD nD fc
  sums : ValsAt wr bS 6 (intF ss)
  wholeV : ValsAt wr bH 1 (fun _ => hv)
  fn : ValsAt wr bF 1 (fun _ => searchV bS bW bP bV bH bF)
  places : ValsAt wr bP 1 (fun _ => pv)
  values : ValsAt wr bV 1 (fun _ => vv)
  ownP : wr.ownsRow B 3 1 pv ps.length (intV ps)
  ownH : wr.ownsRow B 3 1 hv whole.length (intV whole)
  farP : ∀ x, pv.ownBlock = some x → x ≠ bW ∧ x ≠ bP ∧ x ≠ bH ∧ x ≠ bS ∧ x ≠ bV ∧ x ≠ bF ∧ x ≠ bD
  farH : ∀ x, hv.ownBlock = some x → x ≠ bW ∧ x ≠ bP ∧ x ≠ bH ∧ x ≠ bS ∧ x ≠ bV ∧ x ≠ bF ∧ x ≠ bD
  apart : hv.ownBlock = none ∨ hv.ownBlock ≠ pv.ownBlock
variable {w wr : World} {B bW bP bH bS bV bF bD nD : Nat} {fc : Nat → Value} {wv hv : Value} {ss whole ps : List Nat} {pv vv : Value}
theorem DecW.keep (h : DecW w wr B bW bP bH bS bV bF bD nD fc wv hv ss whole ps pv vv) {w' : World} (hS : wr.Since wr.heap.size w') : DecW w w' B bW bP bH bS bV bF bD nD fc wv hv ss whole ps pv vv := by
  obtain ⟨o1, o2, o8, o3, o4, o5, o6, o7⟩ := h.ord
  have hb : ∀ k, k ≤ bF → w'.heap[k]? = wr.heap[k]? := fun k hk => hS.block k (by omega)
  exact ⟨h.since.trans (sinceMono hS (by omega)), ⟨o1, o2, o8, o3, o4, o5, o6, by have := hS.size; omega⟩, h.word.of_block (hb _ (by omega)), h.fill.of_block (hb _ (by omega)), h.sums.of_block (hb _ (by omega)), h.wholeV.of_block (hb _ (by omega)), h.fn.of_block (hb _ (by omega)), h.places.of_block (hb _ (by omega)), h.values.of_block (hb _ (by omega)), own_keep h.ownP hS, own_keep h.ownH hS, h.farP, h.farH, h.apart⟩
theorem DecW.drewN (h : DecW w wr B bW bP bH bS bV bF bD nD fc wv hv ss whole ps pv vv) (k : Nat) : DecW w (wr.drewN k) B bW bP bH bS bV bF bD nD fc wv hv ss whole ps pv vv :=
  ⟨sinceDrewN h.since k, h.ord, h.word, h.fill, h.sums, h.wholeV, h.fn, h.places, h.values, h.ownP, h.ownH, h.farP, h.farH, h.apart⟩
/-- a store to the variable of the values -/
theorem DecW.setV (h : DecW w wr B bW bP bH bS bV bF bD nD fc wv hv ss whole ps pv vv) (v : Value) : DecW w (wr.setCell ⟨bV, 0, none⟩ v) B bW bP bH bS bV bF bD nD fc wv hv ss whole ps pv v := by
  obtain ⟨o1, o2, o8, o3, o4, o5, o6, o7⟩ := h.ord
  refine ⟨h.since.setCell (by show B ≤ bV; omega) _, ⟨o1, o2, o8, o3, o4, o5, o6, by simpa [World.setCell] using o7⟩, h.word.setOther (by show bW ≠ bV; omega) _, h.fill.setOther (by show bD ≠ bV; omega) _, h.sums.setOther (by show bS ≠ bV; omega) _, h.wholeV.setOther (by show bH ≠ bV; omega) _, h.fn.setOther (by show bF ≠ bV; omega) _, h.places.setOther (by show bP ≠ bV; omega) _, (h.values.set 0 v).congr fun i hi => by rw [if_pos (by omega)], own_setOther h.ownP ?_ _, own_setOther h.ownH ?_ _, h.farP, h.farH, h.apart⟩
  · cases hb : pv.ownBlock with
    | none => exact .inl rfl
    | some x => right; intro e; exact (h.farP x hb).2.2.2.2.1 (Option.some.inj e)
  · cases hb : hv.ownBlock with
    | none => exact .inl rfl
    | some x => right; intro e; exact (h.farH x hb).2.2.2.2.1 (Option.some.inj e)
/-- a store to the variable of the places, of a value that owns what it should -/
theorem DecW.setP (h : DecW w wr B bW bP bH bS bV bF bD nD fc wv hv ss whole ps pv vv) {w1 : World} {pv' : Value} {ps' : List Nat} (hg : wr.grownBy w1 pv.ownBlock) (hown : w1.ownsRow B 3 1 pv' ps'.length (intV ps')) (hat : ∀ x, pv'.ownBlock = some x → pv.ownBlock = some x ∨ wr.heap.size ≤ x) :
    DecW w (w1.setCell ⟨bP, 0, none⟩ pv') B bW bP bH bS bV bF bD nD fc wv hv ss whole ps' pv' vv := by
  obtain ⟨o1, o2, o8, o3, o4, o5, o6, o7⟩ := h.ord
  have hne : ∀ k, (k = bW ∨ k = bP ∨ k = bH ∨ k = bS ∨ k = bV ∨ k = bF ∨ k = bD) → some k ≠ pv.ownBlock := by
    intro k hk e
    have := h.farP k e.symm
    omega
  have hb : ∀ k, (k = bW ∨ k = bP ∨ k = bH ∨ k = bS ∨ k = bV ∨ k = bF ∨ k = bD) → w1.heap[k]? = wr.heap[k]? := fun k hk => hg.block k (by omega) (hne k hk)
  have hH1 : w1.ownsRow B 3 1 hv whole.length (intV whole) := h.ownH.kept hg h.apart
  have far : ∀ x, pv'.ownBlock = some x → x ≠ bW ∧ x ≠ bP ∧ x ≠ bH ∧ x ≠ bS ∧ x ≠ bV ∧ x ≠ bF ∧ x ≠ bD := by
    intro x hx
    rcases hat x hx with e | e
    · exact h.farP x e
    · omega
  refine ⟨(h.since.grown hg (by omega) (fun k hk => (h.ownP.lt k hk).1)).setCell (by show B ≤ bP; omega) _, ⟨o1, o2, o8, o3, o4, o5, o6, by have := hg.size; simp [World.setCell]; omega⟩, (h.word.of_block (hb _ (by simp))).setOther (by show bW ≠ bP; omega) _, (h.fill.of_block (hb _ (by simp))).setOther (by show bD ≠ bP; omega) _, (h.sums.of_block (hb _ (by simp))).setOther (by show bS ≠ bP; omega) _, (h.wholeV.of_block (hb _ (by simp))).setOther (by show bH ≠ bP; omega) _, (h.fn.of_block (hb _ (by simp))).setOther (by show bF ≠ bP; omega) _, ((h.places.of_block (hb _ (by simp))).set 0 pv').congr (fun i hi => by rw [if_pos (by omega)]), (h.values.of_block (hb _ (by simp))).setOther (by show bV ≠ bP; omega) _, own_setOther hown ?_ _, own_setOther hH1 ?_ _, far, h.farH, ?_⟩
  · cases hb : pv'.ownBlock with
    | none => exact .inl rfl
    | some x => right; intro e; exact (far x hb).2.1 (Option.some.inj e)
  · cases hb : hv.ownBlock with
    | none => exact .inl rfl
    | some x => right; intro e; exact (h.farH x hb).2.1 (Option.some.inj e)
  · cases hb : hv.ownBlock with
    | none => exact .inl rfl
    | some x =>
      right
      intro e
      rcases hat x e.symm with e1 | e1
      · rcases h.apart with e2 | e2
        · rw [hb] at e2; cases e2
        · exact e2 (by rw [hb, e1])
      · have := (h.ownH.lt x hb).2; omega
/-- a store to the word that is corrected -/
theorem DecW.setF (h : DecW w wr B bW bP bH bS bV bF bD nD fc wv hv ss whole ps pv vv) (i : Nat) (v : Value) : DecW w (wr.setCell ⟨bD, i, none⟩ v) B bW bP bH bS bV bF bD nD (fun j => if j = i then v else fc j) wv hv ss whole ps pv vv := by
  obtain ⟨o1, o2, o8, o3, o4, o5, o6, o7⟩ := h.ord
  refine ⟨h.since.setCell (by show B ≤ bD; omega) _, ⟨o1, o2, o8, o3, o4, o5, o6, by simpa [World.setCell] using o7⟩, h.word.setOther (by show bW ≠ bD; omega) _, h.fill.set i v, h.sums.setOther (by show bS ≠ bD; omega) _, h.wholeV.setOther (by show bH ≠ bD; omega) _, h.fn.setOther (by show bF ≠ bD; omega) _, h.places.setOther (by show bP ≠ bD; omega) _, h.values.setOther (by show bV ≠ bD; omega) _, own_setOther h.ownP ?_ _, own_setOther h.ownH ?_ _, h.farP, h.farH, h.apart⟩
  · cases hb : pv.ownBlock with
    | none => exact .inl rfl
    | some x => right; intro e; exact (h.farP x hb).2.2.2.2.2.2 (Option.some.inj e)
  · cases hb : hv.ownBlock with
    | none => exact .inl rfl
    | some x => right; intro e; exact (h.farH x hb).2.2.2.2.2.2 (Option.some.inj e)
theorem DecW.fillCongr (h : DecW w wr B bW bP bH bS bV bF bD nD fc wv hv ss whole ps pv vv) {g : Nat → Value} (e : ∀ i, i < nD → fc i = g i) : DecW w wr B bW bP bH bS bV bF bD nD g wv hv ss whole ps pv vv :=
  ⟨h.since, h.ord, h.word, h.fill.congr e, h.sums, h.wholeV, h.fn, h.places, h.values, h.ownP, h.ownH, h.farP, h.farH, h.apart⟩
/-- what is owned of a slice that is cut at its end -/
theorem own_cut {w : World} {B g cap : Nat} {ps : List Nat} {x : Nat} (h : w.ownsRow B 3 1 (.slice (some ⟨g, 0, none⟩) (ps.length + 1) cap) (ps.length + 1) (intV (ps ++ [x]))) : w.ownsRow B 3 1 (.slice (some ⟨g, 0, none⟩) ps.length cap) ps.length (intV ps) := by
  refine ⟨by rw [intV_len]; omega, ?_⟩
  rcases h.2 with ⟨h1, _⟩ | ⟨g', cap', cur, e1, hb, hc, hn, hm, hs, ht⟩
  · cases h1
  · cases e1
    refine .inr ⟨g, cap, cur, rfl, hb, hc, by omega, hm, hs, ?_⟩
    rw [intV_app] at ht
    have : (cur.toList.take ((ps.length + 1) * 1)).take ps.length = intV ps := by rw [ht]; rw [← intV_len ps, List.take_left]
    rw [List.take_take] at this
    rw [← this, Nat.mul_one, Nat.mul_one]
    congr 1; omega
end Go.Proofs
namespace Go.Proofs
open Go.RowKit Go.LS Go.Deep
set_option linter.all false

def SearchPost (w : World) (B bW bP bH bS bV bF bD nD : Nat) (fc : Nat → Value) (wv hv : Value) (ss whole : List Nat) (n : Nat) (next wrong : Nat) (ps : List Nat) (e : Ending) (w' : World) : Prop :=
  ∃ ok pv' vv' ps', e = .returned (.bool ok) ∧ DecW w w' B bW bP bH bS bV bF bD nD fc wv hv ss whole ps' pv' vv' ∧
    ((ok = true ∧ ∃ v, srch (corrP n ss) (whole.drop next) wrong ps = some (ps', v) ∧ v.length = ps'.length ∧ w'.ownsRow B 3 1 vv' v.length (intV v) ∧ ∀ x, vv'.ownBlock = some x → bF < x) ∨ (ok = false ∧ ps' = ps ∧ srch (corrP n ss) (whole.drop next) wrong ps = none))
theorem own_form0 {w : World} {B n : Nat} {v : Value} {xs : List Value} (h : w.ownsRow B 3 1 v n xs) : ∃ ao cap, v = .slice ao n cap ∧ (0 < n → ∃ g, ao = some ⟨g, 0, none⟩ ∧ g < w.heap.size ∧ v.ownBlock = some g) := by
  rcases h.2 with ⟨h1, h2⟩ | ⟨g, cap, cur, e1, hb, hc, rest⟩
  · exact ⟨none, 0, by rw [h1, h2], fun h => by omega⟩
  · exact ⟨some ⟨g, 0, none⟩, cap, e1, fun _ => ⟨g, rfl, (Array.getElem?_eq_some_iff.1 hc).1, by rw [e1]; rfl⟩⟩
theorem nats_own {w : World} {B g cap n : Nat} {l : List Nat} (h : w.ownsRow B 3 1 (.slice (some ⟨g, 0, none⟩) n cap) n (intV l)) (hl : l.length = n) : NatsAt w g 0 l := by
  intro i hi
  rw [Nat.zero_add, h.cellAt i (by omega)]
  exact intV_get l i hi
theorem grow_alloc {wr wA : World} {o : Obj} {row : Option Nat} (h : (wr.alloc o).drew.grownBy wA row) : wr.grownBy wA row :=
  ⟨h.os, h.tape, h.output, by have := h.size; simp at this; omega, fun k hk hne => (h.block k (by simp; omega) hne).trans (Below.heap_alloc wr o k hk)⟩
theorem corr_form {w3 : World} {N : Nat} {v3 : Value} {ok3 : Bool} {P : List Nat → Prop} {Q : Prop} {places : List Nat} (hout : (ok3 = true ∧ ∃ vs : List Nat, vs.length = places.length ∧ P vs ∧ w3.ownsRow N 3 1 v3 places.length (intV vs)) ∨ (ok3 = false ∧ v3 = .slice none 0 0 ∧ Q)) : ∃ ao k cap, v3 = .slice ao k cap := by
  rcases hout with ⟨_, vs, _, _, h⟩ | ⟨_, h, _⟩
  · obtain ⟨ao, cap, e, _⟩ := own_form0 h
    exact ⟨ao, _, cap, e⟩
  · exact ⟨none, 0, 0, h⟩
set_option maxHeartbeats 8000000 in
set_option maxRecDepth 100000 in
theorem Tryd.search_walk {w : World} {B bW bP bH bS bV bF bD nD wb wo wc n s0 s1 s2 s3 s4 s5 : Nat} {fc : Nat → Value} {hv : Value} {whole : List Nat} (hB : 2 ≤ B) (ht : TabsAt w) (hn : n ≤ 31) (hss : Sml [s0, s1, s2, s3, s4, s5]) (hwl : whole.length ≤ 31) (hwn : ∀ i ∈ whole, i < n) :
    ∀ (wrong next : Nat) (ps : List Nat) (pv vv : Value) (wr : World), DecW w wr B bW bP bH bS bV bF bD nD fc (.slice (some ⟨wb, wo, none⟩) n wc) hv [s0, s1, s2, s3, s4, s5] whole ps pv vv → (∀ i ∈ ps, i < n) → ps.length + wrong ≤ 6 → next ≤ whole.length →
      Calls Tryd.prog 54 #[.int .i64 (next : Int), .int .i64 (wrong : Int), .pointer (some ⟨bS, 0, none⟩), .pointer (some ⟨bW, 0, none⟩), .pointer (some ⟨bP, 0, none⟩), .pointer (some ⟨bV, 0, none⟩), .pointer (some ⟨bH, 0, none⟩), .pointer (some ⟨bF, 0, none⟩)] wr fun e w' => SearchPost w B bW bP bH bS bV bF bD nD fc (.slice (some ⟨wb, wo, none⟩) n wc) hv [s0, s1, s2, s3, s4, s5] whole n next wrong ps e w' := by
  intro wrong
  induction wrong with
  | zero =>
    intro next ps pv vv wr h hps hpl hnx
    obtain ⟨o1, o2, o8, o3, o4, o5, o6, o7⟩ := h.ord
    have c0 : wr.cell? ⟨bS, 0, none⟩ = some (.int .i64 (s0 : Int)) := h.sums.cell (i := 0) (by decide)
    have c1 : wr.cell? ⟨bS, 1, none⟩ = some (.int .i64 (s1 : Int)) := h.sums.cell (i := 1) (by decide)
    have c2 : wr.cell? ⟨bS, 2, none⟩ = some (.int .i64 (s2 : Int)) := h.sums.cell (i := 2) (by decide)
    have c3 : wr.cell? ⟨bS, 3, none⟩ = some (.int .i64 (s3 : Int)) := h.sums.cell (i := 3) (by decide)
    have c4 : wr.cell? ⟨bS, 4, none⟩ = some (.int .i64 (s4 : Int)) := h.sums.cell (i := 4) (by decide)
    have c5 : wr.cell? ⟨bS, 5, none⟩ = some (.int .i64 (s5 : Int)) := h.sums.cell (i := 5) (by decide)
    have cW := h.word.cell (i := 0) (by decide)
    have cP := h.places.cell (i := 0) (by decide)
    have hV : ∀ w' : World, wr.Since wr.heap.size w' → w'.cell? ⟨bV, 0, none⟩ = some vv ∧ w'.frozen? ⟨bV, 0, none⟩ = false := fun w' hS => ⟨(h.keep hS).values.cell (i := 0) (by decide), (h.keep hS).values.frozen 0⟩
    obtain ⟨ao, pcap, rfl, hao⟩ := own_form0 h.ownP
    have hcor : ∀ c, Calls Tryd.prog 55 #[.agg #[.int .i64 (s0 : Int), .int .i64 (s1 : Int), .int .i64 (s2 : Int), .int .i64 (s3 : Int), .int .i64 (s4 : Int), .int .i64 (s5 : Int)], .int .i64 (n : Int), .slice ao ps.length c] wr fun e w' => corrPost wr n [s0, s1, s2, s3, s4, s5] ps e w' := fun c =>
      Tryd.corrections_walk s0 s1 s2 s3 s4 s5 ps n c ao wr hss (tabsS ht h.since hB) (by omega) hn (by omega) (fun h0 => by
        obtain ⟨g, rfl, hg, _⟩ := hao h0
        exact ⟨g, 0, rfl, hg, nats_own h.ownP rfl⟩) hps
    go_enter Tryd.func54, Tryd.ntmps54
    go_wp2_with (first
      | (go_at_call 55; refine (hcor _).mono ?_; rintro e w3 ⟨v3, ok3, rfl, hS3, hout⟩; obtain ⟨cV, fV⟩ := hV w3 hS3; obtain ⟨ao3, k3, cap3, rfl⟩ := corr_form hout))
    go_ret
    have hk := (h.keep hS3).setV (.slice ao3 k3 cap3)
    rcases hout with ⟨rfl, vs, hvl, hc, ho⟩ | ⟨rfl, _, hc⟩
    · refine ⟨true, _, _, ps, rfl, hk, .inl ⟨rfl, vs, by rw [srch_zero, hc]; rfl, hvl, ?_, fun x hx => by have := (ho.lt x hx).1; omega⟩⟩
      rw [hvl]
      refine own_setOther (ownMono ho (by omega)) ?_ _
      cases hb : (Value.slice ao3 k3 cap3).ownBlock with
      | none => exact .inl rfl
      | some x => right; intro e; have := (ho.lt x hb).1; have := Option.some.inj e; omega
    · exact ⟨false, _, _, ps, rfl, hk, .inr ⟨rfl, rfl, by rw [srch_zero, hc]; rfl⟩⟩
  | succ wrong ih =>
    intro next ps pv vv wr h hps hpl hnx
    rw [show ((wrong + 1 : Nat) : Int) = (wrong : Int) + 1 by omega]
    have hw0 : ¬ (wrong : Int) + 1 = 0 := by omega
    have hw1 : ((wrong : Int) + 1 == 0) = false := by simp; omega
    obtain ⟨i3, hi3, hz30, hz31, hz32⟩ := info_parts Tryd.info3
    go_enter Tryd.func54, Tryd.ntmps54
    go_wp2
    go_loopw [12] (fun v wi => ∃ (k : Nat) (pv vv : Value), next ≤ k ∧ k ≤ whole.length ∧ v = .int .i64 k ∧ DecW w wi B bW bP bH bS bV bF bD nD fc (.slice (some ⟨wb, wo, none⟩) n wc) hv [s0, s1, s2, s3, s4, s5] whole ps pv vv ∧ srch (corrP n [s0, s1, s2, s3, s4, s5]) (whole.drop next) (wrong + 1) ps = srch (corrP n [s0, s1, s2, s3, s4, s5]) (whole.drop k) (wrong + 1) ps) (fun v _ => whole.length - (RowKit.intOf v).toNat)
    case atStart => exact ⟨next, pv, vv, Nat.le_refl _, hnx, rfl, h, rfl⟩
    case round =>
      obtain ⟨k, pv, vv, hk1, hk2, rfl, hI, hE⟩ := hrel
      obtain ⟨o1, o2, o8, o3, o4, o5, o6, o7⟩ := hI.ord
      have cH := hI.wholeV.cell (i := 0) (by decide)
      obtain ⟨hao, hcap, rfl, hhf⟩ := own_form0 hI.ownH
      by_cases hkl : k < whole.length
      · obtain ⟨hg, rfl, hglt, hgo⟩ := hhf (by omega)
        have hel := nats_own hI.ownH rfl k hkl
        rw [Nat.zero_add] at hel
        have hpn : whole.getD k 0 < n := by
          rw [List.getD_eq_getElem?_getD, List.getElem?_eq_getElem hkl]; exact hwn _ (List.getElem_mem hkl)
        have hdrop : whole.drop k = whole.getD k 0 :: whole.drop (k + 1) := by
          rw [List.drop_eq_getElem_cons hkl, List.getD_eq_getElem?_getD, List.getElem?_eq_getElem hkl]; rfl
        generalize whole.getD k 0 = x at hel hpn hdrop
        have cP := hI.places.cell (i := 0) (by decide)
        have fP := hI.places.frozen 0
        have hown := hI.ownP
        have hki : (k : Int) < (whole.length : Int) := by omega
        have hneP : some bP ≠ pv.ownBlock := fun e => (hI.farP bP e.symm).2.1 rfl
        have hltP : bP < wr.heap.size := by omega
        go_wp2
        go_region_law (first
          | (refine step_append_lies _ (by rfl) _ _ _ (by rfl) B 3 i3 (.int .i64 0) 1 8 Tryd.underlying22 hi3 hz30 hz31 hz32 rfl (by omega) pv ps.length (intV ps) (by rfl) (by first | exact hown.alloc _ | exact (hown.alloc _).drew)
                ⟨wr.heap.size, 0, none⟩ 1 1 [.int .i64 (x : Int)] (by rfl) (by rfl) (World.news_of_block (cs := #[.int .i64 (x : Int)]) (t := 3) (fr := (0, 0)) (heap_alloc_new wr _)) (by simp [Value.oneCell'])
                (by omega) (by unfold maxLen; omega) (by omega) (by simp; omega) _ rfl ?_; intro gg cap1 wA hownA hgrow hat hlt; have hfA := (hgrow.cell_far ⟨bP, 0, none⟩ (by simp; omega) hneP).trans ((World.cell?_alloc_past (w := wr) _ _ _ hltP).trans cP); have hfB := (hgrow.frozen_far ⟨bP, 0, none⟩ (by simp; omega) hneP).trans ((World.frozen?_alloc_past (w := wr) _ _ _ hltP).trans fP)))
        all_goals
          have hD := hI.setP (pv' := .slice (some ⟨gg, 0, none⟩) (ps.length + 1) cap1) (ps' := ps ++ [x]) (grow_alloc hgrow) (by rw [List.length_append, List.length_singleton, intV_app]; exact hownA) (fun y hy => by
            have : gg = y := Option.some.inj hy
            subst this
            rcases hat with e | e
            · exact .inl e
            · right; rw [e]; simp)
          have hcall := ih (k + 1) (ps ++ [x]) _ _ _ hD (fun i hi => by
            rcases List.mem_append.1 hi with h1 | h1
            · exact hps i h1
            · simp at h1; omega) (by simp; omega) (by omega)
          have cF := hD.fn.cell (i := 0) (by decide)
          unfold searchV at cF
          have ek : ((k + 1 : Nat) : Int) = (k : Int) + 1 := by omega
          rw [ek] at hcall
          clear ek hgrow hownA hlt hfA hfB hat hown cP fP hel
          generalize (wA.setCell ⟨bP, 0, none⟩ (.slice (some ⟨gg, 0, none⟩) (ps.length + 1) cap1)) = wB at hD hcall cF ⊢
          have hwr : IntKind.i64.wrap ((wrong : Int) + 1 - 1) = (wrong : Int) := by rw [IntWalk.i64_in _ (by omega)]; omega
          go_wp2_with fail
          go_at_call 54
          refine hcall.mono ?_
          rintro e w5 ⟨ok5, pv5, vv5, ps5, rfl, hD5, hout5⟩
          rcases hout5 with ⟨rfl, v5, hs5, hl5, ho5, hb5⟩ | ⟨rfl, rfl, hs5⟩
          · go_wp2
            go_ret
            exact ⟨true, _, _, ps5, rfl, hD5, .inl ⟨rfl, v5, by rw [hE, hdrop, srch_cons, hs5], hl5, ho5, hb5⟩⟩
          · obtain ⟨ao5, cap5, rfl, hf5⟩ := own_form0 hD5.ownP
            obtain ⟨g5, rfl, hg5, _⟩ := hf5 (by simp)
            have cP5 := hD5.places.cell (i := 0) (by decide)
            have fP5 := hD5.places.frozen 0
            have hown5 := hD5.ownP
            have hcap5 := own_cap hown5
            have hD6 := hD5.setP (pv' := .slice (some ⟨g5, 0, none⟩) ps.length cap5) (ps' := ps) ⟨rfl, rfl, rfl, Nat.le_refl _, fun _ _ _ => rfl⟩ (own_cut (x := x) (by rw [List.length_append, List.length_singleton] at hown5; exact hown5)) (fun y hy => .inl hy)
            rw [List.length_append, List.length_singleton] at cP5 hcap5
            have hcap0 : ¬ cap5 = 0 := by omega
            have hE6 := hE
            rw [hdrop, srch_cons, hs5] at hE6
            go_wp2
            all_goals exact ⟨⟨k + 1, _, _, by omega, by omega, by simp, hD6, hE6⟩, by simp [RowKit.intOf]; omega⟩
      · have hke : k = whole.length := by omega
        subst hke
        rw [List.drop_length, srch_nil] at hE
        go_wp2
        go_ret
        exact ⟨false, _, _, ps, rfl, hI, .inr ⟨rfl, rfl, hE⟩⟩
end Go.Proofs
