/-
  Walks of the field's functions, the syndromes, matrices, elimination. No condition but those that each theorem names.
-/
import Derived.Test.YtmgjidfafnajnaaDoorPRX
import Derived.Test.YtmgjidfafnajnaaDoorProg
import Derived.KernelRfl
import Derived.Tactics
import Derived.WalkKit
import Derived.BigCall
import Derived.BigGuard
import Derived.LoopTactic
import Derived.Deep.Draws
import Derived.Deep.LoopGhost
import Derived.Deep.OwnRows
import Derived.IntWalk
import Derived.Laws.Rows
import Derived.Deep.RegionLaw
import Derived.Deep.RegionWith
import Derived.Deep.RegionHeld3
namespace Go.Proofs
open Go.RowKit Go.LS
set_option linter.all false

/-- The two tables, cell by cell. -/
structure TabsAt (w : World) : Prop where
  pw : ∀ k : Nat, k < 31 → w.cell? ⟨0, k, none⟩ = some (.int .i64 (powT.getD k 0))
  lg : ∀ k : Nat, k < 32 → w.cell? ⟨1, k, none⟩ = some (.int .i64 (logT.getD k 0))
theorem TabsAt.below {w w1 : World} (h : TabsAt w) (hb : Below w.heap.size w w1) (hs : 2 ≤ w.heap.size) : TabsAt w1 :=
  ⟨fun k hk => (hb.cell (p := ⟨0, k, none⟩) (by show 0 < _; omega)).trans (h.pw k hk), fun k hk => (hb.cell (p := ⟨1, k, none⟩) (by show 1 < _; omega)).trans (h.lg k hk)⟩
theorem TabsAt.drew {w : World} (h : TabsAt w) : TabsAt w.drew := ⟨h.pw, h.lg⟩
def el (a : Int) : Bool := decide (0 ≤ a) && decide (a < 32)
/-- Mul, Inverse, Power on ints -/
def mulI (a b : Int) : Int := if el a = true ∧ el b = true then (gm a.toNat b.toNat : Int) else 0
def invI (a : Int) : Int := if el a = true ∧ a ≠ 0 then (gi a.toNat : Int) else 0
def powI (n : Int) : Int := (ga (n % 31).toNat : Int)
theorem log_lt (k : Nat) (hk : k < 32) : 0 ≤ logT.getD k 0 ∧ logT.getD k 0 < 31 := by
  have h : allN 32 (fun k => decide (0 ≤ logT.getD k 0) && decide (logT.getD k 0 < 31)) = true := by decide +kernel
  simpa using allN_spec _ _ h k hk
theorem mul_tab (a b : Nat) (ha : a < 32) (hb : b < 32) (h1 : a ≠ 0) (h2 : b ≠ 0) : powT.getD ((logT.getD a 0 + logT.getD b 0) % 31).toNat 0 = (gm a b : Int) := by
  have h : allN 32 (fun a => allN 32 fun b => (a == 0) || (b == 0) || (powT.getD ((logT.getD a 0 + logT.getD b 0) % 31).toNat 0 == (gm a b : Int))) = true := by decide +kernel
  have := allN_spec _ _ (allN_spec _ _ h a ha) b hb
  simpa [h1, h2] using this
theorem inv_tab (a : Nat) (ha : a < 32) (h1 : a ≠ 0) : powT.getD ((31 - logT.getD a 0) % 31).toNat 0 = (gi a : Int) := by
  have h : allN 32 (fun a => (a == 0) || (powT.getD ((31 - logT.getD a 0) % 31).toNat 0 == (gi a : Int))) = true := by decide +kernel
  have := allN_spec _ _ h a ha
  simpa [h1] using this
theorem pow_tab (k : Nat) (hk : k < 31) : powT.getD k 0 = (ga k : Int) := by
  have h : allN 31 (fun k => powT.getD k 0 == (ga k : Int)) = true := by decide +kernel
  exact eq_of_beq (allN_spec _ _ h k hk)
theorem Tryd.isElement_walk (a : Int) (w : World) : Calls Tryd.prog 42 #[.int .i64 a] w fun e w' => e = .returned (.bool (el a)) ∧ w' = w := by
  go_enter Tryd.func42, Tryd.ntmps42
  go_wp2
  · rename_i h
    go_ret
    exact ⟨by simp [el, h], rfl⟩
  · rename_i h
    go_ret
    have : ¬ 0 ≤ a := by omega
    exact ⟨by simp [el, this], rfl⟩
theorem el_nat {a : Int} (h : el a = true) : ∃ k : Nat, a = (k : Int) ∧ k < 32 := by
  simp only [el, Bool.and_eq_true, decide_eq_true_eq] at h
  exact ⟨a.toNat, by omega, by omega⟩
theorem Tryd.Mul_walk (a b : Int) (w : World) (ht : TabsAt w) : Calls Tryd.prog 44 #[.int .i64 a, .int .i64 b] w fun e w' => e = .returned (.int .i64 (mulI a b)) ∧ ∃ n, w' = w.drewN n := by
  by_cases hz : el a = true ∧ el b = true ∧ a ≠ 0 ∧ b ≠ 0
  · obtain ⟨ha, hb, ha0, hb0⟩ := hz
    obtain ⟨k, rfl, hk⟩ := el_nat ha
    obtain ⟨l, rfl, hl⟩ := el_nat hb
    have hk0 : k ≠ 0 := by omega
    have hl0 : l ≠ 0 := by omega
    obtain ⟨g1, g2⟩ := log_lt k hk
    obtain ⟨g3, g4⟩ := log_lt l hl
    have hm := mul_tab k l hk hl hk0 hl0
    have c1 := ht.lg k hk
    have c2 := ht.lg l hl
    have c3 := ht.pw ((logT.getD k 0 + logT.getD l 0) % 31).toNat (by omega)
    have hr : mulI (k : Int) (l : Int) = (gm k l : Int) := by unfold mulI; rw [if_pos ⟨ha, hb⟩]; rfl
    rw [hm] at c3
    rw [hr]
    clear hm hr
    generalize logT.getD k 0 = x at *
    generalize logT.getD l 0 = y at *
    go_enter Tryd.func44, Tryd.ntmps44
    go_wp2_with (first
      | (go_at_call 42; refine (Tryd.isElement_walk _ _).mono ?_; rintro e w1 ⟨rfl, rfl⟩))
    · rename_i h
      exfalso
      simp at h; omega
    · go_region
      go_wp2
      go_ret
      exact ⟨rfl, 1, rfl⟩
  · have hr : mulI a b = 0 := by
      unfold mulI
      by_cases h : el a = true ∧ el b = true
      · rw [if_pos h]
        obtain ⟨k, rfl, hk⟩ := el_nat h.1
        obtain ⟨l, rfl, hl⟩ := el_nat h.2
        have h3 : k = 0 ∨ l = 0 := by
          apply Classical.byContradiction; intro hc
          exact hz ⟨h.1, h.2, by omega, by omega⟩
        show ((gm k l : Nat) : Int) = 0
        rcases h3 with rfl | rfl
        · rw [zero_gm hl]; rfl
        · rw [gm_zero hk]; rfl
      · rw [if_neg h]
    rw [hr]
    clear hr
    go_enter Tryd.func44, Tryd.ntmps44
    go_wp2_with (first
      | (go_at_call 42; refine (Tryd.isElement_walk _ _).mono ?_; rintro e w1 ⟨rfl, rfl⟩))
    all_goals first
      | (go_ret; exact ⟨rfl, 0, rfl⟩)
      | (exfalso; simp_all)
theorem Tryd.Inverse_walk (a : Int) (w : World) (ht : TabsAt w) : Calls Tryd.prog 71 #[.int .i64 a] w fun e w' => e = .returned (.int .i64 (invI a)) ∧ ∃ n, w' = w.drewN n := by
  by_cases hz : el a = true ∧ a ≠ 0
  · obtain ⟨ha, ha0⟩ := hz
    have hr : invI a = (gi a.toNat : Int) := by unfold invI; rw [if_pos ⟨ha, ha0⟩]
    obtain ⟨k, rfl, hk⟩ := el_nat ha
    have hk0 : k ≠ 0 := by omega
    obtain ⟨g1, g2⟩ := log_lt k hk
    have hm := inv_tab k hk hk0
    have c1 := ht.lg k hk
    have c3 := ht.pw ((31 - logT.getD k 0) % 31).toNat (by omega)
    rw [hm] at c3
    rw [hr]
    clear hm hr
    show Calls _ _ _ _ fun e w' => e = .returned (.int .i64 (gi k : Int)) ∧ _
    generalize logT.getD k 0 = x at *
    have c4 : w.cell? ⟨0, (-x % 31).toNat, none⟩ = some (.int .i64 (gi k)) := by
      have e : (-x % 31) = (31 - x) % 31 := by omega
      rw [e]; exact c3
    have hk1 : ((k : Int) == 0) = false := by simpa using hk0
    go_enter Tryd.func71, Tryd.ntmps71
    go_wp2_with (first
      | (go_at_call 42; refine (Tryd.isElement_walk _ _).mono ?_; rintro e w1 ⟨rfl, rfl⟩))
    all_goals first
      | (go_ret; exact ⟨rfl, 0, rfl⟩)
  · have hr : invI a = 0 := by unfold invI; rw [if_neg hz]
    rw [hr]
    clear hr
    go_enter Tryd.func71, Tryd.ntmps71
    go_wp2_with (first
      | (go_at_call 42; refine (Tryd.isElement_walk _ _).mono ?_; rintro e w1 ⟨rfl, rfl⟩))
    all_goals first
      | (go_ret; exact ⟨rfl, 0, rfl⟩)
      | (exfalso; simp_all)
theorem Tryd.Power_walk (n : Int) (hn : -9223372036854775808 ≤ n ∧ n < 9223372036854775808) (w : World) (ht : TabsAt w) : Calls Tryd.prog 52 #[.int .i64 n] w fun e w' => e = .returned (.int .i64 (powI n)) ∧ w' = w := by
  have c3 := ht.pw (n % 31).toNat (by omega)
  rw [pow_tab _ (by omega)] at c3
  show Calls _ _ _ _ fun e w' => e = .returned (.int .i64 (ga (n % 31).toNat : Int)) ∧ _
  generalize (ga (n % 31).toNat : Int) = r at *
  have hE : n.tmod 31 = n % 31 - ((if 0 ≤ n ∨ (31 : Int) ∣ n then 0 else Int.natAbs 31 : Nat) : Int) := Int.tmod_eq_emod
  by_cases hneg : n.tmod 31 < 0
  · have e1 : n.tmod 31 + 31 = n % 31 := by
      split at hE <;> simp at hE <;> omega
    have e2 : RowKit.wrap64 (n.tmod 31 + 31) = n % 31 := by rw [e1]; unfold RowKit.wrap64; omega
    clear hE e1
    go_enter Tryd.func52, Tryd.ntmps52
    go_wp2
    go_ret
    exact ⟨rfl, rfl⟩
  · have e1 : n.tmod 31 = n % 31 := by
      split at hE <;> simp at hE <;> omega
    clear hE
    go_enter Tryd.func52, Tryd.ntmps52
    go_wp2
    all_goals first
      | (go_ret; exact ⟨rfl, rfl⟩)
end Go.Proofs
namespace Go.Proofs
open Go.RowKit Go.LS Go.Deep
set_option linter.all false

/-- cells of memory that hold these symbols -/
def NatsAt (w : World) (b o : Nat) (l : List Nat) : Prop := ∀ i, i < l.length → w.cell? ⟨b, o + i, none⟩ = some (.int .i64 (l.getD i 0 : Int))
structure SynW (w wr : World) (F : Nat → Nat) : Prop where
  since : w.Since w.heap.size wr
  size : wr.heap.size = w.heap.size + 2
  res : wr.rowIs w.heap.size 79 6 (fun _ => .int .i64 0)
  sums : wr.rowIs (w.heap.size + 1) 79 6 (fun k => .int .i64 (F k : Int))
def synF (n : Nat) (l : List Nat) (j i : Nat) : Nat → Nat := fun k => if k < j then syn n l (k + 1) else if k = j then xs ((List.range i).map fun c => gm (l.getD c 0) (ga ((j + 1) * (n - 1 - c)))) else 0
def zero6 : Array Value := #[.int .i64 0, .int .i64 0, .int .i64 0, .int .i64 0, .int .i64 0, .int .i64 0]
theorem zero6_get : ∀ i, i < zero6.size → zero6[i]? = some (.int .i64 0) := by
  intro i hi
  match i, hi with
  | 0, _ => rfl
  | 1, _ => rfl
  | 2, _ => rfl
  | 3, _ => rfl
  | 4, _ => rfl
  | 5, _ => rfl
theorem SynW.start (w : World) : SynW w ((w.alloc (.cells zero6 79)).alloc (.cells zero6 79)) (fun _ => 0) := by
  refine ⟨((World.Since.refl _ _).alloc (Nat.le_refl _) _).alloc (by simp) _, by simp, (World.rowIs_alloc w zero6 79 (fun _ => .int .i64 0) zero6_get).alloc _, ?_⟩
  have := World.rowIs_alloc (w.alloc (.cells zero6 79)) zero6 79 (fun _ => .int .i64 0) zero6_get
  rw [World.size_alloc] at this
  exact this
theorem SynW.congr {w wr : World} {F G : Nat → Nat} (h : SynW w wr F) (e : ∀ k, k < 6 → F k = G k) : SynW w wr G :=
  ⟨h.since, h.size, h.res, h.sums.congr fun k hk => by rw [e k hk]⟩
theorem sinceDrewN {B : Nat} {w w' : World} (h : w.Since B w') (n : Nat) : w.Since B (w'.drewN n) := ⟨h.os, h.tape, h.output, h.size, h.block⟩
theorem SynW.drewN {w wr : World} {F : Nat → Nat} (h : SynW w wr F) (n : Nat) : SynW w (wr.drewN n) F := ⟨sinceDrewN h.since n, h.size, h.res, h.sums⟩
theorem TabsAt.drewN {w : World} (h : TabsAt w) (n : Nat) : TabsAt (w.drewN n) := ⟨h.pw, h.lg⟩
theorem tabS {w' : World} {A B C : Prop} (h : A ∧ B ∧ TabsAt w' ∧ C) : TabsAt w' := h.2.2.1
theorem keepS {w w' : World} {F : Nat → Nat} {a : Addr} {v : Option Value} (n : Nat) (h : w'.cell? a = v ∧ w'.frozen? a = false ∧ TabsAt w' ∧ SynW w w' F) : (w'.drewN n).cell? a = v ∧ (w'.drewN n).frozen? a = false ∧ TabsAt (w'.drewN n) ∧ SynW w (w'.drewN n) F := ⟨h.1, h.2.1, h.2.2.1.drewN n, h.2.2.2.drewN n⟩
theorem ga_mod (n : Nat) : ga (n % 31) = ga n := by
  have h31 : ga 31 = 1 := by decide +kernel
  have hk : ∀ q, ga (31 * q) = 1 := by
    intro q
    induction q with
    | zero => rfl
    | succ q ih => rw [Nat.mul_succ, ga_add, ih, h31]; exact gm_one (by decide)
  have := Nat.div_add_mod n 31
  conv => rhs; rw [← this]
  rw [ga_add, hk, one_gm (ga_lt _)]
theorem powI_nat (n : Nat) : powI (n : Int) = (ga n : Int) := by
  unfold powI
  have : ((n : Int) % 31).toNat = n % 31 := by omega
  rw [this, ga_mod]
theorem mulI_nat {a b : Nat} (ha : a < 32) (hb : b < 32) : mulI (a : Int) (b : Int) = (gm a b : Int) := by
  unfold mulI
  rw [if_pos ⟨by simp [el]; omega, by simp [el]; omega⟩]
  rfl
theorem xor_nat {a b : Nat} (ha : a < 32) (hb : b < 32) : bits .xor .i64 (a : Int) (b : Int) = ((a ^^^ b : Nat) : Int) := by
  have h : allN 32 (fun a => allN 32 fun b => bits .xor .i64 (a : Int) (b : Int) == ((a ^^^ b : Nat) : Int)) = true := by decide +kernel
  exact eq_of_beq (allN_spec _ _ (allN_spec _ _ h a ha) b hb)
theorem synF_lt (n : Nat) (l : List Nat) (j i k : Nat) : synF n l j i k < 32 := by
  unfold synF
  split
  · exact syn_lt _ _ _
  · split
    · exact xs_lt _ (by
        intro x hx
        obtain ⟨c, _, rfl⟩ := List.mem_map.1 hx
        exact gm_lt _ _)
    · decide
theorem SynW.step {w wr : World} {l : List Nat} {j i : Nat} (h : SynW w wr (synF l.length l j i)) (hi : i < l.length) (hj : j < 6) (hs : Sml l) (m : Nat) :
    SynW w ((wr.drewN m).setCell ⟨w.heap.size + 1, j, none⟩ (.int .i64 (bits .xor .i64 (synF l.length l j i j : Int) (gm l[i] (ga ((j + 1) * (l.length - 1 - i))) : Int)))) (synF l.length l j (i + 1)) := by
  have h' := h.drewN m
  refine ⟨h'.since.setCell (Nat.le_succ _) _, by simpa using h'.size, h'.res.setOther (by show w.heap.size ≠ w.heap.size + 1; omega) _, (h'.sums.set j _).congr fun k hk => ?_⟩
  by_cases e : k = j
  · subst e
    rw [if_pos rfl, xor_nat (synF_lt _ _ _ _ _) (gm_lt _ _)]
    congr 2
    unfold synF
    rw [if_neg (Nat.lt_irrefl _), if_pos rfl, if_neg (Nat.lt_irrefl _), if_pos rfl, xs_range_succ]
    congr 2
    rw [List.getD_eq_getElem?_getD, List.getElem?_eq_getElem hi]; rfl
  · rw [if_neg e]
    congr 2
    unfold synF
    by_cases h2 : k < j
    · rw [if_pos h2, if_pos h2]
    · rw [if_neg h2, if_neg h2, if_neg e, if_neg e]
theorem synF_next {l : List Nat} {j i : Nat} (hi : i = l.length) (k : Nat) : synF l.length l j i k = synF l.length l (j + 1) 0 k := by
  subst hi
  unfold synF
  by_cases h : k < j
  · rw [if_pos h, if_pos (by omega)]
  · rw [if_neg h]
    by_cases h2 : k = j
    · rw [if_pos h2, if_pos (by omega), h2]; rfl
    · rw [if_neg h2, if_neg (by omega)]
      split <;> rfl
set_option maxHeartbeats 4000000 in
set_option maxRecDepth 100000 in
theorem Tryd.syndromes_walk (l : List Nat) (b o cap : Nat) (w : World) (ht : TabsAt w) (hb : b < w.heap.size) (h2 : 2 ≤ w.heap.size) (hl : l.length ≤ 31) (hs : Sml l) (hw : NatsAt w b o l) :
    Calls Tryd.prog 28 #[.slice (some ⟨b, o, none⟩) l.length cap] w fun e w' => e = .returned (.agg #[.int .i64 (syn l.length l 1 : Int), .int .i64 (syn l.length l 2 : Int), .int .i64 (syn l.length l 3 : Int), .int .i64 (syn l.length l 4 : Int), .int .i64 (syn l.length l 5 : Int), .int .i64 (syn l.length l 6 : Int)]) ∧ w.Since w.heap.size w' := by
  have hst := SynW.start w
  unfold zero6 at hst
  go_enter Tryd.func28, Tryd.ntmps28
  go_wp2
  go_loopw [7] (fun i wr => ∃ j : Nat, j ≤ 6 ∧ i = .int .i64 j ∧ SynW w wr (synF l.length l j 0)) (fun i _ => 6 - (RowKit.intOf i).toNat)
  case atStart => exact ⟨0, by omega, rfl, hst.congr fun k hk => by simp [synF, xs]⟩
  case round =>
    obtain ⟨j, hj, rfl, hS⟩ := hrel
    have cc : ∀ k, k < 6 → wr.cell? ⟨w.heap.size + 1, k, none⟩ = some (.int .i64 (synF l.length l j 0 k : Int)) := fun k hk => hS.sums.cell hk
    have c0 := cc 0 (by decide); have c1 := cc 1 (by decide); have c2 := cc 2 (by decide); have c3 := cc 3 (by decide); have c4 := cc 4 (by decide); have c5 := cc 5 (by decide)
    have rc : ∀ k, k < 6 → wr.cell? ⟨w.heap.size, k, none⟩ = some (.int .i64 0) := fun k hk => hS.res.cell hk
    have r0 := rc 0 (by decide); have r1 := rc 1 (by decide); have r2 := rc 2 (by decide); have r3 := rc 3 (by decide); have r4 := rc 4 (by decide); have r5 := rc 5 (by decide)
    have f0 := hS.res.frozen 0; have f1 := hS.res.frozen 1; have f2 := hS.res.frozen 2; have f3 := hS.res.frozen 3; have f4 := hS.res.frozen 4; have f5 := hS.res.frozen 5
    clear cc rc
    go_wp2
    · have e8 : decide ((j : Int) < 6) = true := by simp; omega
      rw [e8]
      clear e8
      go_loopw [12] (fun v wi => ∃ i : Nat, i ≤ l.length ∧ v = .int .i64 i ∧ SynW w wi (synF l.length l j i)) (fun v _ => l.length - (RowKit.intOf v).toNat)
      case atStart => exact ⟨0, Nat.zero_le _, rfl, hS⟩
      case round =>
        obtain ⟨i, hi, rfl, hI⟩ := hrel
        have hcw : ∀ i, i < l.length → wr.cell? ⟨b, o + i, none⟩ = some (.int .i64 (l.getD i 0 : Int)) := fun i hi => (hI.since.cell (a := ⟨b, o + i, none⟩) hb).trans (hw i hi)
        have hsj : wr.cell? ⟨w.heap.size + 1, j, none⟩ = some (.int .i64 (synF l.length l j i j : Int)) := hI.sums.cell (by omega)
        have hfj := hI.sums.frozen j
        have htw : TabsAt wr := ⟨fun k hk => (hI.since.cell (a := ⟨0, k, none⟩) (by show 0 < _; omega)).trans (ht.pw k hk), fun k hk => (hI.since.cell (a := ⟨1, k, none⟩) (by show 1 < _; omega)).trans (ht.lg k hk)⟩
        go_wp2
        · have hi2 : i < l.length := by assumption
          have hli : l[i] < 32 := hs _ (List.getElem_mem hi2)
          have w1 : IntKind.i64.wrap ((j : Int) + 1) = (j : Int) + 1 := IntWalk.i64_in _ (by omega)
          have w2 : IntKind.i64.wrap ((l.length : Int) - 1) = (l.length : Int) - 1 := IntWalk.i64_in _ (by omega)
          have w3 : IntKind.i64.wrap ((l.length : Int) - 1 - (i : Int)) = ((l.length - 1 - i : Nat) : Int) := by
            rw [IntWalk.i64_in _ (by omega)]; omega
          have w5 : (((j : Int) + 1) * ((l.length - 1 - i : Nat) : Int)) = (((j + 1) * (l.length - 1 - i) : Nat) : Int) := by simp
          have hle : (j + 1) * (l.length - 1 - i) ≤ 7 * 31 := Nat.mul_le_mul (by omega) (by omega)
          have w4 : IntKind.i64.wrap (((j : Int) + 1) * ((l.length - 1 - i : Nat) : Int)) = (((j + 1) * (l.length - 1 - i) : Nat) : Int) := by
            rw [w5]; exact IntWalk.i64_in _ (by omega)
          have pw : ∀ w' : World, TabsAt w' → Calls Tryd.prog 52 #[.int .i64 (((j + 1) * (l.length - 1 - i) : Nat) : Int)] w' fun e w'' => e = .returned (.int .i64 (ga ((j + 1) * (l.length - 1 - i)) : Int)) ∧ w'' = w' := by
            intro w' h'
            rw [← powI_nat]
            exact Tryd.Power_walk _ (by omega) _ h'
          have ml : ∀ w' : World, TabsAt w' → Calls Tryd.prog 44 #[.int .i64 (l[i] : Int), .int .i64 (ga ((j + 1) * (l.length - 1 - i)) : Int)] w' fun e w'' => e = .returned (.int .i64 (gm l[i] (ga ((j + 1) * (l.length - 1 - i))) : Int)) ∧ ∃ n, w'' = w'.drewN n := by
            intro w' h'
            rw [← mulI_nat hli (ga_lt _)]
            exact Tryd.Mul_walk _ _ _ h'
          clear w5 hle
          generalize hE : (j + 1) * (l.length - 1 - i) = E at *
          go_region_law (first
            | (go_simp; go_at_call 52; refine (pw _ (by first | exact htw | exact ⟨htw.pw, htw.lg⟩)).mono ?_; rintro e w1 ⟨rfl, rfl⟩)
            | (go_simp; go_at_call 44; refine (ml _ (by first | exact htw | exact ⟨htw.pw, htw.lg⟩)).mono ?_; rintro e w1 ⟨rfl, n1, rfl⟩))
          all_goals
            go_wp2
            exact ⟨⟨i + 1, by omega, by simp, by rw [← hE]; exact hI.step hi2 (by omega) hs _⟩, by simp [RowKit.intOf]; omega⟩
        · exact ⟨⟨j + 1, by omega, by simp, hI.congr fun k hk => synF_next (by omega) k⟩, by simp [RowKit.intOf]; omega⟩
    · have : j = 6 := by omega
      subst this
      have hr := ((((((hS.res.set 0 (.int .i64 (synF l.length l 6 0 0 : Int))).set 1 (.int .i64 (synF l.length l 6 0 1 : Int))).set 2 (.int .i64 (synF l.length l 6 0 2 : Int))).set 3 (.int .i64 (synF l.length l 6 0 3 : Int))).set 4 (.int .i64 (synF l.length l 6 0 4 : Int))).set 5 (.int .i64 (synF l.length l 6 0 5 : Int)))
      obtain ⟨c, hc, hsz, hget⟩ := hr
      have hc6 : c = #[.int .i64 (syn l.length l 1 : Int), .int .i64 (syn l.length l 2 : Int), .int .i64 (syn l.length l 3 : Int), .int .i64 (syn l.length l 4 : Int), .int .i64 (syn l.length l 5 : Int), .int .i64 (syn l.length l 6 : Int)] := by
        apply Array.ext_getElem?
        intro i
        match i with
        | 0 => rw [hget 0 (by decide)]; simp [synF]
        | 1 => rw [hget 1 (by decide)]; simp [synF]
        | 2 => rw [hget 2 (by decide)]; simp [synF]
        | 3 => rw [hget 3 (by decide)]; simp [synF]
        | 4 => rw [hget 4 (by decide)]; simp [synF]
        | 5 => rw [hget 5 (by decide)]; simp [synF]
        | i + 6 => rw [Array.getElem?_eq_none (by omega), Array.getElem?_eq_none (by simp)]
      subst hc6
      refine bodyPost_ret (results_cell_row rfl _ _ w.heap.size 79 _ _ _ rfl hc Tryd.underlying79 rfl (by kernel_rfl)) rfl ?_
      exact ⟨rfl, ((((((hS.since.setCell (Nat.le_refl _) _).setCell (Nat.le_refl _) _).setCell (Nat.le_refl _) _).setCell (Nat.le_refl _) _).setCell (Nat.le_refl _) _).setCell (Nat.le_refl _) _)⟩
end Go.Proofs
namespace Go.Proofs
open Go.RowKit Go.LS Go.Deep
set_option linter.all false

/-- block b holds these values from its first cell on, none of it frozen -/
def ValsAt (w : World) (b : Nat) (n : Nat) (f : Nat → Value) : Prop := ∃ c el, w.heap[b]? = some (.cells c el (0, 0)) ∧ ∀ i, i < n → c[i]? = some (f i)
theorem ValsAt.cell {w : World} {b n : Nat} {f : Nat → Value} (h : ValsAt w b n f) {i : Nat} (hi : i < n) : w.cell? ⟨b, i, none⟩ = some (f i) := by
  obtain ⟨c, el, hb, hc⟩ := h
  simp [World.cell?, hb, hc i hi]
theorem ValsAt.frozen {w : World} {b n : Nat} {f : Nat → Value} (h : ValsAt w b n f) (i : Nat) : w.frozen? ⟨b, i, none⟩ = false := by
  obtain ⟨c, el, hb, hc⟩ := h
  simp [World.frozen?, hb]
theorem ValsAt.lt {w : World} {b n : Nat} {f : Nat → Value} (h : ValsAt w b n f) : b < w.heap.size := by
  obtain ⟨c, el, hb, hc⟩ := h
  exact (Array.getElem?_eq_some_iff.1 hb).1
theorem ValsAt.of_block {w w' : World} {b n : Nat} {f : Nat → Value} (h : ValsAt w b n f) (e : w'.heap[b]? = w.heap[b]?) : ValsAt w' b n f := by
  obtain ⟨c, el, hb, hc⟩ := h
  exact ⟨c, el, e.trans hb, hc⟩
theorem ValsAt.drewN {w : World} {b n : Nat} {f : Nat → Value} (h : ValsAt w b n f) (k : Nat) : ValsAt (w.drewN k) b n f := h
theorem ValsAt.setOther {w : World} {b n : Nat} {f : Nat → Value} (h : ValsAt w b n f) {a : Addr} (ha : b ≠ a.block) (v : Value) : ValsAt (w.setCell a v) b n f := h.of_block (blk_setCell_other _ _ _ _ ha)
theorem ValsAt.congr {w : World} {b n : Nat} {f g : Nat → Value} (h : ValsAt w b n f) (e : ∀ i, i < n → f i = g i) : ValsAt w b n g := by
  obtain ⟨c, el, hb, hc⟩ := h
  exact ⟨c, el, hb, fun i hi => by rw [hc i hi, e i hi]⟩
theorem ValsAt.set {w : World} {b n : Nat} {f : Nat → Value} (h : ValsAt w b n f) (i : Nat) (v : Value) : ValsAt (w.setCell ⟨b, i, none⟩ v) b n (fun j => if j = i then v else f j) := by
  obtain ⟨c, el, hb, hc⟩ := h
  have hr : w.rowIs b el c.size (fun j => c[j]?.getD undef) := ⟨c, hb, rfl, fun j hj => by simp [Array.getElem?_eq_getElem hj]⟩
  obtain ⟨c', hb', hs', hc'⟩ := hr.set i v
  refine ⟨c', el, hb', fun j hj => ?_⟩
  have hjs : j < c.size := (Array.getElem?_eq_some_iff.1 (hc j hj)).1
  rw [hc' j hjs]
  by_cases e : j = i
  · simp [e]
  · simp [e, hc j hj]
def rowV (l : List Nat) : Nat → Value := fun c => .int .i64 (l.getD c 0 : Int)
/-- the matrix m lies in memory: its headers in block M, row r in block rb r -/
structure MatW (w wr : World) (B M : Nat) (rb cp : Nat → Nat) (n : Nat) (m : List (List Nat)) : Prop where
  since : w.Since B wr
  len : m.length = 6
  head : ValsAt wr M 6 (fun r => .slice (some ⟨rb r, 0, none⟩) n (cp r))
  rows : ∀ r, r < 6 → ValsAt wr (rb r) n (rowV (m.getD r []))
  inj : ∀ r s, r < 6 → s < 6 → rb r = rb s → r = s
  ne : ∀ r, r < 6 → rb r ≠ M
  lo : B ≤ M ∧ ∀ r, r < 6 → B ≤ rb r
  sz : Sz m n
variable {w wr : World} {B M : Nat} {rb cp : Nat → Nat} {n : Nat} {m : List (List Nat)}
theorem MatW.drewN (h : MatW w wr B M rb cp n m) (k : Nat) : MatW w (wr.drewN k) B M rb cp n m := ⟨sinceDrewN h.since k, h.len, h.head, h.rows, h.inj, h.ne, h.lo, h.sz⟩
/-- a store into a row -/
theorem MatW.put (h : MatW w wr B M rb cp n m) {r c x : Nat} (hr : r < 6) (hc : c < n) (hx : x < 32) : MatW w (wr.setCell ⟨rb r, c, none⟩ (.int .i64 (x : Int))) B M rb cp n (m.set r ((m.getD r []).set c x)) := by
  have hlr : (m.getD r []).length = n := (h.sz r (by rw [h.len]; exact hr)).1
  refine ⟨h.since.setCell (h.lo.2 r hr) _, by simp [h.len], h.head.setOther (fun e => h.ne r hr e.symm) _, fun s hs => ?_, h.inj, h.ne, h.lo, fun s hs => ?_⟩
  · by_cases e : s = r
    · subst e
      refine ((h.rows s hs).set c _).congr fun i hi => ?_
      unfold rowV
      rw [getD_set _ _ _ _ (by rw [h.len]; exact hs), if_pos rfl, getD_setN _ _ _ _ (by omega)]
      split <;> rfl
    · refine ((h.rows s hs).setOther (fun e' => e (h.inj s r hs hr e')) _).congr fun i hi => ?_
      unfold rowV
      rw [getD_set _ _ _ _ (by rw [h.len]; exact hr), if_neg e]
  · rw [List.length_set, h.len] at hs
    rw [getD_set _ _ _ _ (by rw [h.len]; exact hr)]
    have h1 := h.sz s (by rw [h.len]; exact hs)
    split
    · exact ⟨by rw [List.length_set]; exact hlr, set_sml (h.sz r (by rw [h.len]; exact hr)).2 _ _ hx⟩
    · exact h1
/-- two rows change places -/
theorem MatW.swap (h : MatW w wr B M rb cp n m) {k p : Nat} (hk : k < 6) (hp : p < 6) :
    MatW w ((wr.setCell ⟨M, k, none⟩ (.slice (some ⟨rb p, 0, none⟩) n (cp p))).setCell ⟨M, p, none⟩ (.slice (some ⟨rb k, 0, none⟩) n (cp k))) B M
      (fun r => if r = p then rb k else if r = k then rb p else rb r) (fun r => if r = p then cp k else if r = k then cp p else cp r) n (swapR m k p) := by
  have hrow : ∀ r, r < 6 → ∃ s, s < 6 ∧ (if r = p then rb k else if r = k then rb p else rb r) = rb s ∧ (swapR m k p).getD r [] = m.getD s [] := by
    intro r hr
    rw [swap_at m k p r (by rw [h.len]; exact hk) (by rw [h.len]; exact hp)]
    by_cases e1 : r = p
    · exact ⟨k, hk, by rw [if_pos e1], by rw [if_pos e1]⟩
    · by_cases e2 : r = k
      · exact ⟨p, hp, by rw [if_neg e1, if_pos e2], by rw [if_neg e1, if_pos e2]⟩
      · exact ⟨r, hr, by rw [if_neg e1, if_neg e2], by rw [if_neg e1, if_neg e2]⟩
  refine ⟨(h.since.setCell h.lo.1 _).setCell h.lo.1 _, by rw [swap_len, h.len], ?_, fun r hr => ?_, fun r s hr hs e => ?_, fun r hr => ?_, ⟨h.lo.1, fun r hr => ?_⟩, fun r hr => ?_⟩
  · refine ((h.head.set k _).set p _).congr fun i hi => ?_
    by_cases e1 : i = p
    · rw [if_pos e1, if_pos e1, if_pos e1]
    · rw [if_neg e1, if_neg e1, if_neg e1]
      by_cases e2 : i = k
      · rw [if_pos e2, if_pos e2, if_pos e2]
      · rw [if_neg e2, if_neg e2, if_neg e2]
  · obtain ⟨s, hs, e1, e2⟩ := hrow r hr
    rw [e1, e2]
    exact ((h.rows s hs).setOther (h.ne s hs) _).setOther (h.ne s hs) _
  · by_cases e1 : r = p
    · rw [if_pos e1] at e
      by_cases e2 : s = p
      · omega
      · rw [if_neg e2] at e
        by_cases e3 : s = k
        · rw [if_pos e3] at e; have := h.inj _ _ hk hp e; omega
        · rw [if_neg e3] at e; have := h.inj _ _ hk hs e; omega
    · rw [if_neg e1] at e
      by_cases e4 : r = k
      · rw [if_pos e4] at e
        by_cases e2 : s = p
        · rw [if_pos e2] at e; have := h.inj _ _ hp hk e; omega
        · rw [if_neg e2] at e
          by_cases e3 : s = k
          · omega
          · rw [if_neg e3] at e; have := h.inj _ _ hp hs e; omega
      · rw [if_neg e4] at e
        by_cases e2 : s = p
        · rw [if_pos e2] at e; have := h.inj _ _ hr hk e; omega
        · rw [if_neg e2] at e
          by_cases e3 : s = k
          · rw [if_pos e3] at e; have := h.inj _ _ hr hp e; omega
          · rw [if_neg e3] at e; exact h.inj _ _ hr hs e
  · obtain ⟨s, hs, e1, e2⟩ := hrow r hr
    rw [e1]; exact h.ne s hs
  · obtain ⟨s, hs, e1, e2⟩ := hrow r hr
    rw [e1]; exact h.lo.2 s hs
  · rw [swap_len, h.len] at hr
    obtain ⟨s, hs, e1, e2⟩ := hrow r hr
    rw [e2]; exact h.sz s (by rw [h.len]; exact hs)
end Go.Proofs
namespace Go.Proofs
open Go.RowKit Go.LS Go.Deep
set_option linter.all false

theorem MatW.step {w wr : World} {B M : Nat} {rb cp : Nat → Nat} {n : Nat} {m1 : List (List Nat)} {R : List Nat} {k c x : Nat} (h : MatW w wr B M rb cp n (m1.set k R)) (hk : k < 6) (hc : c < n) (hx : x < 32) (a : Nat) :
    MatW w ((wr.drewN a).setCell ⟨rb k, c, none⟩ (.int .i64 (x : Int))) B M rb cp n (m1.set k (R.set c x)) := by
  have hl : m1.length = 6 := by have := h.len; rwa [List.length_set] at this
  have := (h.drewN a).put hk hc hx
  rw [getD_set _ _ _ _ (by rw [hl]; exact hk), if_pos rfl, List.set_set] at this
  exact this
theorem set_self (m : List (List Nat)) (k : Nat) : m.set k (m.getD k []) = m := by
  refine ext_rows (by simp) fun i hi => ?_
  rw [List.length_set] at hi
  by_cases h : k < m.length
  · rw [getD_set _ _ _ _ h]
    by_cases e : i = k
    · rw [if_pos e, e]
    · rw [if_neg e]
  · rw [List.set_eq_of_length_le (by omega)]
theorem tabsM {w0 wr : World} {B M : Nat} {rb cp : Nat → Nat} {n : Nat} {m : List (List Nat)} (ht : TabsAt w0) (hB : 2 ≤ B) (h : MatW w0 wr B M rb cp n m) : TabsAt wr :=
  ⟨fun k hk => (h.since.cell (a := ⟨0, k, none⟩) (by show 0 < B; omega)).trans (ht.pw k hk), fun k hk => (h.since.cell (a := ⟨1, k, none⟩) (by show 1 < B; omega)).trans (ht.lg k hk)⟩
/-- what eliminate tells -/
def ElimOut (m : List (List Nat)) (u : Nat) (ok : Bool) (m' : List (List Nat)) : Prop :=
  (ok = true ∧ elimE m u 0 = some m' ∧ ∀ r, u ≤ r → r < 6 → ent m' r u = 0) ∨ (ok = false ∧ solE m u = none)
set_option maxHeartbeats 4000000 in
set_option maxRecDepth 100000 in
theorem Tryd.eliminate_walk {w0 : World} {B M u mcap : Nat} {rb cp : Nat → Nat} {m : List (List Nat)} (w : World) (hM : MatW w0 w B M rb cp (u + 1) m) (hu : u ≤ 6) (ht : TabsAt w0) (hB : 2 ≤ B) :
    Calls Tryd.prog 66 #[.slice (some ⟨M, 0, none⟩) 6 mcap, .int .i64 u] w fun e w' => ∃ ok rb' cp' m', e = .returned (.bool ok) ∧ MatW w0 w' B M rb' cp' (u + 1) m' ∧ ElimOut m u ok m' := by
  have hMl := hM.len
  go_enter Tryd.func66, Tryd.ntmps66
  go_wp2
  go_loopw [14] (fun v wr => ∃ (k : Nat) (rb cp : Nat → Nat) (mk : List (List Nat)), k ≤ u ∧ v = .int .i64 k ∧ MatW w0 wr B M rb cp (u + 1) mk ∧ elimE m u 0 = elimE mk (u - k) k) (fun v _ => u - (RowKit.intOf v).toNat)
  case atStart => exact ⟨0, rb, cp, m, Nat.zero_le _, rfl, hM, rfl⟩
  case round =>
    obtain ⟨k, rb, cp, mk, hk, rfl, hK, hE⟩ := hrel
    go_wp2
    · have e15 : decide (k < u) = true := by simp; omega
      rw [e15]
      clear e15
      go_loopw [6] (fun v wi => ∃ p : Nat, k ≤ p ∧ p ≤ 6 ∧ v = .int .i64 p ∧ wi = wr ∧ ∀ r, k ≤ r → r < p → ent mk r k = 0) (fun v _ => 6 - (RowKit.intOf v).toNat)
      case atStart => exact ⟨k, Nat.le_refl _, by omega, rfl, rfl, fun r h1 h2 => by omega⟩
      case round =>
        obtain ⟨p, hp1, hp2, rfl, rfl, hz⟩ := hrel
        by_cases hp6 : p < 6
        · have hh := hK.head.cell hp6
          have hc := (hK.rows p hp6).cell (i := k) (by omega)
          unfold rowV at hc
          have hxe : ent mk p k = (mk.getD p []).getD k 0 := rfl
          generalize (mk.getD p []).getD k 0 = x at hc hxe
          go_wp2
          · exact ⟨⟨p + 1, by omega, by omega, by simp, trivial, fun r h1 h2 => by
              by_cases e : r = p
              · subst e
                rw [hxe]
                first | assumption | omega | simp_all
              · exact hz r h1 (by omega)⟩, by simp [RowKit.intOf]; omega⟩
          · have hk6 : k < 6 := by omega
            have hhk := hK.head.cell hk6
            have fp := hK.head.frozen p
            have fk := hK.head.frozen k
            have hxn : x ≠ 0 := by first | assumption | omega | simp_all
            have hpiv : pivAt mk k = p := pivAt_eq mk k p hp1 (by rw [hK.len]; omega) hz (.inr (by rw [hxe]; exact hxn))
            have hK2 := hK.swap hk6 hp6
            have hs1 := hK.head.set k (.slice (some ⟨rb p, 0, none⟩) (u + 1) (cp p))
            obtain ⟨X, hh2⟩ : ∃ X, (wr.setCell ⟨M, k, none⟩ (.slice (some ⟨rb p, 0, none⟩) (u + 1) (cp p))).cell? ⟨M, p, none⟩ = some X := ⟨_, hs1.cell hp6⟩
            have fp2 := hs1.frozen p
            clear hc hs1
            go_region
            obtain ⟨w2, hw2, rb2, cp2, hK3⟩ : ∃ w2, w2 = ((wr.setCell ⟨M, k, none⟩ (.slice (some ⟨rb p, 0, none⟩) (u + 1) (cp p))).setCell ⟨M, p, none⟩ (.slice (some ⟨rb k, 0, none⟩) (u + 1) (cp k))).drew ∧ ∃ rb2 cp2, MatW w0 w2 B M rb2 cp2 (u + 1) (swapR mk k p) := ⟨_, rfl, _, _, hK2.drewN 1⟩
            rw [← hw2]
            have hst : stepE mk k = some ((swapR mk k p).set k (scaled (swapR mk k p) k) |>.mapIdx (clr k (scaled (swapR mk k p) k))) := by
              unfold stepE; rw [hpiv, if_neg (by rw [hK.len]; omega)]
            have hpv : ent (swapR mk k p) k k ≠ 0 := by
              unfold ent
              rw [swap_at mk k p k (by rw [hK.len]; exact hk6) (by rw [hK.len]; exact hp6)]
              by_cases e : k = p
              · rw [if_pos e]; unfold ent at hxe; rw [← e] at hxe; rw [hxe]; exact hxn
              · rw [if_neg e, if_pos rfl]; unfold ent at hxe; rw [hxe]; exact hxn
            clear hw2 hK2 hhk fp fk hh2 fp2 hh hK hxe
            generalize swapR mk k p = m1 at hK3 hst hpv
            have ht2 : TabsAt w2 := ⟨fun k hk => (hK3.since.cell (a := ⟨0, k, none⟩) (by show 0 < B; omega)).trans (ht.pw k hk), fun k hk => (hK3.since.cell (a := ⟨1, k, none⟩) (by show 1 < B; omega)).trans (ht.lg k hk)⟩
            have hh := hK3.head.cell hk6
            have hc := (hK3.rows k hk6).cell (i := k) (by omega)
            unfold rowV at hc
            have hpv2 : (m1.getD k []).getD k 0 ≠ 0 := hpv
            have hlt : (m1.getD k []).getD k 0 < 32 := getD_sml (hK3.sz k (by rw [hK3.len]; exact hk6)).2 k
            have hiv : invI ((m1.getD k []).getD k 0 : Int) = (gi ((m1.getD k []).getD k 0) : Int) := by
              unfold invI
              rw [if_pos ⟨by simp only [el, Bool.and_eq_true, decide_eq_true_eq]; omega, by omega⟩]
              rfl
            have inv : Calls Tryd.prog 71 #[.int .i64 ((m1.getD k []).getD k 0 : Int)] w2 fun e w' => e = .returned (.int .i64 (gi ((m1.getD k []).getD k 0) : Int)) ∧ ∃ n, w' = w2.drewN n := by
              rw [← hiv]; exact Tryd.Inverse_walk _ _ ht2
            obtain ⟨i1, i2, i3⟩ := gi_ok hlt hpv2
            generalize hG : gi ((m1.getD k []).getD k 0) = G at inv i1 i2 i3
            generalize hY : (m1.getD k []).getD k 0 = Y at hc inv
            go_wp2_with (first
              | (go_at_call 71; refine inv.mono ?_; rintro e w3 ⟨rfl, n3, rfl⟩))
            have hl1 := hK3.len
            have hn1 : (m1.getD k []).length = u + 1 := (hK3.sz k (by rw [hl1]; exact hk6)).1
            have hsm : Sml (m1.getD k []) := (hK3.sz k (by rw [hl1]; exact hk6)).2
            go_loopw [65] (fun v wi => ∃ c : Nat, c ≤ u + 1 ∧ v = .int .i64 c ∧ MatW w0 wi B M rb2 cp2 (u + 1) (m1.set k (partMap (fun _ x => gm x G) (m1.getD k []) c))) (fun v _ => u + 1 - (RowKit.intOf v).toNat)
            case atStart => exact ⟨0, by omega, rfl, by rw [partMap_zero, set_self]; exact hK3.drewN _⟩
            case round =>
              obtain ⟨c, hc1, rfl, hI⟩ := hrel
              by_cases hcu : c < u + 1
              · have hh2 := hI.head.cell hk6
                have hcc := (hI.rows k hk6).cell (i := c) hcu
                have hff := (hI.rows k hk6).frozen c
                unfold rowV at hcc
                rw [getD_set _ _ _ _ (by rw [hl1]; exact hk6), if_pos rfl, partMap_get _ _ _ _ (by omega), if_neg (Nat.lt_irrefl _)] at hcc
                have hx32 : (m1.getD k []).getD c 0 < 32 := getD_sml hsm c
                have hstep := partMap_step (fun _ x => gm x G) (m1.getD k []) c (by omega)
                generalize (m1.getD k []).getD c 0 = x at hcc hx32 hstep
                have ml : ∀ w' : World, TabsAt w' → Calls Tryd.prog 44 #[.int .i64 (x : Int), .int .i64 (G : Int)] w' fun e w'' => e = .returned (.int .i64 (gm x G : Int)) ∧ ∃ n, w'' = w'.drewN n := by
                  intro w' h'
                  rw [← mulI_nat hx32 i2]
                  exact Tryd.Mul_walk _ _ _ h'
                have htw := tabsM ht hB hI
                have hnext : ∀ a, MatW w0 ((wr.drewN a).setCell ⟨rb2 k, c, none⟩ (.int .i64 (gm x G : Int))) B M rb2 cp2 (u + 1) (m1.set k (partMap (fun _ x => gm x G) (m1.getD k []) (c + 1))) := fun a => by
                  have h5 := hI.step hk6 hcu (gm_lt x G) a
                  have h6 : (partMap (fun _ x => gm x G) (m1.getD k []) c).set c (gm x G) = partMap (fun _ x => gm x G) (m1.getD k []) (c + 1) := hstep
                  rw [h6] at h5; exact h5
                clear hh hc hstep
                have ki : (k : Int) < 6 := by omega
                have ci : (c : Int) < (u : Int) + 1 := by omega
                go_wp2
                go_region_law (first
                  | (go_simp; go_at_call 44; refine (ml _ (by first | exact htw | exact ⟨htw.pw, htw.lg⟩)).mono ?_; rintro e w1 ⟨rfl, n1, rfl⟩))
                all_goals
                  go_wp2
                  exact ⟨⟨c + 1, by omega, by simp, hnext _⟩, by simp [RowKit.intOf]; omega⟩
              · have hce : c = u + 1 := by omega
                subst hce
                have hps : partMap (fun _ x => gm x G) (m1.getD k []) (u + 1) = scaled m1 k := by
                  rw [← hG]; exact partMap_scaled m1 k (u + 1) hn1 (by rw [hG]; exact i2)
                rw [hps] at hI
                have hplen : (scaled m1 k).length = u + 1 := by unfold scaled; rw [List.length_map]; exact hn1
                have hpsm : Sml (scaled m1 k) := by
                  intro y hy; unfold scaled at hy
                  obtain ⟨z, _, rfl⟩ := List.mem_map.1 hy
                  exact gm_lt _ _
                have hkk : (scaled m1 k).getD k 0 = 1 := by
                  unfold scaled
                  rw [getD_map0 _ _ _ (by rw [hG]; exact i2), hG]; exact i1
                clear hh hc hps
                generalize scaled m1 k = pr at hI hst hplen hpsm hkk
                have hl2 := hI.len
                have hpr : (m1.set k pr).getD k [] = pr := by rw [getD_set _ _ _ _ (by rw [hl1]; exact hk6), if_pos rfl]
                generalize m1.set k pr = m2 at hI hst hl2 hpr
                go_wp2
                have eu : ((u + 1 : Nat) : Int) = (u : Int) + 1 := by omega
                rw [eu]
                clear eu
                go_loopw [86] (fun v wi => ∃ r : Nat, r ≤ 6 ∧ v = .int .i64 r ∧ MatW w0 wi B M rb2 cp2 (u + 1) (clrTo k pr m2 r)) (fun v _ => 6 - (RowKit.intOf v).toNat)
                case atStart => exact ⟨0, by omega, rfl, by rw [clrTo_zero]; exact hI⟩
                case round =>
                  obtain ⟨r, hr1, rfl, hR⟩ := hrel
                  by_cases hr6 : r < 6
                  · have hrr : (clrTo k pr m2 r).getD r [] = m2.getD r [] := by rw [clrTo_get _ _ _ _ _ (by omega), if_neg (Nat.lt_irrefl _)]
                    have hh := hR.head.cell hr6
                    have hc := (hR.rows r hr6).cell (i := k) (by omega)
                    unfold rowV at hc
                    rw [hrr] at hc
                    have hszr := hR.sz r (by rw [hR.len]; exact hr6)
                    rw [hrr] at hszr
                    have hF32 : (m2.getD r []).getD k 0 < 32 := getD_sml hszr.2 k
                    generalize hF : (m2.getD r []).getD k 0 = F at hc hF32
                    have ri : (r : Int) < 6 := by omega
                    by_cases hskip : r = k ∨ F = 0
                    · have hnext : MatW w0 wr B M rb2 cp2 (u + 1) (clrTo k pr m2 (r + 1)) := by
                        rw [← clrTo_same k pr m2 r (by omega) (by rw [hF]; exact hskip)]; exact hR
                      go_wp2
                      all_goals first
                        | exact ⟨⟨r + 1, by omega, by simp <;> omega, hnext⟩, by simp [RowKit.intOf]; omega⟩
                        | (exfalso; rcases hskip with h | h <;> simp_all)
                    · have hrk : ¬ r = k := fun e => hskip (.inl e)
                      have hF0 : ¬ F = 0 := fun e => hskip (.inr e)
                      have hrki : ((r : Int) == (k : Int)) = false := by simp; omega
                      have hF0i : ((F : Int) == 0) = false := by simp; omega
                      have hfull := partMap_clr k pr (m2.getD r []) r (u + 1) hszr.1 hplen (by rw [hF]; exact hF32) hrk (by rw [hF]; exact hF0)
                      rw [hF] at hfull
                      have hlc : (clrTo k pr m2 r).length = 6 := by rw [clrTo_len, hl2]
                      have hrowk : ∀ R, ((clrTo k pr m2 r).set r R).getD k [] = pr := by
                        intro R
                        rw [getD_set _ _ _ _ (by omega), if_neg (fun e => hrk e.symm), clrTo_get _ _ _ _ _ (by omega), hpr]
                        split
                        · unfold clr; rw [if_pos (.inl rfl)]
                        · rfl
                      go_wp2
                      go_loopw [108] (fun v wi => ∃ c : Nat, c ≤ u + 1 ∧ v = .int .i64 c ∧ MatW w0 wi B M rb2 cp2 (u + 1) ((clrTo k pr m2 r).set r (partMap (fun i x => x ^^^ gm F (pr.getD i 0)) (m2.getD r []) c))) (fun v _ => u + 1 - (RowKit.intOf v).toNat)
                      case atStart => exact ⟨0, by omega, rfl, by rw [partMap_zero, ← hrr, set_self]; exact hR⟩
                      case round =>
                        obtain ⟨c, hc1, rfl, hJ⟩ := hrel
                        by_cases hcu : c < u + 1
                        · have hhr := hJ.head.cell hr6
                          have hhk := hJ.head.cell hk6
                          have hcc := (hJ.rows r hr6).cell (i := c) hcu
                          have hff := (hJ.rows r hr6).frozen c
                          have hck := (hJ.rows k hk6).cell (i := c) hcu
                          unfold rowV at hcc hck
                          rw [getD_set _ _ _ _ (by omega), if_pos rfl, partMap_get _ _ _ _ (by rw [hszr.1]; exact hcu), if_neg (Nat.lt_irrefl _)] at hcc
                          rw [hrowk] at hck
                          have hx32 : (m2.getD r []).getD c 0 < 32 := getD_sml hszr.2 c
                          have hy32 : pr.getD c 0 < 32 := getD_sml hpsm c
                          have hstep := partMap_step (fun i x => x ^^^ gm F (pr.getD i 0)) (m2.getD r []) c (by rw [hszr.1]; exact hcu)
                          have hnext : ∀ a, MatW w0 ((wr.drewN a).setCell ⟨rb2 r, c, none⟩ (.int .i64 (bits .xor .i64 ((m2.getD r []).getD c 0 : Int) (gm F (pr.getD c 0) : Int)))) B M rb2 cp2 (u + 1) ((clrTo k pr m2 r).set r (partMap (fun i x => x ^^^ gm F (pr.getD i 0)) (m2.getD r []) (c + 1))) := fun a => by
                            rw [xor_nat hx32 (gm_lt _ _)]
                            have h5 := hJ.step hr6 hcu (xor_lt32 hx32 (gm_lt F (pr.getD c 0))) a
                            have h6 : (partMap (fun i x => x ^^^ gm F (pr.getD i 0)) (m2.getD r []) c).set c ((m2.getD r []).getD c 0 ^^^ gm F (pr.getD c 0)) = partMap (fun i x => x ^^^ gm F (pr.getD i 0)) (m2.getD r []) (c + 1) := hstep
                            rw [h6] at h5; exact h5
                          have ml : ∀ w' : World, TabsAt w' → Calls Tryd.prog 44 #[.int .i64 (F : Int), .int .i64 (pr.getD c 0 : Int)] w' fun e w'' => e = .returned (.int .i64 (gm F (pr.getD c 0) : Int)) ∧ ∃ n, w'' = w'.drewN n := by
                            intro w' h'
                            rw [← mulI_nat hF32 hy32]
                            exact Tryd.Mul_walk _ _ _ h'
                          have htw := tabsM ht hB hJ
                          clear hstep hh hc
                          generalize gm F (pr.getD c 0) = z at hnext ml
                          generalize (m2.getD r []).getD c 0 = x1 at hcc hnext
                          generalize pr.getD c 0 = y1 at hck ml
                          have ki : (k : Int) < 6 := by omega
                          have ci : (c : Int) < (u : Int) + 1 := by omega
                          go_wp2
                          go_region_law (first
                            | (go_simp; go_at_call 44; refine (ml _ (by first | exact htw | exact ⟨htw.pw, htw.lg⟩)).mono ?_; rintro e w1 ⟨rfl, n1, rfl⟩))
                          all_goals
                            go_wp2
                            exact ⟨⟨c + 1, by omega, by simp, hnext _⟩, by simp [RowKit.intOf]; omega⟩
                        · have hce : c = u + 1 := by omega
                          subst hce
                          rw [hfull, clrTo_step k pr m2 r (by omega)] at hJ
                          go_wp2
                          exact ⟨⟨r + 1, by omega, by simp, hJ⟩, by simp [RowKit.intOf]; omega⟩
                  · have hre : r = 6 := by omega
                    subst hre
                    have h7 : clrTo k pr m2 6 = m2.mapIdx (clr k pr) := by rw [← clrTo_all, hl2]
                    rw [h7] at hR
                    have h8 : elimE mk (u - k) k = elimE (m2.mapIdx (clr k pr)) (u - (k + 1)) (k + 1) := by
                      rw [show u - k = (u - (k + 1)) + 1 by omega]
                      show (stepE mk k).bind _ = _
                      rw [hst]; rfl
                    have h9 := hE.trans h8
                    clear h7 h8
                    go_wp2
                    exact ⟨⟨k + 1, rb2, cp2, _, by omega, by simp, hR, h9⟩, by simp [RowKit.intOf]; omega⟩
        · have : p = 6 := by omega
          subst this
          have hno : solE m u = none := by
            unfold solE
            rw [hE, show u - k = (u - (k + 1)) + 1 by omega]
            show ((stepE mk k).bind _).bind _ = none
            unfold stepE
            rw [if_pos ((pivAt_eq mk k 6 hp1 (by rw [hK.len]; exact Nat.le_refl _) hz (.inl hK.len.symm)).trans hK.len.symm)]
            rfl
          go_wp2
          go_ret
          exact ⟨false, rb, cp, mk, rfl, hK, .inr ⟨rfl, hno⟩⟩
    · have hke : k = u := by omega
      have hE' : elimE m u 0 = some mk := by rw [hE, hke, Nat.sub_self]; rfl
      go_loopw [12] (fun v wi => ∃ r : Nat, u ≤ r ∧ r ≤ 6 ∧ v = .int .i64 r ∧ wi = wr ∧ ∀ s, u ≤ s → s < r → ent mk s u = 0) (fun v _ => 6 - (RowKit.intOf v).toNat)
      case atStart => exact ⟨u, Nat.le_refl _, hu, rfl, rfl, fun s h1 h2 => by omega⟩
      case round =>
        obtain ⟨r, h1, h2, rfl, rfl, hz⟩ := hrel
        by_cases hr6 : r < 6
        · have hh := hK.head.cell hr6
          have hc := (hK.rows r hr6).cell (i := u) (by omega)
          unfold rowV at hc
          have hxe : ent mk r u = (mk.getD r []).getD u 0 := rfl
          generalize (mk.getD r []).getD u 0 = x at hc hxe
          have ri : (r : Int) < 6 := by omega
          by_cases hx : x = 0
          · have hnext : ∀ s, u ≤ s → s < r + 1 → ent mk s u = 0 := fun s g1 g2 => by
              by_cases e : s = r
              · rw [e, hxe, hx]
              · exact hz s g1 (by omega)
            subst hx
            go_wp2
            all_goals exact ⟨⟨r + 1, by omega, by omega, by simp, trivial, hnext⟩, by simp [RowKit.intOf]; omega⟩
          · have hno : solE m u = none := by
              unfold solE
              rw [hE', Option.bind_some, if_neg]
              rw [List.all_eq_true]
              intro hall
              have := hall r (by rw [List.mem_iff_getElem]; exact ⟨r - u, by simp [hK.len]; omega, by simp; omega⟩)
              rw [hxe] at this
              exact hx (by simpa using this)
            have hxi : ((x : Int) == 0) = false := by simp; omega
            have hxi2 : ((x : Int) != 0) = true := by simp; omega
            go_wp2
            all_goals first
              | (go_ret; exact ⟨false, rb, cp, mk, rfl, hK, .inr ⟨rfl, hno⟩⟩)
              | (exfalso; simp_all)
        · have hre : r = 6 := by omega
          subst hre
          go_wp2
          go_ret
          exact ⟨true, rb, cp, mk, rfl, hK, .inl ⟨rfl, hE', hz⟩⟩
end Go.Proofs
