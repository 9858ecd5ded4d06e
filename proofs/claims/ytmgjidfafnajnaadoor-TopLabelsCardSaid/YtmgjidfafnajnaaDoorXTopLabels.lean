/-
  'Rows.TopLabelsSaid' out of the law's contract. The row's step is the kit's own frame (proof-skeleton.mjs).
-/
import Derived.Test.YtmgjidfafnajnaaDoorRows
import Derived.Test.YtmgjidfafnajnaaDoorCards
import Derived.Test.YtmgjidfafnajnaaDoorTie
import Derived.SevenTiedAt
import Derived.Lay
import Derived.Handed
import Derived.MakeChecks
import Derived.Lib.LaidTab
import Derived.Stop.Joined
import Derived.Stop.LaidErr
import Derived.WalkKit
import Derived.ProofKit
import Derived.OpenShut
import Derived.ShutString
import Derived.ChangeOld
import Derived.Below
import Derived.Test.YtmgjidfafnajnaaDoorK1
import Derived.Test.YtmgjidfafnajnaaDoorPX
import Derived.Test.YtmgjidfafnajnaaDoorTD
namespace Go.Proofs.YtmgjidfafnajnaaDoor.topLabels
open Go.ChangeShapes Go.WideShapes Go.ChangeAt Go.RowKit
set_option linter.all false
set_option linter.unusedSimpArgs false
set_option linter.unusedVariables false

theorem own : ownKnob Tryd.prog.godebug = none := by kernel_rfl
theorem laidOut : laidOutB Tryd.prog = true := by kernel_rfl

set_option maxRecDepth 20000 in
theorem walk (a0 : Option Addr) (len0 cap0 : Nat) (z0 : List Int) (w : World) (ht : LS.TabOK w []) (w0 : LS.RepP w (LS.seen0 w) (.slice a0 len0 cap0) (.sl 1 (z0.map LS.encI))) (wz0 : ∀ n ∈ z0, (Lit.int .i64 n).wf = true) (wl0 : z0.length ≤ maxLen) :
    Calls Tryd.prog 3 #[.slice a0 len0 cap0] w fun e w' => e = .returned (.bool true) ∧ Below w.heap.size w w' :=
  LS.calls_below Tryd.func3 rfl (by kernel_rfl) ((LS.ok_top_TopLabels z0 true (LS.pure_TopLabels z0))) w _ ht (LS.repLs_cons (.p w0) LS.repLs_nil)

set_option maxRecDepth 100000 in
theorem lifted (os : Os) (started : os.Started) (H : Type) (enc : TypeId × Value → H) :
    ReturnsInHanded {} Tryd.checked os 3 .any (fun w args => (Rows.topLabelsSpec.pre enc Tryd.prog Tryd.f3 [] false w args ∧ laidMetH Tryd.prog Rows.topLabelsRow.laid w) ∧ sizedMet enc Tryd.prog Tryd.f3 (OpenSpec.ofChange Rows.topLabelsSpec) false w args) (Rows.topLabelsSpec.post enc Tryd.prog Tryd.f3 false true false false) := by
  refine returnsInHanded_of_change_and (C := Tryd.checked) (X := fun w _ => laidMetH Tryd.prog Rows.topLabelsRow.laid w) (fun _ _ _ hh h => h.of_heap hh) own started (by kernel_rfl) Tryd.func3
    (ChangeSpec.witness_at (enc := enc) (C := Tryd.checked) (os := os) (X := fun w _ => laidMetH Tryd.prog Rows.topLabelsRow.laid w) false (World.laidAll Tryd.prog os Rows.topLabelsRow.laid) #[.slice none 0 0] 8 (World.laidAll_os _ _ _) (by kernel_rfl) (by kernel_rfl) (by kernel_rfl) (by kernel_rfl) (by kernel_rfl) (laidMet_laidAll (laid := Rows.topLabelsRow.laid) #[.slice none 0 0] (by kernel_rfl) (by kernel_rfl))) ?_
  intro W base args ds gs before hval0 hW hcnd _ hL _
  have hval : ∀ (j : Nat) t v, Tryd.f3.params[j]? = some t → args[j]? = some v → Value.okWide Tryd.prog W .any base t v := hval0
  have hW' := hW
  obtain ⟨p, q, hA0, hV, rfl, hfz, hnd⟩ := hW
  have hA : DataW.TrodAll enc Tryd.prog W 0 (fun _ => true) true Tryd.f3.params.toList args.toList ds p := hA0
  rw [Tryd.params3] at hA hval
  obtain ⟨v0, vs0, d0, ds0, p0, q0, hargs, rfl, rfl, h0, r0⟩ := trodAll_cons hA
  obtain ⟨rfl, rfl, rfl⟩ := trodAll_nil r0
  obtain rfl : args = #[v0] := by cases args; simp_all
  obtain ⟨rfl, rfl⟩ := trodVars_none hV
  have hv0 := hval 0 22 v0 rfl rfl
  obtain ⟨a0, len0, cap0, rfl⟩ := okWide_slice Tryd.underlying22 (hval 0 22 v0 rfl rfl)
  have k0 := h0
  have lt0 : ∀ x ∈ p0, x.block < W.heap.size := by obtain ⟨m, hm⟩ := k0; exact DataW.trod_lt m _ _ _ hm
  obtain ⟨z0, w0, wz_, wl_⟩ : ∃ zs : List Int, LS.RepP W (LS.seen0 W) (.slice a0 len0 cap0) (.sl 1 (zs.map LS.encI)) ∧ (∀ n ∈ zs, (Lit.int .i64 n).wf = true) ∧ zs.length ≤ maxLen := by
    obtain ⟨fuel, hf⟩ := h0
    rcases open_ints Tryd.underlying22 Tryd.underlying3 (by kernel_rfl) hf with ⟨hcs, _⟩ | ⟨x, l, c, zs, hcs, _, hl, hm, hz, _, hcell, hwz⟩
    · simp [Value.cells] at hcs
      obtain ⟨rfl, rfl, rfl⟩ := hcs
      exact ⟨[], .slnil 1, by simp, by simp⟩
    · simp [Value.cells] at hcs
      obtain ⟨rfl, rfl, rfl⟩ := hcs
      exact ⟨zs.take len0, LS.rep_intsK LS.encI (fun _ => rfl) (LS.okWide_spot Tryd.underlying22 hv0) hl hm (by simpa using hz) hcell, fun n hn => hwz n (List.mem_of_mem_take hn), by simp; omega⟩
  have wz0 := wz_
  have wl0 := wl_
  clear hA0 hval0
  refine (walk a0 len0 cap0 z0 W (LS.tabOK_of_laid hL) w0 wz0 wl0).mono fun e W' ⟨he, bel⟩ => ?_
  subst he
  exact ⟨_, rfl, _, _, _, [], _, [], hW', trodAll_mk1 (shut_bool Tryd.underlying4 _), (trodAll_cons_mk (Below.trod laidOut (by kernel_rfl) (of_decide_eq_true (by kernel_rfl)) k0 bel lt0) trodAll_mk0), rfl, bel.frame _, fun h => by cases h⟩

theorem over : Rows.topLabelsRow.holds Tryd.pinned (OpenSpec.ofChange Rows.topLabelsSpec) :=
  OpenClaim.holds_of_wide 3 Tryd.f3 rfl rfl rfl rfl rfl rfl rfl ⟨rfl, rfl, rfl, rfl, rfl⟩ rfl rfl rfl rfl rfl (by kernel_rfl) Tryd.func3 (by kernel_rfl)
    (of_decide_eq_true (by kernel_rfl)) (by unfold Func.isWrapper; first | (rw [if_pos (by decide +kernel)]; kernel_rfl) | (rw [if_neg (by decide +kernel)]; exact ⟨rfl, rfl⟩))
    (fun os started H enc _ => lifted os started H enc)

theorem card : Rows.TopLabelsCardSaid :=
  Claim7.holds_tied_plain_at .later [] [.data, .data] true (true, "740692687bfe4e1b5e5312dab0b3a2a29a0ffa08d29c4fed607ce65115fe4654") false
    over (fun _ h => by cases h) (by kernel_rfl) (fun _ h => by cases h) topLabels_row_tie rfl ⟨rfl, rfl⟩ (by kernel_rfl) rfl
    (fun f fn hf hfn => by
      obtain rfl : f = 3 := Option.some.inj ((show Tryd.prog.funcNamed "awardingbody/awardingbodytop.TopLabels" = some 3 by kernel_rfl).symm.trans hf) |>.symm
      obtain rfl : fn = Tryd.f3 := (Option.some.inj (Tryd.func3.symm.trans hfn)).symm
      exact ⟨by kernel_rfl, fun j t ht => by
        rw [Tryd.params3] at ht
        have h3 : t ∈ [22] := by
          have := List.mem_of_getElem? (l := [22]) (i := j) (a := t) (by simpa using ht)
          exact this
        have h4 : ∀ t ∈ [22], Tryd.prog.wantsStandIn t = false := by
          intro t ht
          simp only [List.mem_cons, List.not_mem_nil, or_false] at ht
          rcases ht with rfl
          · exact (show Tryd.prog.wantsStandIn 22 = false by kernel_rfl)
        exact h4 t h3⟩)
    (by kernel_rfl)
/-- THE STATEMENT -/
theorem proved : Rows.TopLabelsCardSaid := card
#print axioms proved
end Go.Proofs.YtmgjidfafnajnaaDoor.topLabels
