/-
  'Rows.ExchangeChecksSaid' out of the law's contract. The row's step is the kit's own frame (proof-skeleton.mjs).
-/
import Derived.Test.YtdlmgokicfoidaaDoorRows
import Derived.Test.YtdlmgokicfoidaaDoorCards
import Derived.Test.YtdlmgokicfoidaaDoorTie
import Derived.SevenTiedAt
import Derived.Lay
import Derived.Handed
import Derived.MakeChecks
import Derived.Lib.LaidTab
import Derived.Stop.Joined
import Derived.Stop.LaidErr
import Derived.WalkKit
import Derived.ProofKit
import Derived.OpenShut
import Derived.ShutString
import Derived.ChangeOld
import Derived.Below
import Derived.Test.YtdlmgokicfoidaaDoorK2
import Derived.Test.YtdlmgokicfoidaaDoorPX
import Derived.Test.YtdlmgokicfoidaaDoorTD
namespace Go.Proofs.YtdlmgokicfoidaaDoor.exchangeChecks
open Go.ChangeShapes Go.WideShapes Go.ChangeAt Go.RowKit
open Go.ChangeMaps (open_string shut_string)
set_option linter.all false
set_option linter.unusedSimpArgs false
set_option linter.unusedVariables false

theorem own : ownKnob Tryd.prog.godebug = none := by kernel_rfl
theorem laidOut : laidOutB Tryd.prog = true := by kernel_rfl

set_option maxRecDepth 20000 in
theorem walk (a0 : LS.Str) (a1 : Int) (w : World) (ht : LS.TabOK w []) (w0 : (LS.bs a0).size ≤ maxLen) (w1 : (Lit.int .i64 a1).wf = true) :
    Calls Tryd.prog 7 #[.string (LS.bs a0), .int .i64 a1] w fun e w' => e = .returned (.bool true) ∧ Below w.heap.size w w' :=
  LS.calls_below Tryd.func7 rfl (by kernel_rfl) ((LS.ok_law03_ExchangeChecks a0 a1 true (LS.pure_ExchangeChecks a0 a1))) w _ ht (LS.repLs_cons (.p (.val _ rfl)) (LS.repLs_cons (LS.rep_int _ _) LS.repLs_nil))

set_option maxRecDepth 100000 in
theorem lifted (os : Os) (started : os.Started) (H : Type) (enc : TypeId × Value → H) :
    ReturnsInHanded {} Tryd.checked os 7 .any (fun w args => (Rows.exchangeChecksSpec.pre enc Tryd.prog Tryd.f7 [] false w args ∧ laidMetH Tryd.prog Rows.exchangeChecksRow.laid w) ∧ sizedMet enc Tryd.prog Tryd.f7 (OpenSpec.ofChange Rows.exchangeChecksSpec) false w args) (Rows.exchangeChecksSpec.post enc Tryd.prog Tryd.f7 false true false false) := by
  refine LS.returnsInHanded_laid_shaped (C := Tryd.checked) (X := fun w _ => laidMetH Tryd.prog Rows.exchangeChecksRow.laid w) (fun _ _ _ hh h => h.of_heap hh) own started (by kernel_rfl) Tryd.func7
    (ChangeSpec.witness_at (enc := enc) (C := Tryd.checked) (os := os) (X := fun w _ => laidMetH Tryd.prog Rows.exchangeChecksRow.laid w) false (World.laidAll Tryd.prog os Rows.exchangeChecksRow.laid) #[.string ByteArray.empty, .int .i64 0] 8 (World.laidAll_os _ _ _) (by kernel_rfl) (by kernel_rfl) (by kernel_rfl) (by kernel_rfl) (by kernel_rfl) (laidMet_laidAll (laid := Rows.exchangeChecksRow.laid) #[.string ByteArray.empty, .int .i64 0] (by kernel_rfl) (by kernel_rfl))) ?_
  intro W base args ds gs before hval0 hW hcnd _ hL hSh _
  have hval : ∀ (j : Nat) t v, Tryd.f7.params[j]? = some t → args[j]? = some v → Value.okWide Tryd.prog W .any base t v := hval0
  have hW' := hW
  obtain ⟨p, q, hA0, hV, rfl, hfz, hnd⟩ := hW
  have hA : DataW.TrodAll enc Tryd.prog W 0 (fun _ => true) true Tryd.f7.params.toList args.toList ds p := hA0
  rw [Tryd.params7] at hA hval
  obtain ⟨v0, vs0, d0, ds0, p0, q0, hargs, rfl, rfl, h0, r0⟩ := trodAll_cons hA
  obtain ⟨v1, vs1, d1, ds1, p1, q1, rfl, rfl, rfl, h1, r1⟩ := trodAll_cons r0
  obtain ⟨rfl, rfl, rfl⟩ := trodAll_nil r1
  obtain rfl : args = #[v0, v1] := by cases args; simp_all
  obtain ⟨rfl, rfl⟩ := trodVars_none hV
  obtain ⟨a0, rfl, rfl, rfl, w0⟩ := open_string Tryd.underlying9 (hval 0 9 v0 rfl rfl) h0
  obtain ⟨a1, rfl, rfl, rfl, w1⟩ := open_int Tryd.underlying3 (hval 1 3 v1 rfl rfl) h1
  clear hA0 hval0
  refine (walk a0.data.toList a1 W (LS.tabOK_of_laid hL hSh) w0 w1).mono fun e W' ⟨he, bel⟩ => ?_
  subst he
  exact ⟨_, rfl, _, _, _, [], _, [], hW', trodAll_mk1 (shut_bool Tryd.underlying4 _), (trodAll_cons_mk (shut_string Tryd.underlying9 w0) (trodAll_cons_mk (shut_int Tryd.underlying3 w1) trodAll_mk0)), rfl, bel.frame _, fun h => by cases h⟩

theorem over : Rows.exchangeChecksRow.holds Tryd.pinned (OpenSpec.ofChange Rows.exchangeChecksSpec) :=
  OpenClaim.holds_of_wide 7 Tryd.f7 rfl rfl rfl rfl rfl rfl rfl ⟨rfl, rfl, rfl, rfl, rfl⟩ rfl rfl rfl rfl rfl (by kernel_rfl) Tryd.func7 (by kernel_rfl)
    (of_decide_eq_true (by kernel_rfl)) (by unfold Func.isWrapper; first | (rw [if_pos (by decide +kernel)]; kernel_rfl) | (rw [if_neg (by decide +kernel)]; exact ⟨rfl, rfl⟩))
    (fun os started H enc _ => lifted os started H enc)

theorem card : Rows.ExchangeChecksCardSaid :=
  Claim7.holds_tied_plain_at .later [] [.data, .data, .data, .data, .pinned] true (true, "e9eea02f244a3e5ab091ba94741cf80eb43f5c560fc05eed5a277bc74aeb5b0b") false
    over (fun _ h => by cases h) (by kernel_rfl) (fun _ h => by cases h) exchangeChecks_row_tie rfl ⟨rfl, rfl⟩ (by kernel_rfl) rfl
    (fun f fn hf hfn => by
      obtain rfl : f = 7 := Option.some.inj ((show Tryd.prog.funcNamed "awardingbody/awardingbodylaw03.ExchangeChecks" = some 7 by kernel_rfl).symm.trans hf) |>.symm
      obtain rfl : fn = Tryd.f7 := (Option.some.inj (Tryd.func7.symm.trans hfn)).symm
      exact ⟨by kernel_rfl, fun j t ht => by
        rw [Tryd.params7] at ht
        have h3 : t ∈ [9, 3] := by
          have := List.mem_of_getElem? (l := [9, 3]) (i := j) (a := t) (by simpa using ht)
          exact this
        have h4 : ∀ t ∈ [9, 3], Tryd.prog.wantsStandIn t = false := by
          intro t ht
          simp only [List.mem_cons, List.not_mem_nil, or_false] at ht
          rcases ht with rfl | rfl
          · exact (show Tryd.prog.wantsStandIn 9 = false by kernel_rfl)
          · exact (show Tryd.prog.wantsStandIn 3 = false by kernel_rfl)
        exact h4 t h3⟩)
    (by kernel_rfl)
/-- THE STATEMENT -/
theorem proved : Rows.ExchangeChecksCardSaid := card
#print axioms proved
end Go.Proofs.YtdlmgokicfoidaaDoor.exchangeChecks
