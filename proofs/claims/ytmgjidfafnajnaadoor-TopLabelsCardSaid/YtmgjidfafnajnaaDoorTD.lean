/-
  From the row's listed variables to what the framework knows of the package variables: the powers and the logarithms.
  Condition: the row's own.
-/
import Derived.Test.YtmgjidfafnajnaaDoorLs32
import Derived.Test.YtmgjidfafnajnaaDoorRows
import Derived.Lib.LaidTab
import Derived.Stop.LaidErr
import Derived.Stop.Joined
namespace Go.LS
open Go.Proofs Go.Proofs.YtmgjidfafnajnaaDoor
set_option linter.all false
abbrev laid8 : List (String × DataW Unit) := [("awardingbody/rscode.powers", Rows.laid_awardingbody_rscode_powers), ("awardingbody/rscode.logs", Rows.laid_awardingbody_rscode_logs)]
theorem isInts_of {W : World} {name : String} {g : Nat} {zs : List Int} (hg : Tryd.prog.globalNamed name = some g) (ht : Lib.TabIs Tryd.prog W name .i64 zs) : ∃ o, W.heap[g]? = some o ∧ isInts zs o := by
  unfold Lib.TabIs World.var? at ht
  rw [hg] at ht
  simp only [Option.bind_some] at ht
  cases ho : W.heap[g]? with
  | none => rw [ho] at ht; cases ht
  | some o =>
    rw [ho] at ht
    refine ⟨o, rfl, ?_⟩
    cases o with
    | cells cs t fz => simp only [Option.some.injEq] at ht; exact ⟨t, fz, by rw [ht]⟩
    | _ => cases ht
theorem tabOK_of_laid {W : World} (h : laidMetH Tryd.prog laid8 W) : TabOK W [] := by
  have h1 : laidMet Tryd.prog laid8 W := h
  have h2 := h1.tail
  have hg0 : Tryd.prog.globalNamed "awardingbody/rscode.powers" = some 0 := by kernel_rfl
  have hg1 : Tryd.prog.globalNamed "awardingbody/rscode.logs" = some 1 := by kernel_rfl
  have t0 : Lib.TabIs Tryd.prog W "awardingbody/rscode.powers" .i64 powT :=
    Lib.tabIs_of_head hg0 (t := 108) (e := 3) (n := 31) (by kernel_rfl) (by kernel_rfl) (by kernel_rfl) (by kernel_rfl) (by kernel_rfl) h1
  have t1 : Lib.TabIs Tryd.prog W "awardingbody/rscode.logs" .i64 logT :=
    Lib.tabIs_of_head hg1 (t := 109) (e := 3) (n := 32) (by kernel_rfl) (by kernel_rfl) (by kernel_rfl) (by kernel_rfl) (by kernel_rfl) h2
  intro x hx
  simp only [knownTabs, List.mem_cons, List.not_mem_nil, or_false] at hx
  rcases hx with rfl | rfl
  · exact ⟨by simp, isInts_of hg0 t0⟩
  · exact ⟨by simp, isInts_of hg1 t1⟩
end Go.LS
