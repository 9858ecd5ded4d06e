/-
  From the row's listed variables to what the framework knows of the package variables.
  Condition: the row's own.
-/
import Derived.Test.YtfioceejanpjfaaDoorLs32
import Derived.Test.YtfioceejanpjfaaDoorRows
import Derived.Lib.LaidTab
import Derived.Stop.LaidErr
import Derived.Stop.Joined
namespace Go.LS
open Go.Proofs Go.Proofs.YtfioceejanpjfaaDoor
set_option linter.all false
theorem tabOK_of_laid {W : World} (h : laidMetH Tryd.prog [("math/bits.deBruijn32tab", Rows.laid_math_bits_deBruijn32tab), ("math/bits.deBruijn64tab", Rows.laid_math_bits_deBruijn64tab), ("internal/strconv.uint64pow10", Rows.laid_internal_strconv_uint64pow10)] W) : TabOK W [] := by
  have h1 : laidMet Tryd.prog [("math/bits.deBruijn32tab", Rows.laid_math_bits_deBruijn32tab), ("math/bits.deBruijn64tab", Rows.laid_math_bits_deBruijn64tab), ("internal/strconv.uint64pow10", Rows.laid_internal_strconv_uint64pow10)] W := h
  have h2 := h1.tail.tail
  have hg : Tryd.prog.globalNamed "internal/strconv.uint64pow10" = some 2 := by kernel_rfl
  have ht : Lib.TabIs Tryd.prog W "internal/strconv.uint64pow10" .u64 Lib.pow10Tab :=
    Lib.tabIs_of_head hg (t := 98) (e := 43) (n := 20) (by kernel_rfl) (by kernel_rfl) (by kernel_rfl) (by kernel_rfl) (by kernel_rfl) h2
  intro x hx
  simp only [knownTabs, List.mem_singleton] at hx
  subst hx
  refine ⟨by simp, ?_⟩
  unfold Lib.TabIs World.var? at ht
  rw [hg] at ht
  simp only [Option.bind_some] at ht
  cases ho : W.heap[2]? with
  | none => rw [ho] at ht; cases ht
  | some o =>
    rw [ho] at ht
    refine ⟨o, rfl, ?_⟩
    cases o with
    | cells cs t fz => simp only [Option.some.injEq] at ht; exact ⟨t, fz, by rw [ht]⟩
    | _ => cases ht
end Go.LS
