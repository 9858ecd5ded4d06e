/-
  strconv.Itoa and strconv.FormatUint at base 10, as contracts of the framework.
  No condition: lemmas.
-/
import Derived.Test.YtfioceejanpjfaaDoorLs32
import Derived.Test.YtfioceejanpjfaaDoorFU
namespace Go.LS
open Go.Proofs Go.Sort
set_option linter.all false
theorem tab10 {w : World} (h : TabOK w []) : Lib.TabIs Tryd.prog w "internal/strconv.uint64pow10" .u64 Lib.pow10Tab := by
  obtain ⟨_, o, h1, t, fz, h2⟩ := h (2, isPow10) (by simp [knownTabs])
  have hg : Tryd.prog.globalNamed "internal/strconv.uint64pow10" = some 2 := by kernel_rfl
  have h1' : w.heap[2]? = some o := h1
  unfold Lib.TabIs World.var?
  rw [hg]
  simp only [Option.bind_some, h1', h2]
theorem fu29 (u : Nat) (hu64 : u < 18446744073709551616) (w : World) (htab : Lib.TabIs Tryd.prog w "internal/strconv.uint64pow10" .u64 Lib.pow10Tab) :
    Calls Tryd.prog 29 #[.int .u64 u, .int .i64 10] w fun e w' => e = .returned (.string ⟨(Lib.decDigits u).toArray⟩) ∧ ∃ k os, w' = grow (w.drewN k) os := by
  have h := Tryd.fu54 u hu64 w htab
  go_enter Tryd.func29, Tryd.ntmps29
  go_wp2_with (go_at_call 54; refine h.mono ?_; rintro e w' ⟨rfl, k, os, rfl⟩)
  go_ret
  exact ⟨rfl, k, os, rfl⟩
theorem ok_strconv_Itoa (x : Int) (r_ : Str) (H0 : strconv_Itoa x = some r_) : CallOK Tryd.prog 39 [.one (.p (pi x))] [] [.one (.p (.val (.string (bs r_))))] [] := by
  unfold strconv_Itoa at H0
  split at H0
  · rename_i hx
    obtain rfl := Option.some.inj H0
    refine callOK_grow Tryd.func39 rfl (by kernel_rfl) (args1 fun w S ρ h v r => repL_val r) rfl fun w ht => ?_
    refine (Tryd.strconv_Itoa x hx.1 hx.2 w (tab10 ht)).mono ?_
    rintro e w' ⟨rfl, k, os, rfl⟩
    exact ⟨rfl, grow_frame w k os⟩
  · cases H0
theorem ok_strconv_FormatUint (x base : Int) (r_ : Str) (H0 : strconv_FormatUint x base = some r_) : CallOK Tryd.prog 29 [.one (.p (.val (.int .u64 x))), .one (.p (pi base))] [] [.one (.p (.val (.string (bs r_))))] [] := by
  unfold strconv_FormatUint at H0
  split at H0
  · rename_i hx
    obtain ⟨h0, h1, rfl⟩ := hx
    obtain rfl := Option.some.inj H0
    obtain ⟨u, rfl⟩ : ∃ u : Nat, x = u := ⟨x.toNat, by omega⟩
    refine callOK_grow Tryd.func29 rfl (by kernel_rfl) (args2 (fun w S ρ h v r => repL_val r) fun w S ρ h v r => repL_val r) rfl fun w ht => ?_
    refine (fu29 u (by omega) w (tab10 ht)).mono ?_
    rintro e w' ⟨rfl, k, os, rfl⟩
    exact ⟨rfl, grow_frame w k os⟩
  · cases H0
end Go.LS
