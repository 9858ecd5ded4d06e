/-
  The framework LS, part 23: '==' on structs of two ints; more environments.
  No condition: lemmas.
-/
import Derived.Test.YtmgjidfafnajnaaGreatLs22
import Derived.Laws.StructEq
import Derived.ChangeKeysEq
namespace Go.LS
set_option linter.all false
set_option linter.unusedSimpArgs false
set_option linter.unusedVariables false
def Env.addT {P:Program}(E:Env P) (t:TypeId) (z:List Value) (ok:EqOK P t z):Env P where
 Γ:=E.Γ
 M:=E.M
 Θ:=fun t'=>if t'=t then some z else E.Θ t'
 okΓ:=E.okΓ
 okΘ:=fun t' z' h=>by
  by_cases ht:t'=t
  ·subst ht
   simp only [if_pos] at h
   cases h; exact ok
  ·simp only [if_neg ht] at h
   exact E.okΘ t' z' h
theorem Env.addT_Γ {P:Program}(E:Env P) (t:TypeId) (z:List Value) (ok):(E.addT t z ok).Γ=E.Γ:=rfl
theorem Env.addT_Θ {P:Program}(E:Env P) (t:TypeId) (z:List Value) (ok) (t':TypeId):(E.addT t z ok).Θ t'=if t'=t then some z else E.Θ t':=rfl
theorem Env.addT_M {P:Program}(E:Env P) (t:TypeId) (z:List Value) (ok):(E.addT t z ok).M=E.M:=rfl
attribute [go_sem] Env.add_Γ Env.add_Θ Env.addT_Γ Env.addT_Θ Env.addT_M
end Go.LS
