/-
  The framework LS, part 21: loops and branches of a walk.
  No condition: lemmas.
-/
import Derived.Test.YtmgjidfafnajnaaGreatLs20
namespace Go.LS
set_option linter.all false
set_option linter.unusedSimpArgs false
set_option linter.unusedVariables false
section
variable {P:Program} {V:List Nat} {st st':LState} {Q Q':Exit→LState→Prop}
def allS (st:LState):List (Nat×SV)→Prop
 | []=>True
 | (t,v) :: r=>st.s t=v∧allS st r
def allH (st:LState):List (Nat×Blk)→Prop
 | []=>True
 | (t,v) :: r=>st.h t=some v∧allH st r
theorem lok_loop_from {α:Type}{c:Code}(I:α→LState) (C:α→Prop) (μ:α→Nat) (x:α) (hi:Imp V st (I x)) (h0:C x)
  (round:∀x,C x→LOK P V c (I x) (thenL (fun s=>∃y,C y∧μ y<μ x∧Imp V s (I y)) Q)):LOK P V (.loop c) st Q:=
 lok_imp hi (lok_loop I C μ x h0 round)
def Env.add (E:Env P) (f:FuncId) (g:List LV→List Blk→CRes) (ok:∀args blks,(g args blks).pre→CallOK P f args blks (g args blks).rets (g args blks).blks):Env P where
 Γ:=fun d f' a b=>if f'=f then g a b else E.Γ d f' a b
 M:=E.M
 Θ:=E.Θ
 okΓ:=fun d f' a b h=>by
  by_cases hf:f'=f
  ·subst hf
   simp only [if_pos] at h ⊢
   exact ok a b h
  ·simp only [if_neg hf] at h ⊢
   exact E.okΓ d f' a b h
 okΘ:=E.okΘ
theorem Env.add_Γ (E : Env P) (f : FuncId) (g : List LV → List Blk → CRes) (ok) (d : Option Nat) (f' : FuncId) (a : List LV) (b : List Blk) : (E.add f g ok).Γ d f' a b = if f' = f then g a b else E.Γ d f' a b := rfl
theorem Env.add_Θ (E : Env P) (f : FuncId) (g : List LV → List Blk → CRes) (ok) : (E.add f g ok).Θ = E.Θ := rfl
theorem Env.add_M (E : Env P) (f : FuncId) (g : List LV → List Blk → CRes) (ok) : (E.add f g ok).M = E.M := rfl
end
theorem wrap64 {n:Int}(h1 : -9223372036854775808≤n) (h2:n<9223372036854775808):IntKind.wrap .i64 n=n:=by
 simp only [IntKind.wrap,IntKind.bits,IntKind.signed]
 simp
 omega
end Go.LS
