/-
  The framework LS, part 30: functions that the model itself stands in for: Add64 and Sub64.
  No condition: lemmas.
-/
import Derived.Test.YtmgjidfafnajnaaGreatLs29
import Derived.Laws.Externs
import Derived.KernelRfl
import GoSem.Claim
namespace Go.LS
set_option linter.all false
set_option linter.unusedSimpArgs false
set_option linter.unusedVariables false
section
variable {P:Program}
theorem rep_intsK {w:World}{k:IntKind}{x:Addr}{len cap:Nat}{zs:List Int}(enc:Int→List PV) (henc:∀n,enc n=[.val (.int k n)]) (hsp:x.spot=none) (hl:len≤cap) (hm:cap≤maxLen) (hz:zs.length=cap) (hc:∀i,i<zs.length→w.cell? (x.add i)=some (.int k (zs.getD i 0))) :
  RepP w (seen0 w) (.slice (some x) len cap) (.sl 1 ((zs.take len).map enc)):=by
 obtain⟨b,o,sp⟩:=x
 have hsp':sp=none:=hsp
 subst hsp'
 have hadd:∀i,(⟨b,o,none⟩:Addr).add i=⟨b,o+i,none⟩:=fun i=>by
  unfold Addr.add
  by_cases h:i=0
  ·subst h; rfl
  ·rw [if_neg h]
 refine .sl b o len cap 1 (fun i _=>.int k (zs.getD i 0)) _ (by simp; omega) hl (Nat.le_refl _) (Nat.le_trans hl (Nat.le_trans hm (by unfold maxLen huge; decide))) (fun y hy=>?_) (fun i j hi hj=>?_) (fun i j hi hj=>?_)
 ·obtain⟨n,_,rfl⟩:=List.mem_map.1 hy; rw [henc]; rfl
 ·have hj0:j=0:=by omega
  subst hj0
  have h:=hc i (by omega)
  rw [hadd] at h
  rw [show o+(i*1+0)=o+i by omega]
  refine⟨?_,h⟩
  unfold World.cell? at h
  split at h
  ·rename_i c t fr hh
   exact (Array.getElem?_eq_some_iff.1 hh).1
  ·cases h
 ·simp only [List.length_map,List.length_take] at hi
  simp only [List.getElem_map,List.getElem_take,henc] at hj ⊢
  have hj0:j=0:=by simpa using hj
  subst hj0
  have hi':i<zs.length:=by omega
  simp only [List.getElem_cons_zero]
  have:zs.getD i 0=zs[i]:=by simp [List.getD,hi']
  rw [this]
  exact .val _ rfl
end
end Go.LS
