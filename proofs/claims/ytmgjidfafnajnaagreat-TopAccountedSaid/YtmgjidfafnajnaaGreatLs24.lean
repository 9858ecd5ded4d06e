/-
  The framework LS, part 24: from a contract to the statement's own form of a call.
  No condition: lemmas.
-/
import Derived.Test.YtmgjidfafnajnaaGreatLs23
import Derived.Below
import Derived.ChangeSlices
import Derived.OpenShut
namespace Go.LS
set_option linter.all false
set_option linter.unusedSimpArgs false
set_option linter.unusedVariables false
open Go.RowKit
section
variable {P:Program}
def encI (n:Int):List PV:=[.val (.int .i64 n)]
def seen0 (w:World):Seen:=fun b _=>b<w.heap.size
theorem calls_below {f : FuncId} {fn : Func} {c : Code} (hf : P.funcs[f]? = some fn) (hb : fn.body = some c) (hname : (fn.name == "runtime.NumGoroutine") = false) {args : List LV} {r : Bool} (ok : CallOK P f args [] [.bool r] [])
  (w:World) (vs:Array Value) (ht:TabOK w []) (hr:RepLs w (seen0 w) (fun _=>none) (fun _=>none) vs.toList args):Calls P f vs w fun e w'=>e = .returned (.bool r)∧Below w.heap.size w w':=by
 have hH:heapOf []=(fun _=>none):=by funext k; simp [heapOf]
 have hm:Mem w [] w (seen0 w) (fun _=>none) (heapOf []):=
  ⟨(fun id blk hb=>by simp [heapOf] at hb),fun _ _=>rfl,(fun _ _ _ h=>by cases h),(fun _ _ _ _ _ h=>by cases h),fun b o h=>⟨h,(fun _ _ h=>by cases h)⟩,Nat.le_refl _,fun _ _ _=>rfl,Calm.refl w,RowsKept.refl w,ht⟩
 have:=ok w vs (seen0 w) (fun _=>none) [] hm (by rw [hH]; exact hr)
 unfold CallF at this
 rw [run_callFunc hf hb hname] at this
 refine Calls.mono this ?_
 rintro e w' ⟨v,S',ρ',rfl,hm',_,_,_,_,hv⟩
 refine⟨by rw [repL_val (show RepL w' S' ρ' (heapOf' []) v (.bool r) from hv)],hm'.calm.1,hm'.calm.2.1,hm'.calm.2.2,hm'.size,fun k hk=>hm'.frame k hk (by simp)⟩
theorem repLs_nil {w:World}{S:Seen}{ρ:Place}{h:Heap}:RepLs w S ρ h [] []:=⟨rfl,fun i hi=>absurd hi (by simp)⟩
theorem repLs_cons {w:World}{S:Seen}{ρ:Place}{h:Heap}{v:Value}{vs:List Value}{l:LV}{ls:List LV}(r:RepL w S ρ h v l) (rs:RepLs w S ρ h vs ls):RepLs w S ρ h (v :: vs) (l :: ls):=
 ⟨by simp [rs.1],fun i hv hc=>by
  cases i with
  | zero=>exact r
  | succ i=>exact rs.2 i (by simpa using hv) (by simpa using hc)⟩
theorem okWide_spot {w:World}{r:Reach}{base:Nat}{t e:TypeId}{x:Addr}{len cap:Nat}(ht:P.underlying t=some (.slice e)) (h:Value.okWide P w r base t (.slice (some x) len cap)):x.spot=none:=by
 simp only [Value.okWide,ht,Cell.okWide,Cell.ok] at h
 exact h.2.2.2.1
end
end Go.LS
