/-
  The framework LS, part 34: a logical block may get another number; an array variable that is read at an index.
  No condition: lemmas.
-/
import Derived.Test.YtmgjidfafnajnaaGreatLs27
namespace Go.LS
set_option linter.all false
set_option linter.unusedSimpArgs false
set_option linter.unusedVariables false
def sw (i j n:Nat):Nat:=if n=i then j else if n=j then i else n
theorem sw_sw (i j n:Nat):sw i j (sw i j n)=n:=by
 unfold sw
 by_cases h1:n=i
 ·subst h1; by_cases h2:j=n
  ·subst h2; simp
  ·simp [h2]
 ·by_cases h2:n=j
  ·subst h2; simp [h1]
  ·simp [h1,h2]
theorem sw_low {i j n:Nat}(hi:100≤i) (hj:100≤j) (hn:n<100):sw i j n=n:=by
 unfold sw; rw [if_neg (by omega),if_neg (by omega)]
theorem sw_high {i j n:Nat}(hi:100≤i) (hj:100≤j) (hn:100≤n):100≤sw i j n:=by
 unfold sw; split
 ·exact hj
 ·split
  ·exact hi
  ·exact hn
def renS (i j:Nat) (st:LState):LState:=⟨st.n,fun t=>(st.s t).map (renC (sw i j)),fun id=>(st.h (sw i j id)).map (Blk.map (renC (sw i j)))⟩
theorem renS_n (i j:Nat) (st:LState):(renS i j st).n=st.n:=rfl
theorem renS_s (i j:Nat) (st:LState) (t:Nat):(renS i j st).s t=(st.s t).map (renC (sw i j)):=rfl
theorem renS_h (i j:Nat) (st:LState) (id:Nat):(renS i j st).h id=(st.h (sw i j id)).map (Blk.map (renC (sw i j))):=rfl
theorem imp_ren {V:List Nat}{st:LState}(i j:Nat) (hi:100≤i) (hj:100≤j):Imp V st (renS i j st):=by
 rintro w0 B S0 R0 a w hV ⟨S,ρ,inv,hS,hS',hR⟩
 have hdom:∀id,st.h id=none→ρ id=none:=inv.mem.dom
 have hp:∀id,st.h id≠none→(fun k=>ρ (sw i j k)) (sw i j id)=ρ id:=fun id _=>by simp only [sw_sw]
 have ha:∀id e xs,st.h id=some (.arr e xs)→(renS i j st).h (sw i j id)=some (.arr e xs):=fun id e xs h=>by rw [renS_h,sw_sw,h]; rfl
 have back:∀id b,(renS i j st).h id=some b→∃b0,st.h (sw i j id)=some b0∧b=b0.map (renC (sw i j)):=fun id b h=>by
  rw [renS_h] at h
  cases h0:st.h (sw i j id) with
  | none=>rw [h0] at h; cases h
  | some b0=>rw [h0] at h; exact⟨b0,rfl,(Option.some.inj h).symm⟩
 have sinj:∀ {x y:Nat},sw i j x=sw i j y→x=y:=fun {x y} h=>by
  have:=congrArg (sw i j) h
  rwa [sw_sw,sw_sw] at this
 have mem:Mem w0 B w S (fun k=>ρ (sw i j k)) (renS i j st).h:=by
  refine⟨fun id blk hb=>?_,fun id hn=>?_,fun id b o h=>inv.mem.place _ b o h,fun x y b o o' h1 h2=>sinj (inv.mem.inj _ _ b o o' h1 h2),fun b o h=>⟨(inv.mem.sep b o h).1,fun id o'=>(inv.mem.sep b o h).2 _ o'⟩,inv.mem.size,inv.mem.frame,inv.mem.calm,inv.mem.rows,inv.mem.tab⟩
  ·obtain⟨b0,h1,rfl⟩:=back id blk hb
   have r:=inv.mem.blocks _ _ h1
   cases b0 with
   | var cs=>
    obtain⟨b,c,el,h2,h3,h4⟩:=r
    exact⟨b,c,el,h2,h3,RepCs.ren' h4 hdom hp ha⟩
   | arr e xs=>exact r
  ·refine hdom _ ?_
   rw [renS_h] at hn
   cases h0:st.h (sw i j id) with
   | none=>rfl
   | some b0=>rw [h0] at hn; cases hn
 refine⟨S,fun k=>ρ (sw i j k),⟨mem,inv.tmps,?_,fun t=>?_⟩,hS,hS',?_,fun id b o h1 h2=>hR.2 _ b o (sw_high hi hj h1) h2⟩
 ·exact⟨inv.defers.1,fun d hd=>by
   obtain⟨D,e,h0,h1,h2⟩:=inv.defers.2 d hd
   exact⟨D,e,h0,h1,fun id o=>h2 _ o⟩⟩
 ·have r:=inv.slots t
  rw [renS_s]
  cases hs:st.s t with
  | dead=>trivial
  | x l=>rw [hs] at r; exact RepL.ren' (l:=l) r hdom hp ha
  | tup ls=>
   rw [hs] at r
   obtain⟨vs,h1,h2,h3⟩:=r
   refine⟨vs,h1,by simpa using h2,fun k hv hc=>?_⟩
   simp only [List.getElem_map]
   exact RepL.ren' (h3 k hv (by simpa using hc)) hdom hp ha
  | wh g l=>rw [hs] at r; exact⟨fun hg=>RepL.ren' (l:=l) (r.1 hg) hdom hp ha,r.2⟩
 ·rintro id p hp'
  obtain⟨h1,h2,h3⟩:=hR.1 id p hp'
  refine⟨h1,by simp only [sw_low hi hj h1]; exact h2,?_⟩
  rw [renS_h,sw_low hi hj h1]
  cases h0:st.h id with
  | none=>rw [h0] at h3; cases h3
  | some b=>rfl
theorem getD4_encI (a b c d:List Int) (n:Int) (h0:0≤n) (h1:n<4):List.getD [CV.p (.sl 1 (List.map encI a)),.p (.sl 1 (List.map encI b)),.p (.sl 1 (List.map encI c)),.p (.sl 1 (List.map encI d))] (0+n.toNat*1) .dead = .p (.sl 1 (List.map encI (ix [a,b,c,d] n))):=by
 have h:n=0∨n=1∨n=2∨n=3:=by omega
 rcases h with rfl | rfl | rfl | rfl <;> rfl
theorem getD4_encI' (a b c d:List Int) (n:Int) (h0:0≤n) (h1:n<4):List.getD [CV.p (.sl 1 (List.map encI a)),.p (.sl 1 (List.map encI b)),.p (.sl 1 (List.map encI c)),.p (.sl 1 (List.map encI d))] n.toNat .dead = .p (.sl 1 (List.map encI (ix [a,b,c,d] n))):=by
 have h:=getD4_encI a b c d n h0 h1
 rwa [Nat.zero_add,Nat.mul_one] at h
attribute [go_sem] getD4_encI getD4_encI' renS_n renS_s renS_h sw
end Go.LS
