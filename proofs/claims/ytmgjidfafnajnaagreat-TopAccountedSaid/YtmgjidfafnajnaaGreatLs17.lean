/-
  The framework LS, part 17: a logical block is frozen; from a body to a contract.
  No condition: lemmas.
-/
import Derived.Test.YtmgjidfafnajnaaGreatLs16
namespace Go.LS
set_option linter.all false
set_option linter.unusedSimpArgs false
set_option linter.unusedVariables false
def frzC (id e:Nat) (xs:List (List PV)):CV→CV
 | .vw i=>if i=id then .p (.sl e xs) else .vw i
 | .ap i a b=>if i=id then .dead else .ap i a b
 | .ptr i o=>if i=id then .dead else .ptr i o
 | .fn f ids=>if id∈ids then .dead else .fn f ids
 | c=>c
def LState.freeze (st:LState) (id e:Nat) (xs:List (List PV)):LState:=
 { st with s:=fun t=>(st.s t).map (frzC id e xs),h:=fun i=>if i=id then none else (st.h i).map (Blk.map (frzC id e xs)) }
theorem imp_freeze {V:List Nat}(st:LState) (id e:Nat) (xs:List (List PV)) (hb:st.h id=some (.arr e xs)) (hid:100≤id):Imp V st (st.freeze id e xs):=by
 rintro w0 B S0 R0 a w hV ⟨S,ρ,i,hS,hS',hR⟩
 let S':Seen:=fun b o=>S b o∨∃o',ρ id=some (b,o')
 let ρ':Place:=fun k=>if k=id then none else ρ k
 let h':Heap:=(st.freeze id e xs).h
 have hs:∀b o,S b o→S' b o∧w.cell? ⟨b,o,none⟩=w.cell? ⟨b,o,none⟩:=fun b o h=>⟨.inl h,rfl⟩
 have hk:∀j,j≠id→Keeps w w ρ ρ' st.h h' j:=fun j hj=>
  ⟨by simp [ρ',hj],fun e' ys hy=>⟨ys,by simp [h',LState.freeze,hj,hy,Blk.map],rfl⟩,fun _ _ b o c el _ _ hr=>⟨c,hr,rfl⟩⟩
 obtain⟨g1,g2,g3,g4⟩:=i.mem.blocks id _ hb
 have sC:∀ {v:Value} {c:CV},RepC w S ρ st.h v c→RepC w S' ρ' h' v (frzC id e xs c):=by
  intro v c r
  cases c with
  | vw k=>
   simp only [frzC]
   split
   ·rename_i hkk; subst hkk
    cases r with
    | vwnil hb'=>rw [hb] at hb'; cases hb'; exact .p (.slnil _)
    | @vw _ e2 b o2 cap xs2 cc elb hb' hp hrow hcap hroom hmx=>
     rw [hb] at hb'; cases hb'
     rcases g4 with⟨g4,_⟩ | ⟨b3,o3,c3,el3,hp3,hr3,hz3,hc3⟩
     ·rw [hp] at g4; cases g4
     rw [hp] at hp3
     obtain⟨rfl,rfl⟩:b=b3∧o2=o3:=by simpa using hp3
     refine .p (.sl b o2 xs.length cap e (fun i j=>(w.cell? ⟨b,o2+(i*e+j),none⟩).getD undef) xs rfl hcap g1 (by unfold roomy at hmx; unfold huge; omega) g2 (fun i j hi hj=>⟨.inr ⟨o2,hp⟩,?_⟩) (fun i j hi hj=>?_))
     ·obtain⟨u,hu,_⟩:=hc3 i j hi (by rw [g2 _ (List.getElem_mem hi)]; exact hj)
      rw [cell_row hr3,hu]; rfl
     ·obtain⟨u,hu,hru⟩:=hc3 i j hi hj
      rw [cell_row hr3,hu]
      exact hru.mono hs
   ·rename_i hkk; exact r.mono hs fun j hj=>by simp [refsC] at hj; subst hj; exact hk j hkk
  | ap k x y=>
   simp only [frzC]
   split
   ·exact .dead r.plain
   ·rename_i hkk; exact r.mono hs fun j hj=>by simp [refsC] at hj; subst hj; exact hk j hkk
  | ptr k x=>
   simp only [frzC]
   split
   ·exact .dead r.plain
   ·rename_i hkk; exact r.mono hs fun j hj=>by simp [refsC] at hj; subst hj; exact hk j hkk
  | fn f ids=>
   simp only [frzC]
   split
   ·exact .dead r.plain
   ·rename_i hkk; exact r.mono hs fun j hj=>by simp only [refsC] at hj; exact hk j fun e=>hkk (e ▸ hj)
  | p x=>exact r.mono hs fun j hj=>by simp [refsC] at hj
  | fl e' ys=>exact r.mono hs fun j hj=>by simp [refsC] at hj
  | ep cs=>exact r.mono hs fun j hj=>by simp [refsC] at hj
  | dead=>exact .dead r.plain
 have sCs:∀ {vs:List Value} {cs:List CV},RepCs w S ρ st.h vs cs→RepCs w S' ρ' h' vs (cs.map (frzC id e xs)):=fun r=>
  ⟨by simpa using r.1,fun k hv hc=>by simp only [List.getElem_map]; exact sC (r.2 k hv (by simpa using hc))⟩
 have sL:∀ {v:Value} {l:LV},RepL w S ρ st.h v l→RepL w S' ρ' h' v (l.map (frzC id e xs)):=by
  intro v l r
  cases l with
  | one c=>exact sC r
  | agg cs=>obtain⟨vs,rfl,r⟩:=r; exact⟨vs,rfl,sCs r⟩
 refine⟨S',ρ',⟨⟨fun k b hkb=>?_,fun k hkn=>?_,fun k b o hp=>?_,fun x y b o o' h1 h2=>?_,fun b o hso=>?_,i.mem.size,i.mem.frame,i.mem.calm,i.mem.rows,i.mem.tab⟩,i.tmps,i.defers.mono (fun _ _ _=>rfl) (fun k b o hp=>.inl ⟨k,o,by simp only [ρ'] at hp; split at hp; cases hp; exact hp⟩),fun t=>?_⟩,fun b o h=>.inl (hS b o h),fun b o h=>?_,fun k p hp=>?_,fun k b o hk hp=>?_⟩
 ·have hne:k≠id:=fun e'=>by simp [LState.freeze,e'] at hkb
  simp only [LState.freeze,hne,if_false] at hkb
  obtain⟨b0,h0,rfl⟩:=Option.map_eq_some_iff.1 hkb
  have r:=i.mem.blocks k b0 h0
  cases b0 with
  | var cs=>
   obtain⟨b,c,el,hp,hrow,hc⟩:=r
   exact⟨b,c,el,by simp [ρ',hne]; exact hp,hrow,sCs hc⟩
  | arr e' ys=>
   obtain⟨f1,f2,f3,f4⟩:=r
   refine⟨f1,f2,f3,?_⟩
   rcases f4 with⟨f4,f5⟩ | ⟨b,o,c,el,hp,hrow,hz,hc⟩
   ·exact .inl ⟨by simp [ρ',hne]; exact f4,f5⟩
   ·exact .inr ⟨b,o,c,el,by simp [ρ',hne]; exact hp,hrow,hz,fun x y hx hy=>let ⟨u,hu,hru⟩:=hc x y hx hy; ⟨u,hu,hru.mono hs⟩⟩
 ·by_cases hne:k=id
  ·simp [ρ',hne]
  ·simp only [LState.freeze,hne,if_false] at hkn
   simp only [ρ',hne,if_false]; exact i.mem.dom k (by simpa using hkn)
 ·simp only [ρ'] at hp
  split at hp
  ·cases hp
  ·exact i.mem.place k b o hp
 ·simp only [ρ'] at h1 h2
  split at h1
  ·cases h1
  ·split at h2
   ·cases h2
   ·exact i.mem.inj x y b o o' h1 h2
 ·have hne:∀k o',ρ' k≠some (b,o'):=fun k o' hp=>by
   simp only [ρ'] at hp
   split at hp
   ·cases hp
   ·rename_i hkk
    rcases hso with hso | ⟨o2,hp2⟩
    ·exact (i.mem.sep b o hso).2 k o' hp
    ·exact hkk (i.mem.inj k id b o' o2 hp hp2)
  rcases hso with hso | ⟨o2,hp2⟩
  ·exact⟨(i.mem.sep b o hso).1,hne⟩
  ·exact⟨(i.mem.place id b o2 hp2).1,hne⟩
 ·have r:=i.slots t
  simp only [LState.freeze]
  cases hst:st.s t with
  | dead=>trivial
  | x l=>rw [hst] at r; exact sL r
  | tup ls=>
   rw [hst] at r
   obtain⟨vs,hv,r⟩:=r
   exact⟨vs,hv,by simpa using r.1,fun k hv hc=>by simp only [List.getElem_map]; exact sL (r.2 k hv (by simpa using hc))⟩
  | wh g l=>rw [hst] at r; exact⟨fun hg=>sL (r.1 hg),r.2⟩
 ·rcases h with h | ⟨o',hp⟩
  ·exact hS' b o h
  ·exact .inr (hR.2 id b o' hid hp)
 ·obtain⟨f1,f2,f3⟩:=hR.1 k p hp
  have hne:k≠id:=by omega
  refine⟨f1,by simp [ρ',hne]; exact f2,?_⟩
  simp only [LState.freeze,hne,if_false]
  cases hbk:st.h k with
  | none=>rw [hbk] at f3; cases f3
  | some b=>rfl
 ·simp only [ρ'] at hp
  split at hp
  ·cases hp
  ·exact hR.2 k b o hk hp
end Go.LS
