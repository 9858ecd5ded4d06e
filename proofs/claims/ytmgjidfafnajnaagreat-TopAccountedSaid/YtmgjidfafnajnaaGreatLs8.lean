/-
  The framework LS, part 8: quiet operations, continued: slicing, closures, conversions.
  No condition: lemmas.
-/
import Derived.Test.YtmgjidfafnajnaaGreatLs7
namespace Go.LS
set_option linter.all false
set_option linter.unusedSimpArgs false
set_option linter.unusedVariables false
section
variable {P:Program} {o:Oper} {a:Act} {w w0:World} {B:List Nat} {S:Seen} {ρ:Place} {st:LState} {h:Heap}
theorem bound_rep (i:InvAt w0 B S ρ st a w){x:Option Operand}{d:Nat}(hq:(boundOf (x.map (ev st)) d).2) :
  (x=none∧(boundOf (x.map (ev st)) d).1=d)∨∃y k n,x=some y∧a.eval y = .int k n∧0≤n∧(boundOf (x.map (ev st)) d).1=n.toNat:=by
 cases x with
 | none=>exact .inl ⟨rfl,rfl⟩
 | some y=>
  right
  simp only [Option.map_some] at hq ⊢
  have hy:∃k n q,ev st y=(.one (.p (.val (.int k n))),q)∧q∧0≤n:=by
   unfold boundOf at hq
   split at hq
   ·rename_i h; cases h
   ·rename_i k n q heq
    simp only [Option.some.injEq] at heq
    exact⟨k,n,q,heq,hq.1,hq.2⟩
   ·exact hq.elim
  obtain⟨k,n,q,he,hq1,hq2⟩:=hy
  have r:=repL_val (by have:=ev_rep i (x:=y) (by rw [he]; exact hq1); rw [he] at this; exact this)
  exact⟨y,k,n,rfl,r,hq2,by rw [he]; rfl⟩
theorem run_sliceBounds (isSl:Bool) (len cap:Nat) (lo hi mx:Option Operand) (L H M:Nat)
  (hlo:(lo=none∧L=0)∨∃y k n,lo=some y∧a.eval y = .int k n∧0≤n∧L=n.toNat)
  (hhi:(hi=none∧H=len)∨∃y k n,hi=some y∧a.eval y = .int k n∧0≤n∧H=n.toNat)
  (hmx:(mx=none∧M=cap)∨∃y k n,mx=some y∧a.eval y = .int k n∧0≤n∧M=n.toNat)
  (h1:L≤H) (h2:H≤M) (h3:M≤cap) (h4:mx.isSome=true→hi.isSome=true) :
  (Instr.sliceBounds isSl len cap (lo.map a.eval) (hi.map a.eval) (mx.map a.eval)).run P w = .ok (L,H,M) w:=by
 have hb:∀ (k:IntKind) (n:Int) (y:Nat) (code:BoundsCode),0≤n→n.toNat≤y→(Instr.sliceBound (.int k n) y code).run P w = .ok n.toNat w:=fun k n y code h0 hy=>
  run_sliceBound (P:=P) (w:=w) k n y code h0 (by omega)
 rcases hmx with⟨rfl,rfl⟩ | ⟨ym,km,nm,rfl,em,h0m,rfl⟩
 ·rcases hhi with⟨rfl,rfl⟩ | ⟨yh,kh,nh,rfl,eh,h0h,rfl⟩ <;> rcases hlo with⟨rfl,rfl⟩ | ⟨yl,kl,nl,rfl,el,h0l,rfl⟩
  ·simp [Instr.sliceBounds]
  ·simp [Instr.sliceBounds,el,hb kl nl _ _ h0l h1]
  ·simp [Instr.sliceBounds,eh,hb kh nh _ _ h0h h2]
  ·simp [Instr.sliceBounds,eh,el,hb kh nh _ _ h0h h2,hb kl nl _ _ h0l h1]
 ·rcases hhi with⟨rfl,rfl⟩ | ⟨yh,kh,nh,rfl,eh,h0h,rfl⟩
  ·simp at h4
  ·rcases hlo with⟨rfl,rfl⟩ | ⟨yl,kl,nl,rfl,el,h0l,rfl⟩
   ·simp [Instr.sliceBounds,em,eh,hb km nm _ _ h0m h3,hb kh nh _ _ h0h h2]
   ·simp [Instr.sliceBounds,em,eh,el,hb km nm _ _ h0m h3,hb kh nh _ _ h0h h2,hb kl nl _ _ h0l h1]
theorem repP_part {v:Value}{e:Nat}{xs:List (List PV)}(r:RepP w S v (.sl e xs)){L H:Nat}(h1:L≤H) (h2:H≤xs.length) :
  ∃ad n cap,v = .slice ad n cap∧n=xs.length∧n≤cap∧∀ (M:Nat) (ad':Option Addr),H≤M→M≤cap→ad'=(if M=L then ad else ad.map (·.add (L*e)))→RepP w S (.slice ad' (H - L) (M - L)) (.sl e ((xs.take H).drop L)):=by
 cases r with
 | slnil=>
  refine⟨none,0,0,rfl,rfl,Nat.le_refl _,fun M ad' hHM hM had=>?_⟩
  simp at h2; subst h2
  obtain rfl:L=0:=by omega
  obtain rfl:M=0:=by omega
  simp at had; subst had
  simp; exact .slnil e
 | sl b o n cap e f xs hn hcap he hm hl hc hr=>
  refine⟨some ⟨b,o,none⟩,n,cap,rfl,hn.symm,hcap,fun M ad' hHM hM had=>?_⟩
  have hlen:((xs.take H).drop L).length=H - L:=by simp; omega
  have had':ad'=some ⟨b,if M=L then o else o+L*e,none⟩:=by
   rw [had]; split
   ·rfl
   ·simp [add_mk]
  subst had'
  by_cases hML:M=L
  ·have:H=L:=by omega
   subst this; subst hML
   have hnil:(xs.take M).drop M=[]:=by apply List.eq_nil_of_length_eq_zero; simp
   rw [hnil,Nat.sub_self,if_pos rfl]
   exact .sl b o 0 0 e (fun _ _=>undef) [] rfl (Nat.le_refl _) he (Nat.zero_le _) (by simp) (fun i j hi=>absurd hi (by omega)) (fun i j hi=>absurd hi (by simp))
  ·rw [if_neg hML]
   refine .sl b (o+L*e) (H - L) (M - L) e (fun i j=>f (L+i) j) _ hlen (by omega) he (by omega) (fun x hx=>hl x (List.mem_of_mem_take (List.mem_of_mem_drop hx))) (fun i j hi hj=>?_) (fun i j hi hj=>?_)
   ·have:=hc (L+i) j (by omega) hj
    rw [show o+L*e+(i*e+j)=o+((L+i)*e+j) by rw [Nat.add_mul]; omega]
    exact this
   ·have hi':L+i<xs.length:=by rw [hlen] at hi; omega
    have e1:((xs.take H).drop L)[i]=xs[L+i]:=by simp
    have:=hr (L+i) j hi' (by rw [e1] at hj; exact hj)
    have h9:∀ (l:List PV) (h:l=xs[L+i]) (hj':j<l.length),RepP w S (f (L+i) j) l[j]:=by intro l h hj'; subst h; exact this
    exact h9 _ e1 _
theorem y_slice (i:InvAt w0 B S ρ st a w){t:TypeId}{x:Operand}{lo hi mx:Option Operand}(ho:o.op = .slice t x lo hi mx) (hx:(ev st x).2)
  (hq:(evSlice P t (ev st x).1 (lo.map (ev st)) (hi.map (ev st)) (mx.map (ev st))).2):Yields P o a w S ρ st.h (.x (evSlice P t (ev st x).1 (lo.map (ev st)) (hi.map (ev st)) (mx.map (ev st))).1):=by
 have rx:=ev_rep i hx
 obtain⟨v,hv⟩:∃v,a.eval x=v:=⟨_,rfl⟩
 rw [hv] at rx
 generalize (ev st x).1=X at *
 unfold evSlice at hq ⊢
 split at hq
 ·rename_i s hk
  obtain⟨q1,q2,q3,q4,q5⟩:=hq
  have e1:=repL_val rx
  subst e1
  have hmx:mx=none:=by cases mx <;> simp_all
  subst hmx
  have hb:=run_sliceBounds (P:=P) (w:=w) (a:=a) false s.size s.size lo hi none _ _ s.size (bound_rep i q1) (bound_rep i q2) (.inl ⟨rfl,rfl⟩) q3 q4 (Nat.le_refl _) (by simp)
  refine zI9 (v:=.string (s.extract (boundOf (lo.map (ev st)) 0).1 (boundOf (hi.map (ev st)) s.size).1)) ?_ (zk1 _ rfl)
  simp only [Option.map_none] at hb
  simp [execOp,ho,hv,Instr.sliceAt,run_und (und_str hk),Instr.slice,hb]
 ·rename_i el c hk
  have main:∀ (e:Nat) (xs:List (List PV)),RepP w S v (.sl e xs)→(boundOf (lo.map (ev st)) 0).2→(boundOf (hi.map (ev st)) xs.length).2→(boundOf (lo.map (ev st)) 0).1≤(boundOf (hi.map (ev st)) xs.length).1 →
    (boundOf (hi.map (ev st)) xs.length).1≤xs.length →
    (∀m,mx=some m→(boundOf (some (ev st m)) 0).2∧(boundOf (some (ev st m)) 0).1=(boundOf (hi.map (ev st)) xs.length).1∧hi.isSome=true)→(∃j,P.info? el=some j∧j.size=e) →
    ∃ad cap',(execOp a.eval o).run P w = .ok (.value (.slice ad ((boundOf (hi.map (ev st)) xs.length).1 - (boundOf (lo.map (ev st)) 0).1) cap')) w ∧
     RepP w S (.slice ad ((boundOf (hi.map (ev st)) xs.length).1 - (boundOf (lo.map (ev st)) 0).1) cap') (.sl e ((xs.take (boundOf (hi.map (ev st)) xs.length).1).drop (boundOf (lo.map (ev st)) 0).1)) ∧
     (mx.isSome=true→cap'=(boundOf (hi.map (ev st)) xs.length).1 - (boundOf (lo.map (ev st)) 0).1):=by
   intro e xs rp q1 q2 q3 q4 q7 hinf
   obtain⟨j,hj,hje⟩:=hinf
   have b1:=bound_rep i q1
   have b2:=bound_rep i q2
   generalize (boundOf (lo.map (ev st)) 0).1=L at *
   generalize (boundOf (hi.map (ev st)) xs.length).1=H at *
   obtain⟨ad,n,cap,rfl,rfl,hcap,hpart⟩:=repP_part rp q3 q4
   cases hm:mx with
   | none=>
    subst hm
    have hb:=run_sliceBounds (P:=P) (w:=w) (a:=a) true xs.length cap lo hi none L H cap b1 b2 (.inl ⟨rfl,rfl⟩) q3 (by omega) (Nat.le_refl _) (by simp)
    simp only [Option.map_none] at hb
    refine⟨_,cap - L,?_,hpart cap _ (by omega) (Nat.le_refl _) rfl,by simp⟩
    simp [execOp,ho,hv,Instr.sliceAt,run_und (und_sl hk),Instr.slice,hb,run_sizeOf hj,hje]
   | some m=>
    subst hm
    obtain⟨m1,m2,m3⟩:=q7 m rfl
    have b3:=bound_rep i (x:=some m) (d:=0) m1
    have b3':(some m=none∧H=cap)∨∃y k n,some m=some y∧a.eval y = .int k n∧0≤n∧H=n.toNat:=by
     rcases b3 with⟨h,_⟩ | ⟨y,k,n,h1,h2,h3,h4⟩
     ·cases h
     ·exact .inr ⟨y,k,n,h1,h2,h3,by simp only [Option.map_some] at h4; omega⟩
    have hb:=run_sliceBounds (P:=P) (w:=w) (a:=a) true xs.length cap lo hi (some m) L H H b1 b2 b3' q3 (Nat.le_refl _) (by omega) (fun _=>m3)
    simp only [Option.map_some] at hb
    refine⟨_,H - L,?_,hpart H _ (Nat.le_refl _) (by omega) rfl,fun _=>rfl⟩
    simp [execOp,ho,hv,Instr.sliceAt,run_und (und_sl hk),Instr.slice,hb,run_sizeOf hj,hje]
  have info:∀e,e=(tyOf P el).size→(tyOf P el).size≠0→∃j,P.info? el=some j∧j.size=e:=fun e he hz=>by
   obtain⟨inf,d,hi,hd,e1,_⟩:=zM1 hz
   exact⟨inf,hi,by rw [he,e1]⟩
  cases c with
  | p X=>
   cases X with
   | sl e xs=>
    simp only at hq ⊢
    have rp:=repP_sl (.inl rx)
    cases hm:mx with
    | none=>
     simp only [hm,Option.map_none] at hq ⊢
     obtain⟨q1,q2,q3,q4,q5,q6⟩:=hq
     obtain⟨ad,cap',hr,hp,_⟩:=main e xs rp q1 q2 q3 q4 (fun m h=>by rw [hm] at h; cases h) (info e q5 q6)
     exact zI9 hr (.p hp)
    | some m=>
     simp only [hm,Option.map_some] at hq ⊢
     obtain⟨q1,q2,q3,q4,q5,q6,q7,q8,q9⟩:=hq
     obtain⟨ad,cap',hr,hp,hc⟩:=main e xs rp q1 q2 q3 q4 (fun m' h=>by rw [hm] at h; obtain rfl:=Option.some.inj h; exact⟨q7,q8,by simpa using q9⟩) (info e q5 q6)
     rw [hc (by simp [hm])] at hr hp
     exact zI9 hr (.fl hp)
   | nil=>
    simp only at hq ⊢
    have e1:v = .slice none 0 0:=by cases rx with | p r=>cases r; rfl
    subst e1
    obtain⟨q1,q2,q3,q4,q5,q6⟩:=hq
    obtain⟨j,hj,hje⟩:=info _ rfl q5
    refine zI9 (v:=.slice none 0 0) ?_ (.p .nil)
    have b1:=bound_rep i q1
    have b2:=bound_rep i q2
    rw [q3] at b1
    rw [q4] at b2
    cases hm:mx with
    | none=>
     have hb:=run_sliceBounds (P:=P) (w:=w) (a:=a) true 0 0 lo hi none 0 0 0 b1 b2 (.inl ⟨rfl,rfl⟩) (Nat.le_refl _) (Nat.le_refl _) (Nat.le_refl _) (by simp)
     simp only [Option.map_none] at hb
     simp [execOp,ho,hv,hm,Instr.sliceAt,run_und (und_sl hk),Instr.slice,hb,run_sizeOf hj]
    | some m=>
     simp only [hm,Option.map_some] at q6
     obtain⟨m1,m2,m3⟩:=q6
     have b3:=bound_rep i (x:=some m) (d:=0) m1
     simp only [Option.map_some] at b3
     rw [m2] at b3
     have hb:=run_sliceBounds (P:=P) (w:=w) (a:=a) true 0 0 lo hi (some m) 0 0 0 b1 b2 (by rcases b3 with h | h; exact .inl h; exact .inr h) (Nat.le_refl _) (Nat.le_refl _) (Nat.le_refl _) (fun _=>by simpa using m3)
     simp only [Option.map_some] at hb
     simp [execOp,ho,hv,hm,Instr.sliceAt,run_und (und_sl hk),Instr.slice,hb,run_sizeOf hj]
   | val u=>exact hq.elim
  | fl e xs=>
   simp only at hq ⊢
   have rp:=repP_sl (.inr rx)
   cases hm:mx with
   | none=>
    simp only [hm,Option.map_none] at hq ⊢
    obtain⟨q1,q2,q3,q4,q5,q6⟩:=hq
    obtain⟨ad,cap',hr,hp,_⟩:=main e xs rp q1 q2 q3 q4 (fun m h=>by rw [hm] at h; cases h) (info e q5 q6)
    exact zI9 hr (.p hp)
   | some m=>
    simp only [hm,Option.map_some] at hq ⊢
    obtain⟨q1,q2,q3,q4,q5,q6,q7,q8,q9⟩:=hq
    obtain⟨ad,cap',hr,hp,hc⟩:=main e xs rp q1 q2 q3 q4 (fun m' h=>by rw [hm] at h; obtain rfl:=Option.some.inj h; exact⟨q7,q8,by simpa using q9⟩) (info e q5 q6)
    rw [hc (by simp [hm])] at hr hp
    exact zI9 hr (.fl hp)
  | _=>exact hq.elim
 ·exact hq.elim
theorem capIds_rep (i:InvAt w0 B S ρ st a w):∀ (l:List Operand),(capIds (l.map (ev st))).2→l.length=(capIds (l.map (ev st))).1.length∧∀ (k id:Nat),(capIds (l.map (ev st))).1[k]?=some id→∃b o,ρ id=some (b,o)∧(l.map a.eval)[k]?=some (Value.pointer (some ⟨b,o,none⟩))
 | [],_=>⟨rfl,fun k id hk=>by simp [capIds] at hk⟩
 | x :: l,hq=>by
  simp only [List.map_cons] at hq ⊢
  generalize hx:ev st x=X at *
  obtain⟨X,q⟩:=X
  have bad:∀ {p:Prop},(capIds ((X,q) :: l.map (ev st))).2→(∀id,X ≠ .one (.ptr id 0))→p:=by
   intro p h hne
   generalize hy:(X,q)=Y at h
   generalize l.map (ev st)=l' at h
   unfold capIds at h
   split at h
   ·rename_i heq; cases heq
   ·rename_i id q' l' heq
    simp only [List.cons.injEq] at heq
    rw [← hy] at heq
    simp only [Prod.mk.injEq] at heq
    exact absurd heq.1.1 (hne id)
   ·exact h.elim
  by_cases hX:∃id,X = .one (.ptr id 0)
  ·obtain⟨id,rfl⟩:=hX
   simp only [capIds] at hq ⊢
   obtain⟨h1,h2⟩:=capIds_rep i l hq.2
   have rx:=ev_rep i (x:=x) (by rw [hx]; exact hq.1)
   rw [hx] at rx
   obtain⟨b,o',hp,hv⟩:=repC_ptr rx
   refine⟨by simp [h1],fun k id' hk=>?_⟩
   cases k with
   | zero=>simp at hk; subst hk; exact⟨b,o',hp,by simpa using hv⟩
   | succ k=>exact h2 k id' (by simpa using hk)
  ·exact bad hq fun id h=>hX ⟨id,h⟩
theorem y_makeFunc (i:InvAt w0 B S ρ st a w){f:FuncId}{first captured:Array Operand}(ho:o.op = .makeFunc (.func f) first captured) (hq:(capIds (captured.toList.map (ev st))).2) (hf:first.size=0) :
  Yields P o a w S ρ st.h (.x (.one (.fn f (capIds (captured.toList.map (ev st))).1))):=by
 obtain⟨h1,h2⟩:=capIds_rep i captured.toList hq
 have hf':first = #[]:=Array.eq_empty_of_size_eq_zero hf
 refine zI9 (v:=.func (.func f) #[] (captured.map a.eval)) (by simp [execOp,ho,Instr.makeFunc,hf']) ?_
 refine RepC.fn (by simpa using h1) fun k hk=>?_
 obtain⟨b,o',h3,h4⟩:=h2 k _ (List.getElem?_eq_getElem hk)
 exact⟨b,o',h3,by simpa using h4⟩
theorem slOf_rep (i:InvAt w0 B S ρ st a w){v:Value}{c:CV}{e:Nat}{xs:List (List PV)}(r:RepC w S ρ st.h v c) (hs:slOf st.h c=some (e,xs)) :
  (v = .slice none 0 0∧xs=[])∨∃b o' cap,v = .slice (some ⟨b,o',none⟩) xs.length cap∧(∀x∈xs,x.length=e)∧1≤e∧∀k j (hk:k<xs.length) (hj:j<xs[k].length),∃u,w.cell? ⟨b,o'+(k*e+j),none⟩=some u∧RepP w S u xs[k][j]:=by
 have pure:RepP w S v (.sl e xs)→(v = .slice none 0 0∧xs=[])∨∃b o' cap,v = .slice (some ⟨b,o',none⟩) xs.length cap∧(∀x∈xs,x.length=e)∧1≤e∧∀k j (hk:k<xs.length) (hj:j<xs[k].length),∃u,w.cell? ⟨b,o'+(k*e+j),none⟩=some u∧RepP w S u xs[k][j]:=by
  intro r
  cases r with
  | slnil=>exact .inl ⟨rfl,rfl⟩
  | sl b o n cap e f xs hn hcap he hm hl hc hr=>
   subst hn
   refine .inr ⟨b,o,cap,rfl,hl,he,fun k j hk hj=>?_⟩
   have hje:j<e:=by rw [hl _ (List.getElem_mem hk)] at hj; exact hj
   exact⟨f k j,(hc k j hk hje).2,hr k j hk hj⟩
 cases c with
 | p X=>cases X with
  | sl e' xs'=>
   simp only [slOf,Option.some.injEq,Prod.mk.injEq] at hs
   obtain⟨rfl,rfl⟩:=hs
   exact pure (repP_sl (h:=st.h) (ρ:=ρ) (.inl r))
  | _=>simp [slOf] at hs
 | fl e' xs'=>
  simp only [slOf,Option.some.injEq,Prod.mk.injEq] at hs
  obtain⟨rfl,rfl⟩:=hs
  exact pure (repP_sl (h:=st.h) (ρ:=ρ) (.inr r))
 | vw id=>
  simp only [slOf] at hs
  split at hs
  ·rename_i e' xs' hb
   simp only [Option.some.injEq,Prod.mk.injEq] at hs
   obtain⟨rfl,rfl⟩:=hs
   cases r with
   | vwnil hb'=>rw [hb] at hb'; simp at hb'; exact .inl ⟨rfl,hb'.2⟩
   | @vw _ e2 b o2 cap xs2 c el hb' hp hrow hcap hroom hmx=>
    rw [hb] at hb'
    obtain⟨rfl,rfl⟩:e'=e2∧xs'=xs2:=by simpa using hb'
    obtain⟨h1,h2,h3,h4⟩:=i.mem.blocks id _ hb
    rcases h4 with⟨h4,_⟩ | ⟨b',o',c',el',hp',hr,_,hc⟩
    ·rw [hp] at h4; cases h4
    ·rw [hp] at hp'
     obtain⟨rfl,rfl⟩:b=b'∧o2=o':=by simpa using hp'
     refine .inr ⟨b,o2,cap,rfl,h2,h1,fun k j hk hj=>?_⟩
     obtain⟨u,hu,hru⟩:=hc k j hk hj
     exact⟨u,by rw [cell_row hr]; exact hu,hru⟩
  ·cases hs
 | _=>simp [slOf] at hs
theorem push_all:∀ (ns:List Int) (acc:ByteArray),ns.foldl (fun r n=>r.push (UInt8.ofNat n.toNat)) acc=⟨acc.data++(ns.map fun n=>UInt8.ofNat n.toNat).toArray⟩
 | [],acc=>by simp
 | n :: ns,acc=>by
  rw [List.foldl_cons,push_all ns]
  congr 1
  apply Array.ext'
  simp [ByteArray.push]
theorem isByte_spec {x:List PV}(hx:isByte x):∃n,x=[.val (.int .u8 n)]∧byteOf1 x=UInt8.ofNat n.toNat:=by
 unfold isByte at hx
 split at hx
 ·rename_i n; exact⟨n,rfl,rfl⟩
 ·exact hx.elim
theorem y_conv (i:InvAt w0 B S ρ st a w){src dst:TypeId}{x:Operand}(ho:o.op = .convert src dst x) (hx:(ev st x).2) (hq:(evConv P st.h src dst (ev st x).1).2) :
  Yields P o a w S ρ st.h (.x (evConv P st.h src dst (ev st x).1).1):=by
 have rx:=ev_rep i hx
 obtain⟨v,hv⟩:∃v,a.eval x=v:=⟨_,rfl⟩
 rw [hv] at rx
 generalize (ev st x).1=X at *
 unfold evConv at hq ⊢
 split at hq
 ·rename_i k' k k2 n hk hk'
  have e1:=repL_val rx
  subst e1
  refine zI9 (v:=.int k (k.wrap n)) ?_ (zk1 _ rfl)
  simp [execOp,ho,hv,convert,run_und (und_int hk),run_und (und_int hk'),Conv.intToInt]
 ·rename_i s hk hk'
  have e1:=repL_val rx
  subst e1
  refine zI9 (v:=.string s) ?_ (zk1 _ rfl)
  simp [execOp,ho,hv,convert,run_und (und_str hk),run_und (und_str hk')]
 ·rename_i el c hk hk'
  split at hq
  ·rename_i e xs hk2 hs
   obtain⟨rfl,hb⟩:=hq
   refine zI9 (v:=.string ⟨(xs.map byteOf1).toArray⟩) ?_ (zk1 _ rfl)
   rcases slOf_rep i rx hs with⟨rfl,rfl⟩ | ⟨b,o',cap,rfl,hl,_,hc⟩
   ·simp [execOp,ho,hv,convert,run_und (und_sl hk),run_und (und_str hk'),run_und (und_int hk2),Conv.bytesToString]
    rfl
   ·have hv2:∃ns:List Int,ns.length=xs.length∧(∀k (hk:k<ns.length),w.cell? ⟨b,o'+k,none⟩=some (.int .u8 ns[k]))∧xs.map byteOf1=ns.map fun n=>UInt8.ofNat n.toNat:=by
     have:∀k,k<xs.length→∃n:Int,w.cell? ⟨b,o'+k,none⟩=some (.int .u8 n)∧byteOf1 (xs.getD k [])=UInt8.ofNat n.toNat:=fun k hk=>by
      obtain⟨n,h1,h2⟩:=isByte_spec (hb _ (List.getElem_mem hk))
      obtain⟨u,h3,h4⟩:=hc k 0 hk (by rw [h1]; simp)
      simp only [h1,List.getElem_cons_zero,Nat.mul_one,Nat.add_zero] at h3 h4
      cases h4
      exact⟨n,h3,by simpa [List.getD,hk] using h2⟩
     refine⟨(List.range xs.length).map fun k=>if hk:k<xs.length then (this k hk).choose else 0,by simp,fun k hk=>?_,?_⟩
     ·have hk':k<xs.length:=by simpa using hk
      simp only [List.getElem_map,List.getElem_range,hk',dif_pos]
      exact (this k hk').choose_spec.1
     ·refine List.ext_getElem (by simp) fun k h1 h2=>?_
      have hk':k<xs.length:=by simpa using h1
      simp only [List.getElem_map,List.getElem_range,hk',dif_pos]
      have:=(this k hk').choose_spec.2
      simpa [List.getD,hk'] using this
    obtain⟨ns,n1,n2,n3⟩:=hv2
    have hrun:=run_bytesToString (P:=P) w ⟨b,o',none⟩ xs.length cap ns (by
     have:=run_loadCells_list (P:=P) (w:=w) ⟨b,o',none⟩ (ns.map (Value.int .u8)) (fun j v hj=>by
      rw [add_mk]
      simp only [List.getElem?_map,Option.map_eq_some_iff] at hj
      obtain⟨n,hn,rfl⟩:=hj
      obtain⟨h1,h2⟩:=List.getElem?_eq_some_iff.1 hn
      subst h2; exact n2 j h1)
     simpa only [List.length_map,n1] using this)
    rw [push_all] at hrun
    rw [n3]
    simp [execOp,ho,hv,convert,run_und (und_sl hk),run_und (und_str hk'),run_und (und_int hk2),hrun]
  ·exact hq.elim
 ·exact hq.elim
theorem evVal_sound (E:Env P) (i:InvAt w0 B S ρ st a w) (hq:(evVal P E.Θ st o).2):Yields P o a w S ρ st.h (evVal P E.Θ st o).1:=by
 unfold evVal at hq ⊢
 cases ho:o.op with
 | move x=>simp only [ho] at hq ⊢; exact y_copy i (.inl ho) hq
 | assign x=>simp only [ho] at hq ⊢; exact y_copy i (.inr ho) hq
 | extract x k=>
  simp only [ho] at hq ⊢
  split at hq
  ·rename_i vs q hx
   exact y_extract i ho hx hq.1 hq.2
  ·exact hq.elim
 | pick c x y=>
  simp only [ho] at hq ⊢
  split at hq
  ·rename_i bc g hc
   split at hq
   ·rename_i bx gx bo go hx hy
    (try simp only [hx,hy])
    exact y_pick i ho hc hx hy hq
   ·exact hq.elim
  ·exact hq.elim
 | nilCheck x=>
  simp only [ho] at hq ⊢
  split at hq
  ·rename_i id off g hx; exact y_nilCheck i ho hx hq (.inl ⟨_,_,rfl⟩)
  ·rename_i id k j g hx; exact y_nilCheck i ho hx hq (.inr (.inl ⟨_,_,_,rfl⟩))
  ·rename_i cs g hx; exact y_nilCheck i ho hx hq (.inr (.inr (.inl ⟨_,rfl⟩)))
  ·rename_i f ids g hx; exact y_nilCheck i ho hx hq (.inr (.inr (.inr ⟨_,_,rfl⟩)))
  ·exact hq.elim
 | binOp op t x y t'=>simp only [ho] at hq ⊢; exact y_bin E i ho hq.1 hq.2.1 hq.2.2
 | unOp op t x=>simp only [ho] at hq ⊢; exact y_un i ho hq.1 hq.2
 | convert src dst x=>simp only [ho] at hq ⊢; exact y_conv i ho hq.1 hq.2
 | index t x y=>
  simp only [ho] at hq ⊢
  split at hq
  ·rename_i s g k n g' hk hx hy
   (try simp only [hk,hx,hy])
   exact y_index_str i ho hk hx hy hq
  ·rename_i len el cs g k n g' hk hx hy
   (try simp only [hk,hx,hy])
   obtain⟨q1,q2,q3,q4,q5,q6,q7⟩:=hq
   exact y_index_arr i ho hk hx hy q1 q2 q3 q4 q5 q6 q7
  ·exact hq.elim
 | indexAddr t x y=>
  simp only [ho] at hq ⊢
  split at hq
  ·rename_i el c g k n g' hk hx hy
   (try simp only [hk,hx,hy])
   have hx1:(ev st x).1 = .one c:=by rw [hx]
   have hx2:(ev st x).2=g:=by rw [hx]
   cases c with
   | p X=>cases X with
    | sl e xs=>obtain⟨q1,q2,q3,q4,q5⟩:=hq; exact y_indexAddr_sl i ho hk (hx2 ▸ q1) hy q2 (.inl hx1) q3 q4 q5
    | _=>exact hq.elim
   | fl e xs=>obtain⟨q1,q2,q3,q4,q5⟩:=hq; exact y_indexAddr_sl i ho hk (hx2 ▸ q1) hy q2 (.inr hx1) q3 q4 q5
   | vw id=>
    simp only at hq ⊢
    split at hq
    ·rename_i e xs hb
     obtain⟨q1,q2,q3,q4,q5⟩:=hq
     exact y_indexAddr_vw i ho hk (hx2 ▸ q1) hy q2 hx1 hb q3 q4 q5
    ·exact hq.elim
   | _=>exact hq.elim
  ·rename_i len el id off g k n g' hk hx hy
   (try simp only [hk,hx,hy])
   obtain⟨q1,q2,q3,q4,q5⟩:=hq
   exact y_indexAddr_arr i ho hk (by rw [hx]; exact q1) hy q2 (by rw [hx]) q3 q4 q5
  ·exact hq.elim
 | fieldAddr t x f=>
  simp only [ho] at hq ⊢
  split at hq
  ·rename_i fs id off g hk hx
   (try simp only [hk,hx])
   exact y_fieldAddr i ho hk (by rw [hx]; exact hq.1) hq.2.1 hq.2.2 (by rw [hx]) (.inl ⟨_,_,rfl,rfl⟩)
  ·rename_i fs id k j g hk hx
   (try simp only [hk,hx])
   exact y_fieldAddr i ho hk (by rw [hx]; exact hq.1) hq.2.1 hq.2.2 (by rw [hx]) (.inr (.inl ⟨_,_,_,rfl,rfl⟩))
  ·rename_i fs cs g hk hx
   (try simp only [hk,hx])
   exact y_fieldAddr i ho hk (by rw [hx]; exact hq.1) hq.2.1 hq.2.2 (by rw [hx]) (.inr (.inr ⟨_,rfl,rfl⟩))
  ·exact hq.elim
 | field t x f=>
  simp only [ho] at hq ⊢
  split at hq
  ·rename_i fs cs g hk hx
   (try simp only [hk,hx])
   obtain⟨q1,q2,q3,q4,q5⟩:=hq
   exact y_field i ho hk hx q1 q2 q3 q4 q5
  ·exact hq.elim
 | load t x=>simp only [ho] at hq ⊢; exact y_load i ho hq.1 hq.2.1 hq.2.2.1 hq.2.2.2
 | build t parts=>
  simp only [ho] at hq ⊢
  split at hq
  ·rename_i fs hk
   (try simp only [hk])
   exact y_build_st i ho hk hq.1 hq.2.1 hq.2.2.1 hq.2.2.2
  ·rename_i n el hk
   (try simp only [hk])
   exact y_build_arr i ho hk hq.1 hq.2.1 hq.2.2
  ·exact hq.elim
 | buildSlice t len parts=>
  simp only [ho] at hq ⊢
  split at hq
  ·rename_i el hk
   (try simp only [hk])
   exact y_buildSlice i ho hk hq.1 hq.2.1 hq.2.2
  ·exact hq.elim
 | slice t x lo hi mx=>simp only [ho] at hq ⊢; exact y_slice i ho hq.1 hq.2
 | makeFunc fn first captured=>
  simp only [ho] at hq ⊢
  split at hq
  ·exact y_makeFunc i ho hq.1 hq.2
  ·exact hq.elim
 | call c=>
  simp only [ho] at hq ⊢
  split at hq
  ·rename_i hc
   split at hq
   ·rename_i x t hxl htl
    split at hq
    ·rename_i s g hk hx; (try simp only [hxl,htl,hk,hx]); exact y_len_str i ho hc hxl htl hk hx hq
    ·rename_i el g hk hx; (try simp only [hxl,htl,hk,hx]); exact y_len_sl i ho hc hxl htl hk hx hq (.inl ⟨rfl,rfl⟩)
    ·rename_i el e xs g hk hx; (try simp only [hxl,htl,hk,hx]); exact y_len_sl i ho hc hxl htl hk hx hq (.inr (.inl ⟨_,_,.inl rfl,rfl⟩))
    ·rename_i el e xs g hk hx; (try simp only [hxl,htl,hk,hx]); exact y_len_sl i ho hc hxl htl hk hx hq (.inr (.inl ⟨_,_,.inr rfl,rfl⟩))
    ·rename_i el id g hk hx
     (try simp only [hxl,htl,hk,hx])
     split at hq
     ·rename_i e xs hb; exact y_len_sl i ho hc hxl htl hk hx hq (.inr (.inr ⟨_,_,_,rfl,hb,rfl⟩))
     ·exact hq.elim
    ·rename_i n el X g hk hx; (try simp only [hxl,htl,hk]); exact y_len_arr ho hc hxl htl hk
    ·exact hq.elim
   ·exact hq.elim
  ·rename_i hc; exact y_max (mx:=true) i ho hc hq
  ·rename_i hc; exact y_max (mx:=false) i ho hc hq
  ·exact hq.elim
 | _=>simp only [ho] at hq
end
end Go.LS
