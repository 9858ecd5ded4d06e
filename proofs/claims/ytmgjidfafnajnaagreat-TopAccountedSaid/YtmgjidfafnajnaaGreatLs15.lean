/-
  The framework LS, part 15: one operation, a region, and the rules for control.
  No condition: lemmas.
-/
import Derived.Test.YtmgjidfafnajnaaGreatLs14
namespace Go.LS
set_option linter.all false
set_option linter.unusedSimpArgs false
set_option linter.unusedVariables false
section
variable {P:Program} {o:Oper} {a:Act} {w w' w0:World} {B:List Nat} {S S' S0:Seen} {ρ ρ':Place} {R0:Home} {st:LState} {h h':Heap}
theorem Inv.ofQ (i:InvAt w0 B S ρ st a w) (hS:∀b o,S0 b o→S b o) (hS':∀b o,S b o→S0 b o∨w0.heap.size≤b) (hR:Vars w0 R0 ρ st.h)
  {d:Option Nat} (hd:dstOk st d) {v:Value} {sv:SV} (g:Grow w w' S S') (r:RepS w' S' ρ st.h v sv):Inv w0 B S0 R0 (putV st d sv) (a.put d v) w':=by
 refine⟨S',ρ,i.putQ g hd r,fun b o h=>g.sub b o (hS b o h),fun b o h=>?_,fun id p hp=>?_,hR.2⟩
 ·rcases g.new b o h with h | ⟨h,_⟩
  ·exact hS' b o h
  ·exact .inr (Nat.le_trans i.mem.size h)
 ·obtain⟨h1,h2,h3⟩:=hR.1 id p hp
  refine⟨h1,h2,?_⟩
  cases d <;> exact h3
def OpOK (P:Program) (ops:Array Oper) (o:Oper) (a:Act) (w:World) (K:Act→World→Prop):Prop:=
 ∀Q:Exit→Act→World→Prop,if Region.wanted o (yielded ops a.tmps) then o.wp P a w K Q else K (a.put o.dst undef) w
theorem guard_rep {ops:Array Oper}(i:InvAt w0 B S ρ st a w){g:Bool}{q:Prop}(hg:guardOf ops st o=some (g,q)) (hq:q):Region.wanted o (yielded ops a.tmps)=g:=by
 unfold guardOf at hg
 unfold Region.wanted
 split at hg
 ·cases hg
 ·rename_i j want hgu
  simp only [hgu]
  split at hg
  ·rename_i t ht
   have hs:=i.slots t
   have hy:∀ (htn:t<st.n),yielded ops a.tmps j=match a.tmps.getD t undef with | .bool b=>some b | _=>none:=by
    intro htn
    have:t<a.tmps.size:=by rw [i.tmps]; exact htn
    rw [show a.tmps.getD t undef=a.tmps[t] by simp [Array.getD,this]]
    simp only [yielded,ht,Option.bind_some,Array.getElem?_eq_getElem this]
    cases a.tmps[t] <;> rfl
   split at hg
   ·rename_i b hst
    simp only [Option.some.injEq,Prod.mk.injEq] at hg
    obtain⟨rfl,rfl⟩:=hg
    rw [hst] at hs
    have hv:=repL_val hs
    rw [hy hq,hv]
    cases b <;> cases want <;> rfl
   ·rename_i g' b hst
    simp only [Option.some.injEq,Prod.mk.injEq] at hg
    obtain⟨rfl,rfl⟩:=hg
    rw [hst] at hs
    rw [hy hq]
    cases g' with
    | true=>
     have hv:=repL_val (hs.1 rfl)
     rw [hv]
     cases b <;> cases want <;> rfl
    | false=>
     rw [hs.2 rfl]
     cases want <;> rfl
   ·rename_i l hne hst
    simp only [Option.some.injEq,Prod.mk.injEq] at hg
    obtain⟨rfl,rfl⟩:=hg
    rw [hst] at hs
    rw [hy hq,hs.2 rfl]
    cases want <;> rfl
   ·simp only [Option.some.injEq,Prod.mk.injEq] at hg
    obtain⟨_,rfl⟩:=hg
    exact hq.elim
  ·simp only [Option.some.injEq,Prod.mk.injEq] at hg
   obtain⟨_,rfl⟩:=hg
   exact hq.elim
theorem guard_none {ops:Array Oper}(hg:guardOf ops st o=none) (tm:Array Value):Region.wanted o (yielded ops tm)=true:=by
 unfold guardOf at hg
 unfold Region.wanted
 split at hg
 ·rename_i h; rw [h]
 ·repeat' split at hg
  all_goals cases hg
theorem stepQ_sound (E:Env P){ops:Array Oper}(inv:Inv w0 B S0 R0 st a w) (hq:(stepQ P E ops st o).2):OpOK P ops o a w (fun a' w'=>Inv w0 B S0 R0 (stepQ P E ops st o).1 a' w'):=by
 intro Q
 obtain⟨S,ρ,i,hS,hS',hR⟩:=inv
 unfold stepQ at hq ⊢
 split at hq
 ·rename_i hg
  simp only [hg]
  rw [if_pos (guard_none hg _)]
  exact evQ_sound E i hq.2 _ _ fun v w' S' hgr hr=>Inv.ofQ i hS hS' hR hq.1 hgr hr
 ·rename_i g q hg
  simp only [hg]
  obtain⟨q1,q2,q3,q4⟩:=hq
  rw [guard_rep i hg q2]
  cases hx:(evQ P E st o).1 with
  | x l=>
   cases g with
   | true=>
    rw [if_pos rfl]
    refine evQ_sound E i (q4 rfl) _ _ fun v w' S' hgr hr=>Inv.ofQ i hS hS' hR q1 hgr ?_
    rw [hx] at hr
    exact⟨fun _=>hr,(fun h=>by cases h)⟩
   | false=>
    rw [if_neg (by simp)]
    exact Inv.ofQ i hS hS' hR q1 (Grow.refl w S) ⟨(fun h=>by cases h),fun _=>rfl⟩
  | _=>rw [hx] at q3; exact q3.elim
theorem evLoud_sound (E:Env P) (inv:Inv w0 B S0 R0 st a w) (hq:(evLoud P E st o).2) (Q:Exit→Act→World→Prop):o.wp P a w (fun a' w'=>Inv w0 B S0 R0 (evLoud P E st o).1 a' w') Q:=by
 unfold evLoud at hq ⊢
 cases ho:o.op with
 | assign x=>
  simp only [ho] at hq ⊢
  split at hq
  ·rename_i d el hd hk
   (try simp only [hd,hk])
   by_cases hx:isNilConst x=true
   ·simp only [hx,if_true] at hq ⊢
    exact l_assignNil E inv ho hx hd hq.1 hq.2
   ·simp only [hx] at hq; exact hq.elim
  ·exact hq.elim
 | alloc t=>
  simp only [ho] at hq ⊢
  split at hq
  ·rename_i d hd; exact l_alloc inv ho hd hq.1 hq.2
  ·exact hq.elim
 | box t x=>
  simp only [ho] at hq ⊢
  split at hq
  ·rename_i d hd; exact l_box inv ho hq.1 hd hq.2
  ·exact hq.elim
 | store t x y=>
  simp only [ho] at hq ⊢
  split at hq
  ·rename_i id off hX
   split at hq
   ·rename_i cs hb
    obtain⟨q1,q2,q3,q4,q5,q6⟩:=hq
    exact l_store_var inv ho q6 q1 q2 hX hb q3 q4 q5
   ·exact hq.elim
  ·rename_i id k j hX
   split at hq
   ·rename_i e xs hb
    obtain⟨q1,q2,q3,q4,q5,q6,q7,q8⟩:=hq
    exact l_store_arr inv ho q8 q1 q2 hX hb q3 q4 q5 q6 q7
   ·exact hq.elim
  ·exact hq.elim
 | buildSlice t len parts=>
  simp only [ho] at hq ⊢
  split at hq
  ·rename_i d el hd hk
   (try simp only [hd,hk])
   obtain⟨q1,q2,q3,q4⟩:=hq
   exact l_build inv ho hk hd q4 q1 q2 q3
  ·exact hq.elim
 | makeSlice t l c=>
  simp only [ho] at hq ⊢
  split at hq
  ·rename_i d el kl n kc m hd hk hL hC
   (try simp only [hd,hk,hL,hC])
   obtain⟨q1,q2,q3,q4,q5,q6,q7,q8⟩:=hq
   exact l_make inv ho hk hd q8 hL hC q1 q2 q3 q4 q5 q6 q7
  ·exact hq.elim
 | call c=>
  simp only [ho] at hq ⊢
  split at hq
  ·rename_i hc
   split at hq
   ·rename_i d s x t t' hd hxs hts
    split at hq
    ·rename_i el el' hk hk'
     (try simp only [hd,hxs,hts,hk,hk'])
     split at hq
     ·rename_i hs
      obtain⟨⟨q1,q2,q3,q4,q5,q6,rfl⟩,q8,q9⟩:=hq
      have:=l_append_bind (xs:=[]) inv ho hc hxs hts hk hd q6 q1 q2 q3 q4 q5 (id:=d+100) (by omega) (.inl ⟨hs,rfl⟩) (by simpa using q8) (by simpa using q9) (Q:=Q)
      simpa using this
     ·rename_i id hs
      split at hq
      ·rename_i e xs hb
       obtain⟨⟨q1,q2,q3,q4,q5,q6,rfl⟩,q7,q8,q9,q10⟩:=hq
       subst q7
       exact l_append_bind inv ho hc hxs hts hk hd q6 q1 q2 q3 q4 q5 q10 (.inr ⟨hs,hb⟩) q8 q9
      ·exact hq.elim
     ·rename_i e xs hs
      split at hq
      ·rename_i e2 y0 ys0 hx0
       obtain⟨⟨q1,q2,q3,q4,q5,q6,rfl⟩,q7,q8,q9⟩:=hq
       subst q7
       have:=l_append_flv inv ho hc hxs hts hk hd q6 q1 q2 q3 q4 q5 hs q8 q9 (by rw [hx0]; exact List.cons_ne_nil _ _) (Q:=Q)
       simpa only [hx0] using this
      ·rename_i hx0
       obtain⟨⟨q1,q2,q3,q4,q5,q6,rfl⟩,q7,q8,q9,q10⟩:=hq
       subst q7
       exact l_append_fl inv ho hc hxs hts hk hd q6 q1 q2 q3 q4 q5 hs q8 q9
     ·exact hq.elim
    ·exact hq.elim
   ·exact hq.elim
  ·rename_i f hc
   obtain⟨S,ρ,i,hS,hS',hR⟩:=inv
   refine wp_callF (run_static ho hc) (by
    have:=callB_core E i hR (cvs:=[]) (caps:=[]) (d:=o.dst) (f:=f) (xs:=c.args.toList) (ts:=c.argTypes.toList) ⟨rfl,fun i hi=>absurd hi (by simp)⟩ hq
    rw [List.append_nil] at this
    exact this) ?_
   rintro e w' ⟨v,S',ρf,rfl,i',h1,h2,h3⟩
   refine⟨v,rfl,S',ρf,i',fun b o h=>h1 b o (hS b o h),fun b o h=>?_,h3⟩
   rcases h2 b o h with h | h
   ·exact hS' b o h
   ·exact .inr (Nat.le_trans i.mem.size h)
  ·rename_i t hc
   obtain⟨S,ρ,i,hS,hS',hR⟩:=inv
   split at hq
   ·rename_i f ids hX
    obtain⟨hq1,hq⟩:=hq
    have rt:=ev_rep i hq1
    rw [hX] at rt
    obtain⟨vs,hv,hn,hids⟩:=repC_fn rt
    have hcr:RepLs w S ρ st.h vs.toList (ids.map fun i=>.one (.ptr i 0)):=by
     refine⟨by simpa using hn,fun k hk1 hk2=>?_⟩
     have hk3:k<ids.length:=by simpa using hk2
     obtain⟨b,o',hp,hvk⟩:=hids k hk3
     simp only [List.getElem_map]
     have:vs.toList[k] = .pointer (some ⟨b,o',none⟩):=by
      have h1:k<vs.size:=by simpa using hk1
      rw [Array.getElem?_eq_getElem h1] at hvk
      simpa using hvk
     rw [this]
     exact RepC.ptr (off:=0) hp
    refine wp_callF (by rw [run_closure ho hc hv]) (by
     have:=callB_core E i hR (cvs:=vs.toList) (d:=o.dst) (f:=f) (xs:=c.args.toList) (ts:=c.argTypes.toList) hcr hq
     have e1:(c.args.toList.map a.eval++vs.toList).toArray=(c.args.toList.map a.eval).toArray++vs:=by apply Array.ext'; simp
     rw [e1] at this
     exact this) ?_
    rintro e w' ⟨v,S',ρf,rfl,i',h1,h2,h3⟩
    refine⟨v,rfl,S',ρf,i',fun b o h=>h1 b o (hS b o h),fun b o h=>?_,h3⟩
    rcases h2 b o h with h | h
    ·exact hS' b o h
    ·exact .inr (Nat.le_trans i.mem.size h)
   ·exact hq.elim
  ·exact hq.elim
 | _=>simp only [ho] at hq
theorem step1_sound (E:Env P){ops:Array Oper}(inv:Inv w0 B S0 R0 st a w) (hq:(step1 P E ops st o).2):OpOK P ops o a w (fun a' w'=>Inv w0 B S0 R0 (step1 P E ops st o).1 a' w'):=by
 unfold step1 at hq ⊢
 by_cases hl:isLoud P E st o=true
 ·simp only [hl,if_true] at hq ⊢
  intro Q
  unfold stepL at hq ⊢
  split at hq
  ·rename_i hg
   simp only [hg]
   rw [if_pos (guard_none hg _)]
   exact evLoud_sound E inv hq Q
  ·rename_i q hg
   simp only [hg]
   obtain⟨S,ρ,i,rest⟩:=inv
   rw [guard_rep i hg hq.1,if_pos rfl]
   exact evLoud_sound E ⟨S,ρ,i,rest⟩ hq.2 Q
  ·rename_i q hg
   simp only [hg]
   obtain⟨S,ρ,i,hS,hS',hR⟩:=inv
   rw [guard_rep i hg hq.1,if_neg (by simp)]
   exact Inv.ofQ i hS hS' hR hq.2 (Grow.refl w S) ⟨(fun h=>by cases h),fun _=>rfl⟩
 ·simp only [hl] at hq ⊢
  exact stepQ_sound E inv hq
theorem evOps_vc (P:Program) (E:Env P) (ops:Array Oper):∀ (l:List Oper) (st:LState) (q:Prop),(evOps P E ops l st q).2→q
 | [],_,_,h=>h
 | _ :: l,_,_,h=>(evOps_vc P E ops l _ _ h).1
theorem evOps_sound (E:Env P){ops:Array Oper}{Q:Exit→Act→World→Prop}:∀ (l:List Oper) (st:LState) (q:Prop) (a:Act) (w:World),Inv w0 B S0 R0 st a w→(evOps P E ops l st q).2 →
  (∀a' w',Inv w0 B S0 R0 (evOps P E ops l st q).1 a' w'→Q .normal a' w')→wpList P ops Q l a w
 | [],st,q,a,w,inv,_,hQ=>hQ a w inv
 | o :: l,st,q,a,w,inv,hq,hQ=>by
  simp only [evOps] at hq hQ
  have h1:=step1_sound E (ops:=ops) inv (evOps_vc P E ops l _ _ hq).2
  refine wpList_step fun K hK=>?_
  have h2:=h1 Q
  by_cases hw:Region.wanted o (yielded ops a.tmps)=true
  ·rw [if_pos hw] at h2 ⊢
   exact Oper.wp_mono (fun a' w' hi=>hK a' w' (evOps_sound E l _ _ a' w' hi hq hQ)) h2
  ·rw [if_neg hw] at h2 ⊢
   exact hK _ _ (evOps_sound E l _ _ _ _ h2 hq hQ)
end
end Go.LS
