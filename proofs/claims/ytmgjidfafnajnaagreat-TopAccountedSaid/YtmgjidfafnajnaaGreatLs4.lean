/-
  The framework LS, part 4: the quiet operations do what the evaluator says.
  No condition: lemmas.
-/
import Derived.Test.YtmgjidfafnajnaaGreatLs3
import Derived.Laws.Strings
import Derived.Laws.Unary
import Derived.WalkKit
namespace Go.LS
set_option linter.all false
set_option linter.unusedSimpArgs false
set_option linter.unusedVariables false
def Yields (P:Program) (o:Oper) (a:Act) (w:World) (S:Seen) (ρ:Place) (h:Heap) (sv:SV):Prop:=
 ∀ (K:Act→World→Prop) (Q:Exit→Act→World→Prop),(∀v w' S',Grow w w' S S'→RepS w' S' ρ h v sv→K (a.put o.dst v) w')→o.wp P a w K Q
section
variable {P:Program} {o:Oper} {a:Act} {w:World} {S:Seen} {ρ:Place} {h:Heap}
theorem zI9 {v:Value}{sv:SV}(hrun:(execOp a.eval o).run P w = .ok (.value v) w) (r:RepS w S ρ h v sv):Yields P o a w S ρ h sv:=by
 intro K Q hK
 unfold Oper.wp
 rw [hrun]
 exact hK v w S (Grow.refl w S) r
theorem repL_val {v u:Value}(r:RepL w S ρ h v (.one (.p (.val u)))):v=u:=by
 cases r with
 | p r=>cases r; rfl
theorem zk1 (v:Value) (hv:plain v=true):RepL w S ρ h v (.one (.p (.val v))):=.p (.val v hv)
theorem repP_toP (v:Value) (hv:plain v=true):RepP w S v (toP v):=by
 unfold toP
 split
 ·exact .nil
 ·exact .val v hv
theorem repL_const (v:Value) (hv:constOk v=true):RepL w S ρ h v (constV v):=by
 unfold constV
 split
 ·rename_i cs
  refine⟨cs,rfl,by simp,fun i hv' hc=>?_⟩
  simp only [List.getElem_map]
  simp only [constOk,List.all_eq_true] at hv
  exact .p (repP_toP _ (hv _ (List.getElem_mem _)))
 ·rename_i hn
  refine .p (repP_toP v ?_)
  unfold constOk at hv
  split at hv
  ·rename_i cs; exact absurd rfl (hn cs)
  ·exact hv
end
section
variable {P:Program} {o:Oper} {a:Act} {w w0:World} {B:List Nat} {S:Seen} {ρ:Place} {st:LState}
theorem ev_rep (i:InvAt w0 B S ρ st a w){x:Operand}(hq:(ev st x).2):RepL w S ρ st.h (a.eval x) (ev st x).1:=by
 cases x with
 | tmp t=>
  have r:=i.slots t
  simp only [ev] at hq ⊢
  show RepL w S ρ st.h (a.tmps.getD t undef) _
  cases hs:st.s t with
  | x v=>simp only [hs] at r ⊢; exact r
  | wh g v=>simp only [hs] at r hq ⊢; exact r.1 hq
  | dead=>simp only [hs] at hq
  | tup vs=>simp only [hs] at hq
 | const v=>exact repL_const v hq
 | global g=>exact hq.elim
 | func f=>exact RepC.fn (by simp) (fun i hi=>absurd hi (by simp))
theorem evS_rep (i:InvAt w0 B S ρ st a w){x:Operand}(hq:(evS st x).2):RepS w S ρ st.h (a.eval x) (evS st x).1:=by
 cases x with
 | tmp t=>
  have r:=i.slots t
  simp only [evS] at hq ⊢
  show RepS w S ρ st.h (a.tmps.getD t undef) _
  cases hs:st.s t with
  | x v=>simp only [hs] at r ⊢; exact r
  | wh g v=>simp only [hs] at r hq ⊢; exact r.1 hq
  | dead=>trivial
  | tup vs=>simp only [hs] at r ⊢; exact r
 | const v=>exact repL_const v hq
 | global g=>exact hq.elim
 | func f=>exact ev_rep i (x:=.func f) hq
theorem y_copy (i:InvAt w0 B S ρ st a w){x:Operand}(ho:o.op = .move x∨o.op = .assign x) (hq:(evS st x).2):Yields P o a w S ρ st.h (evS st x).1:=
 zI9 (v:=a.eval x) (by rcases ho with ho | ho <;> simp [execOp,ho]) (evS_rep i hq)
theorem y_extract (i:InvAt w0 B S ρ st a w){x:Operand}{k:Nat}(ho:o.op = .extract x k){vs:List LV}{q:Prop}(hx:evS st x=(.tup vs,q)) (hq:q) (hk:k<vs.length) :
  Yields P o a w S ρ st.h (.x (vs.getD k .bad)):=by
 have r:=evS_rep i (x:=x) (by rw [hx]; exact hq)
 rw [hx] at r
 obtain⟨us,hu,hl,hr⟩:=r
 have hk':k<us.toList.length:=by omega
 have hk2:k<us.size:=by simpa using hk'
 refine zI9 (v:=us[k]) (by simp [execOp,ho,hu,Instr.extract,hk2]) ?_
 have:=hr k hk' hk
 simp only [Array.getElem_toList] at this
 show RepL w S ρ st.h us[k] (vs.getD k .bad)
 simpa [List.getD,hk] using this
theorem y_pick (i:InvAt w0 B S ρ st a w){c x y:Operand}(ho:o.op = .pick c x y){bc bx bo:Bool}{g gx go:Prop}(hc:ev st c=(.one (.p (.val (.bool bc))),g))
  (hx:ev st x=(.one (.p (.val (.bool bx))),gx)) (hy:ev st y=(.one (.p (.val (.bool bo))),go)) (q:g∧(bc=true→gx)∧(bc=false→go)) :
  Yields P o a w S ρ st.h (.x (.bool (if bc then bx else bo))):=by
 obtain⟨q1,q2,q3⟩:=q
 have r:=repL_val (by have:=ev_rep i (x:=c) (by rw [hc]; exact q1); rw [hc] at this; exact this)
 refine zI9 (v:=.bool (if bc then bx else bo)) ?_ (zk1 _ rfl)
 cases bc with
 | true=>
  have rx:=repL_val (by have:=ev_rep i (x:=x) (by rw [hx]; exact q2 rfl); rw [hx] at this; exact this)
  simp [execOp,ho,r,rx,asBool]
 | false=>
  have ry:=repL_val (by have:=ev_rep i (x:=y) (by rw [hy]; exact q3 rfl); rw [hy] at this; exact this)
  simp [execOp,ho,r,ry,asBool]
theorem run_intBin (op:BinOp) (k:IntKind) (t:TypeId) (x y:Operand) (n m:Int) (hs:isShift op=false) (hq:(evInt op k n m).2) :
  ∃v,(do eqGuard op t x y (.int k n) (.int k m); binOp op t (.int k n) (.int k m):Sem Value).run P w = .ok v w∧(evInt op k n m).1 = .one (.p (.val v))∧plain v=true:=by
 have hg:(eqGuard op t x y (.int k n) (.int k m)).run P w = .ok () w:=by
  unfold eqGuard; cases op <;> rfl
 cases op <;> simp only [isShift,Bool.true_eq_false] at hs <;>
  simp [hg,evInt,bAnd,bOr,bXor,bAndNot,binOp,Op.intArith,Op.intDiv,Op.intBits,Op.intCmp,Result.andThen] at hq ⊢ <;> simp_all [Sem.run,plain]
theorem run_shift (op:BinOp) (k k':IntKind) (t:TypeId) (x y:Operand) (n m:Int) (hs:isShift op=true) (hq:(evShift op k n m).2) :
  ∃v,(do eqGuard op t x y (.int k n) (.int k' m); binOp op t (.int k n) (.int k' m):Sem Value).run P w = .ok v w∧(evShift op k n m).1 = .one (.p (.val v))∧plain v=true:=by
 have hg:(eqGuard op t x y (.int k n) (.int k' m)).run P w = .ok () w:=by
  unfold eqGuard; cases op <;> rfl
 cases op <;> simp only [isShift,Bool.false_eq_true] at hs <;>
  (simp only [evShift] at hq; have:¬ m<0:=by omega
   simp [hg,evShift,bShl,bShr,binOp,Op.shift,this,Sem.run,plain])
theorem vals_rep {h:Heap}:∀ {cs:List CV}{vs:List Value},(vals cs).2→RepCs w S ρ h vs cs→vs=(vals cs).1
 | [],vs,_,r=>by have:=r.1; simp at this; simp [vals,this]
 | .p (.val u) :: cs,[],_,r=>by have:=r.1; simp at this
 | .p (.val u) :: cs,v :: vs,q,r=>by
  have h0:=repL_val (r.2 0 (by simp) (by simp))
  simp only [List.getElem_cons_zero] at h0
  have:=vals_rep (cs:=cs) (vs:=vs) q ⟨by have:=r.1; simpa using this,fun i hv hc=>by have:=r.2 (i+1) (by simp; omega) (by simp; omega); simpa using this⟩
  simp [vals,h0,← this]
 | .p .nil :: _,_,q,_=>q.elim
 | .p (.sl _ _) :: _,_,q,_=>q.elim
 | .fl _ _ :: _,_,q,_=>q.elim
 | .vw _ :: _,_,q,_=>q.elim
 | .ptr _ _ :: _,_,q,_=>q.elim
 | .ap _ _ _ :: _,_,q,_=>q.elim
 | .ep _ :: _,_,q,_=>q.elim
 | .fn _ _ :: _,_,q,_=>q.elim
 | .dead :: _,_,q,_=>q.elim
theorem tyOf_k {P:Program}{t:TypeId}{k:TK}(hk:(tyOf P t).k=k) (hne:k ≠ .other):∃i d,P.info? t=some i∧P.underlying t=some d∧kindOf d=k∧(tyOf P t).size=i.size∧(tyOf P t).bytes=i.bytes∧(tyOf P t).agg=isAggT d:=by
 cases hi:P.info? t with
 | none=>simp [tyOf,hi] at hk; exact absurd hk.symm hne
 | some i=>
  cases hd:P.underlying t with
  | none=>simp [tyOf,hi,hd] at hk; exact absurd hk.symm hne
  | some d=>exact⟨i,d,rfl,rfl,by simpa [tyOf,hi,hd] using hk,by simp [tyOf,hi,hd],by simp [tyOf,hi,hd],by simp [tyOf,hi,hd]⟩
theorem und_bool {P:Program}{t:TypeId}(hk:(tyOf P t).k = .bool):P.underlying t=some .bool:=by
 obtain⟨i,d,_,h2,h3,_⟩:=tyOf_k hk (by simp)
 cases d <;> simp [kindOf] at h3
 exact h2
theorem und_str {P:Program}{t:TypeId}(hk:(tyOf P t).k = .str):P.underlying t=some .string:=by
 obtain⟨i,d,_,h2,h3,_⟩:=tyOf_k hk (by simp)
 cases d <;> simp [kindOf] at h3
 exact h2
theorem und_int {P:Program}{t:TypeId}{k:IntKind}(hk:(tyOf P t).k = .int k):P.underlying t=some (.int k):=by
 obtain⟨i,d,_,h2,h3,_⟩:=tyOf_k hk (by simp)
 cases d <;> simp [kindOf] at h3
 subst h3; exact h2
theorem und_sl {P:Program}{t el:TypeId}(hk:(tyOf P t).k = .sl el):P.underlying t=some (.slice el):=by
 obtain⟨i,d,_,h2,h3,_⟩:=tyOf_k hk (by simp)
 cases d <;> simp [kindOf] at h3
 subst h3; exact h2
theorem und_arr {P:Program}{t el:TypeId}{n:Nat}(hk:(tyOf P t).k = .arr n el):P.underlying t=some (.array n el):=by
 obtain⟨i,d,_,h2,h3,_⟩:=tyOf_k hk (by simp)
 cases d <;> simp [kindOf] at h3
 obtain⟨rfl,rfl⟩:=h3; exact h2
theorem und_st {P:Program}{t:TypeId}{fs:List (Nat×TypeId)}(hk:(tyOf P t).k = .st fs):∃F,P.underlying t=some (.struct F)∧fs=F.toList.map fun f=>(f.offset,f.type):=by
 obtain⟨i,d,_,h2,h3,_⟩:=tyOf_k hk (by simp)
 cases d <;> simp [kindOf] at h3
 exact⟨_,h2,h3.symm⟩
theorem run_und {P:Program}{t:TypeId}{d:TypeDesc}(h:P.underlying t=some d) (w:World):(underlying t).run P w = .ok d w:=by
 simp [underlying,program,Sem.run,h]
theorem zM1 {P:Program}{t:TypeId}(h:(tyOf P t).size≠0):∃i d,P.info? t=some i∧P.underlying t=some d∧(tyOf P t).size=i.size∧(tyOf P t).bytes=i.bytes∧(tyOf P t).agg=isAggT d:=by
 cases hi:P.info? t with
 | none=>simp [tyOf,hi] at h
 | some i=>
  cases hd:P.underlying t with
  | none=>simp [tyOf,hi,hd] at h
  | some d=>exact⟨i,d,rfl,rfl,by simp [tyOf,hi,hd],by simp [tyOf,hi,hd],by simp [tyOf,hi,hd]⟩
theorem run_sizeOf {P:Program}{t:TypeId}{i:TypeInfo}(h:P.info? t=some i) (w:World):(sizeOf t).run P w = .ok i.size w:=by
 simp [sizeOf,typeInfo,program,Sem.run,h]
theorem run_isAgg {P:Program}{t:TypeId}{d:TypeDesc}(h:P.underlying t=some d) (w:World):(isAgg t).run P w = .ok (isAggT d) w:=by
 simp only [isAgg,Sem.run_bind,run_und h,Result.andThen]
 cases d <;> rfl
theorem y_bin (E : Env P) (i : InvAt w0 B S ρ st a w) {op : BinOp} {t t' : TypeId} {x y : Operand} (ho : o.op = .binOp op t x y t') (hx : (ev st x).2) (hy : (ev st y).2)
    (hq : (evBin P E.Θ op t (ev st x).1 (ev st y).1).2) : Yields P o a w S ρ st.h (.x (evBin P E.Θ op t (ev st x).1 (ev st y).1).1) := by
  have rx := ev_rep i hx
  have ry := ev_rep i hy
  generalize (ev st x).1 = X at *
  generalize (ev st y).1 = Y at *
  have key : ∃ v, (do eqGuard op t x y (a.eval x) (a.eval y); binOp op t (a.eval x) (a.eval y) : Sem Value).run P w = .ok v w ∧ RepL w S ρ st.h v (evBin P E.Θ op t X Y).1 := by
    unfold evBin at *
    split at hq
    · rename_i k n k' m
      rw [repL_val rx, repL_val ry]
      by_cases hs : isShift op = true
      · simp only [hs, if_true] at hq ⊢
        obtain ⟨v, h1, h2, h3⟩ := run_shift (P := P) (w := w) op k k' t x y n m hs hq
        exact ⟨v, h1, h2 ▸ zk1 v h3⟩
      · simp only [hs] at hq ⊢
        obtain ⟨rfl, hq⟩ := hq
        obtain ⟨v, h1, h2, h3⟩ := run_intBin (P := P) (w := w) op k t x y n m (by simpa using hs) hq
        exact ⟨v, h1, h2 ▸ zk1 v h3⟩
    · rename_i n m
      rw [repL_val rx, repL_val ry]
      have hg : (eqGuard op t x y (.string n) (.string m)).run P w = .ok () w := by unfold eqGuard; cases op <;> rfl
      cases op <;> simp only [evStr] at hq <;> first
        | exact hq.elim
        | (refine ⟨_, ?_, zk1 _ rfl⟩
           unfold roomy at hq
           have : ¬ ((n.size + m.size : Nat) : Int) > IntKind.i64.max := by simp [IntKind.max, IntKind.signed, IntKind.bits]; omega
           simp only [Sem.run_bind, hg, Result.andThen, binOp, Op.stringOp, this, if_false]; rfl)
        | (refine ⟨_, ?_, zk1 _ rfl⟩
           simp [hg, binOp, Op.stringOp, Result.andThen, Sem.run])
    · rename_i n m
      rw [repL_val rx, repL_val ry]
      split at hq
      · rename_i hk
        refine ⟨_, ?_, zk1 _ rfl⟩
        have hg : (eqGuard .eql t x y (.bool n) (.bool m)).run P w = .ok () w := by unfold eqGuard; rfl
        simp [hg, run_eql_bool w t n m (und_bool hk)]
      · rename_i hk
        refine ⟨_, ?_, zk1 _ rfl⟩
        have hg : (eqGuard .neq t x y (.bool n) (.bool m)).run P w = .ok () w := by unfold eqGuard; rfl
        simp [hg, run_neq_bool w t n m (und_bool hk)]
      · exact hq.elim
    · rename_i xs ys
      obtain ⟨us, e1, r1⟩ := rx
      obtain ⟨us', e2, r2⟩ := ry
      rw [e1, e2]
      split at hq
      · rename_i z hz
        obtain ⟨q1, q2, q3, q4⟩ := hq
        have h1 := vals_rep q1 r1
        have h2 := vals_rep q2 r2
        refine ⟨_, ?_, zk1 _ rfl⟩
        have := E.okΘ t z hz w us.toList us'.toList (h1 ▸ q3) (h2 ▸ q4) .eql x y (.inl rfl)
        simp only [Array.toArray_toList] at this
        rw [this, ← h1, ← h2]; rfl
      · rename_i z hz
        obtain ⟨q1, q2, q3, q4⟩ := hq
        have h1 := vals_rep q1 r1
        have h2 := vals_rep q2 r2
        refine ⟨_, ?_, zk1 _ rfl⟩
        have := E.okΘ t z hz w us.toList us'.toList (h1 ▸ q3) (h2 ▸ q4) .neq x y (.inr rfl)
        simp only [Array.toArray_toList] at this
        rw [this, ← h1, ← h2]; rfl
      · exact hq.elim
    · exact hq.elim
  obtain ⟨v, h1, h2⟩ := key
  refine zI9 (v := v) ?_ h2
  simp only [execOp, ho, Sem.run_bind] at h1 ⊢
  rw [h1]; rfl
theorem y_un (i:InvAt w0 B S ρ st a w){op:UnOp}{t:TypeId}{x:Operand}(ho:o.op = .unOp op t x) (hx:(ev st x).2) (hq:(evUn op (ev st x).1).2) :
  Yields P o a w S ρ st.h (.x (evUn op (ev st x).1).1):=by
 have rx:=ev_rep i hx
 generalize (ev st x).1=X at *
 unfold evUn at *
 split at hq
 ·refine zI9 (v:=_) ?_ (zk1 _ rfl)
  simp [execOp,ho,repL_val rx,Op.unary]
 ·refine zI9 (v:=_) ?_ (zk1 _ rfl)
  simp [execOp,ho,repL_val rx,Op.unary,Op.intArith]
 ·exact hq.elim
theorem repC_ptr {h:Heap}{v:Value}{id off:Nat}(r:RepL w S ρ h v (.one (.ptr id off))):∃b o,ρ id=some (b,o)∧v = .pointer (some ⟨b,o+off,none⟩):=by
 cases r with
 | ptr hp=>exact⟨_,_,hp,rfl⟩
theorem repC_ap {h:Heap}{v:Value}{id i j:Nat}(r:RepL w S ρ h v (.one (.ap id i j))):∃b o e xs,h id=some (.arr e xs)∧ρ id=some (b,o)∧v = .pointer (some ⟨b,o+(i*e+j),none⟩):=by
 cases r with
 | ap hb hp=>exact⟨_,_,_,_,hb,hp,rfl⟩
theorem repC_ep {h:Heap}{v:Value}{cs:List PV}(r:RepL w S ρ h v (.one (.ep cs))):∃b o,v = .pointer (some ⟨b,o,none⟩)∧Shows w S b o cs:=by
 cases r with
 | ep r=>exact⟨_,_,rfl,r⟩
theorem repC_fn {h:Heap}{v:Value}{f:FuncId}{ids:List Nat}(r:RepL w S ρ h v (.one (.fn f ids))):∃vs:Array Value,v = .func (.func f) #[] vs∧vs.size=ids.length∧∀i (_:i<ids.length),∃b o,ρ ids[i]=some (b,o)∧vs[i]?=some (.pointer (some ⟨b,o,none⟩)):=by
 cases r with
 | fn hn hv=>exact⟨_,rfl,hn,hv⟩
theorem y_nilCheck (i:InvAt w0 B S ρ st a w){x:Operand}(ho:o.op = .nilCheck x){c:CV}{g:Prop}(hx:ev st x=(.one c,g)) (hg:g)
  (hc:(∃id off,c = .ptr id off)∨(∃id k j,c = .ap id k j)∨(∃cs,c = .ep cs)∨(∃f ids,c = .fn f ids)):Yields P o a w S ρ st.h (.x (.one c)):=by
 have rx:=ev_rep i (x:=x) (by rw [hx]; exact hg)
 rw [hx] at rx
 refine zI9 (v:=a.eval x) ?_ rx
 rcases hc with⟨id,off,rfl⟩ | ⟨id,k,j,rfl⟩ | ⟨cs,rfl⟩ | ⟨f,ids,rfl⟩
 ·obtain⟨b,o',_,hv⟩:=repC_ptr rx; simp [execOp,ho,hv]
 ·obtain⟨b,o',e,xs,_,_,hv⟩:=repC_ap rx; simp [execOp,ho,hv]
 ·obtain⟨b,o',hv,_⟩:=repC_ep rx; simp [execOp,ho,hv]
 ·obtain⟨vs,hv,_⟩:=repC_fn rx; simp [execOp,ho,hv]
theorem y_index_str (i:InvAt w0 B S ρ st a w){t:TypeId}{x y:Operand}(ho:o.op = .index t x y) (hk:(tyOf P t).k = .str){s:ByteArray}{k:IntKind}{n:Int}{g g':Prop}
  (hx:ev st x=(.one (.p (.val (.string s))),g)) (hy:ev st y=(.one (.p (.val (.int k n))),g')) (q:g∧g'∧0≤n∧n<s.size) :
  Yields P o a w S ρ st.h (.x (.int .u8 ((s.data.getD n.toNat 0).toNat:Nat))):=by
 obtain⟨q1,q2,q3,q4⟩:=q
 have rx:=repL_val (by have:=ev_rep i (x:=x) (by rw [hx]; exact q1); rw [hx] at this; exact this)
 have ry:=repL_val (by have:=ev_rep i (x:=y) (by rw [hy]; exact q2); rw [hy] at this; exact this)
 refine zI9 (v:=.int .u8 ((s.data.getD n.toNat 0).toNat:Nat)) ?_ (zk1 _ rfl)
 have hn:n.toNat<s.size:=by omega
 have e1:s[n.toNat]?=some (s.data.getD n.toNat 0):=by
  have h2:n.toNat<s.data.size:=hn
  rw [getElem?_pos s n.toNat hn]
  simp [Array.getD,h2,ByteArray.getElem_eq_getElem_data]
  intro h3; omega
 simp [execOp,ho,rx,ry,Instr.index,asIntOf,run_und (und_str hk),q3,e1]
theorem part_rep {h:Heap}{P:Program}{ft:TypeId}{us:Array Value}{cs:List CV}{off:Nat}(r:RepCs w S ρ h us.toList cs){i:TypeInfo}{d:TypeDesc}(hi:P.info? ft=some i) (hd:P.underlying ft=some d)
  (hoff:if isAggT d then off+i.size≤cs.length else off<cs.length) :
  ∃v,(part ft us off).run P w = .ok v w∧RepL w S ρ h v (if isAggT d then .agg ((cs.drop off).take i.size) else .one (cs.getD off .dead)):=by
 have hl:us.size=cs.length:=by have:=r.1; simpa using this
 by_cases ha:isAggT d=true
 ·rw [if_pos ha] at hoff
  refine⟨.agg (us.extract off (off+i.size)),?_,?_⟩
  ·simp [part,run_isAgg hd,ha,run_sizeOf hi]
  ·rw [if_pos ha]
   refine⟨_,rfl,?_,fun j hv hc=>?_⟩
   ·simp; omega
   ·have hj:j<i.size:=by simp at hc; omega
    have:=r.2 (off+j) (by simp; omega) (by omega)
    simp only [Array.getElem_toList] at this
    simp only [Array.getElem_toList,Array.getElem_extract,List.getElem_take,List.getElem_drop]
    exact this
 ·rw [if_neg ha] at hoff
  have ho:off<us.size:=by omega
  refine⟨us[off],?_,?_⟩
  ·simp [part,run_isAgg hd,ha,ho]
  ·rw [if_neg ha]
   have:=r.2 off (by simpa using ho) hoff
   simp only [Array.getElem_toList] at this
   show RepC w S ρ h us[off] (cs.getD off .dead)
   simpa [List.getD,hoff] using this
end
end Go.LS
