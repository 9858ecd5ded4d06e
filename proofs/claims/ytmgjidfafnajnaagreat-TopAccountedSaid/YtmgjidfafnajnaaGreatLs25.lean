/-
  The framework LS, part 25: plain functions out of code: conditions, loops; the rules that tie them to a walk.
  No condition: definitions and lemmas.
-/
import Derived.Test.YtmgjidfafnajnaaGreatLs24
namespace Go.LS
set_option linter.all false
set_option linter.unusedSimpArgs false
set_option linter.unusedVariables false
abbrev Str:=List UInt8
def bs (l:Str):ByteArray:=⟨l.toArray⟩
def ix {α:Type} [Inhabited α] (l:List α) (n:Int):α:=l.getD n.toNat default
def setI {α:Type}(l:List α) (n:Int) (x:α):List α:=l.set n.toNat x
def rep {α:Type}(n:Int) (x:α):List α:=List.replicate n.toNat x
def sx (s:Str) (n:Int):Int:=((s.getD n.toNat 0).toNat:Nat)
def strOf (l:List Int):Str:=l.map fun n=>UInt8.ofNat n.toNat
abbrev pi (n:Int):PV:=.val (.int .i64 n)
def encB (b:Bool):List PV:=[.val (.bool b)]
def encS (s:Str):List PV:=[.val (.string (bs s))]
def encK_u8 (n:Int):List PV:=[.val (.int .u8 n)]
def encK_u64 (n:Int):List PV:=[.val (.int .u64 n)]
def encK_u32 (n:Int):List PV:=[.val (.int .u32 n)]
def encK_i32 (n:Int):List PV:=[.val (.int .i32 n)]
open Classical in
noncomputable def req {α:Type}(Q:Prop) (x:Option α):Option α:=if Q then x else none
theorem req_some {α:Type}{Q:Prop}{x:Option α}{r:α}(h:req Q x=some r):Q∧x=some r:=by
 unfold req at h
 split at h
 ·exact⟨‹_›,h⟩
 ·cases h
theorem req_pos {α:Type}{Q:Prop}(h:Q) (x:Option α):req Q x=x:=by
 unfold req; rw [if_pos h]
theorem bind_some {α β:Type}{x:Option α}{f:α→Option β}{r:β}(h:x.bind f=some r):∃y,x=some y∧f y=some r:=by
 cases x with
 | none=>cases h
 | some y=>exact⟨y,rfl,h⟩
def bindV {α β:Type}(x:α) (f:α→Option β):Option β:=f x
theorem zp1 {α β:Type}{x:α}{f:α→Option β}{r:β}(h:bindV x f=some r):∃v,x=v∧f v=some r:=⟨x,rfl,h⟩
theorem cpos {α:Type}{b:Bool}{x y:Option α}{r:α}(h:cond b x y=some r) (hb:b=true):x=some r:=by subst hb; exact h
theorem cneg {α:Type}{b:Bool}{x y:Option α}{r:α}(h:cond b x y=some r) (hb:b=false):y=some r:=by subst hb; exact h
theorem band_t {a b:Bool}(ha:a=true) (hb:b=true):(a&&b)=true:=by rw [ha,hb]; rfl
theorem bnot_t {a:Bool}(ha:a=false):(!a)=true:=by rw [ha]; rfl
theorem bor_l {a b:Bool}(ha:a=true):(a||b)=true:=by rw [ha]; rfl
theorem bcases (b:Bool):b=true∨b=false:=by cases b <;> simp
theorem zL1 {α:Type} [Inhabited α] {x:Option α}(h:x.isSome=true):x=some (x.getD default):=by
 cases x with
 | none=>cases h
 | some y=>rfl
def pickB (c a b:Bool):Bool:=match c with | true=>a | false=>b
def iterN {σ ρ:Type}(f:σ→Option (σ⊕ρ)):Nat→σ→Option ρ
 | 0,_=>none
 | n+1,s=>match f s with
  | none=>none
  | some (.inl s')=>iterN f n s'
  | some (.inr r)=>some r
theorem iterN_mono {σ ρ:Type}{f:σ→Option (σ⊕ρ)}{r:ρ}:∀ {n:Nat}{s:σ},iterN f n s=some r→∀k,iterN f (n+k) s=some r
 | 0,_,h,_=>by cases h
 | n+1,s,h,k=>by
  rw [show n+1+k=(n+k)+1 by omega]
  simp only [iterN] at h ⊢
  split at h
  ·cases h
  ·exact iterN_mono h k
  ·exact h
theorem iterN_unique {σ ρ:Type}{f:σ→Option (σ⊕ρ)}{n m:Nat}{s:σ}{r t:ρ}(h:iterN f n s=some r) (k:iterN f m s=some t):r=t:=by
 have h1:=iterN_mono h m
 have h2:=iterN_mono k n
 rw [Nat.add_comm] at h2
 rw [h1] at h2
 exact Option.some.inj h2
open Classical in
noncomputable def iter {σ ρ:Type}(f:σ→Option (σ⊕ρ)) (s:σ):Option ρ:=if h:∃r n,iterN f n s=some r then some h.choose else none
theorem iter_iff {σ ρ:Type}{f:σ→Option (σ⊕ρ)}{s:σ}{r:ρ}:iter f s=some r↔∃n,iterN f n s=some r:=by
 unfold iter
 constructor
 ·intro h
  split at h
  ·rename_i he
   obtain⟨n,hn⟩:=he.choose_spec
   exact⟨n,by rw [hn]; exact h⟩
  ·cases h
 ·rintro⟨n,hn⟩
  have he:∃r n,iterN f n s=some r:=⟨r,n,hn⟩
  rw [dif_pos he]
  obtain⟨m,hm⟩:=he.choose_spec
  rw [iterN_unique hm hn]
theorem iter_eq {σ ρ:Type}(f:σ→Option (σ⊕ρ)) (s:σ):iter f s=match f s with
  | none=>none
  | some (.inl s')=>iter f s'
  | some (.inr r)=>some r:=by
 have key:∀r,iter f s=some r↔(match f s with
  | none=>none
  | some (.inl s')=>iter f s'
  | some (.inr r)=>some r)=some r:=by
  intro r
  rw [iter_iff]
  constructor
  ·rintro⟨n,hn⟩
   cases n with
   | zero=>cases hn
   | succ n=>
    simp only [iterN] at hn
    cases hf:f s with
    | none=>rw [hf] at hn; cases hn
    | some o=>
     rw [hf] at hn
     cases o with
     | inl s'=>exact iter_iff.2 ⟨n,hn⟩
     | inr t=>exact hn
  ·intro h
   cases hf:f s with
   | none=>rw [hf] at h; cases h
   | some o=>
    rw [hf] at h
    cases o with
    | inl s'=>
     obtain⟨n,hn⟩:=iter_iff.1 h
     exact⟨n+1,by simp only [iterN,hf]; exact hn⟩
    | inr t=>exact⟨1,by simp only [iterN,hf]; exact h⟩
 cases h1:iter f s with
 | none=>
  cases h2:(match f s with
  | none=>none
  | some (.inl s')=>iter f s'
  | some (.inr r)=>some r) with
  | none=>rfl
  | some r=>rw [(key r).2 h2] at h1; cases h1
 | some r=>exact ((key r).1 h1).symm
theorem iter_inl {σ ρ:Type}{f:σ→Option (σ⊕ρ)}{s s':σ}(h:f s=some (.inl s')):iter f s=iter f s':=by rw [iter_eq,h]
theorem iter_inr {σ ρ:Type}{f:σ→Option (σ⊕ρ)}{s:σ}{r:ρ}(h:f s=some (.inr r)):iter f s=some r:=by rw [iter_eq,h]
theorem iter_inv {σ ρ:Type}{f:σ→Option (σ⊕ρ)}(I:σ→Prop) (μ:σ→Nat) (post:ρ→Prop)
  (round:∀s,I s→(∃s',f s=some (.inl s')∧I s'∧μ s'<μ s)∨(∃r,f s=some (.inr r)∧post r)):∀s,I s→∃r,iter f s=some r∧post r:=by
 have key:∀n s,μ s=n→I s→∃r,iter f s=some r∧post r:=by
  intro n
  induction n using Nat.strongRecOn with
  | _ n ih=>
   intro s hn hI
   rcases round s hI with⟨s',h1,h2,h3⟩ | ⟨r,h1,h2⟩
   ·rw [iter_inl h1]; exact ih _ (hn ▸ h3) s' rfl h2
   ·exact⟨r,iter_inr h1,h2⟩
 exact fun s hI=>key _ s rfl hI
section
variable {P:Program} {V:List Nat} {st st':LState} {Q:Exit→LState→Prop}
theorem lok_iter {σ ρ:Type}{f:σ→Option (σ⊕ρ)}{x:σ}{v:ρ}{c:Code}(I:σ→LState) (H:iter f x=some v) (hi:Imp V st (I x))
  (round:∀x o,f x=some o→(∀w,o = .inr w→w=v)→LOK P V c (I x) (thenL (fun s=>∃y,o = .inl y∧Imp V s (I y)) Q)):LOK P V (.loop c) st Q:=by
 obtain⟨n,hn⟩:=iter_iff.1 H
 refine lok_loop_from (α:=σ×Nat) (fun p=>I p.1) (fun p=>iterN f p.2 p.1=some v) (fun p=>p.2) (x,n) hi hn ?_
 rintro⟨x,n⟩ hx
 cases n with
 | zero=>cases hx
 | succ n=>
  simp only [iterN] at hx
  cases hf:f x with
  | none=>rw [hf] at hx; cases hx
  | some o=>
   rw [hf] at hx
   refine lok_mono (round x o hf ?_) ?_
   ·rintro w rfl
    exact Option.some.inj hx
   ·intro e s he
    cases e with
    | normal=>
     obtain⟨y,rfl,h2⟩:=he
     exact⟨(y,n),hx,Nat.lt_succ_self n,h2⟩
    | _=>exact he
theorem lok_join {α:Type}{x y:Code}(J:α→Prop) (I:α→LState) (hy:∀a,J a→LOK P V y (I a) Q) (hx:LOK P V x st (thenL (fun s=>∃a,J a∧Imp V s (I a)) Q)):LOK P V (.seq x y) st Q:=by
 refine lok_seq (lok_mono hx ?_)
 intro e s he
 cases e with
 | normal=>
  obtain⟨a,h1,h2⟩:=he
  exact lok_imp h2 (hy a h1)
 | _=>exact he
theorem lok_then_to (E:Env P){id:Nat}{ops:List Oper}{c:Code}{s:LState}{q:Prop}(he:evOps P E ops.toArray ops st True=(s,q)) (hv:q) (hi:Imp V s st') (h:LOK P V c st' Q):LOK P V (.seq (.region id ops.toArray false) c) st Q:=
 lok_then E he hv (lok_imp hi h)
theorem lok_draw_then_to (E:Env P) (m:Nat){id:Nat}{ops:List Oper}{c:Code}{s:LState}{q:Prop}(hmx:P.follows .mixedOrders=true) (hlex:lexOK ops.toArray m=true) (he:evDraw P E ops.toArray m ops st True=(s,q)) (hv:q) (hi:Imp V s st') (h:LOK P V c st' Q):LOK P V (.seq (.region id ops.toArray true) c) st Q:=
 lok_draw_then E m hmx hlex he hv (lok_imp hi h)
structure Ent (P:Program) where
 d:Option Nat
 f:FuncId
 args:List LV
 blks:List Blk
 rets:List LV
 blks':List (Option Blk)
 p:Prop
 ok:p→CallOK P f args blks rets blks'
 m:List Bool:=[]
def entΓ:List (Ent P)→Option Nat→FuncId→List LV→List Blk→CRes
 | [],_,_,_,_=>⟨False,[],[]⟩
 | e :: es,d,f,a,b=>if d=e.d then⟨f=e.f∧a=e.args∧b=e.blks∧e.p,e.rets,e.blks'⟩ else entΓ es d f a b
theorem entΓ_ok:∀ (es:List (Ent P)) (d:Option Nat) (f:FuncId) (a:List LV) (b:List Blk),(entΓ es d f a b).pre→CallOK P f a b (entΓ es d f a b).rets (entΓ es d f a b).blks
 | [],_,_,_,_,h=>h.elim
 | e :: es,d,f,a,b,h=>by
  simp only [entΓ] at h ⊢
  split at h
  ·rename_i hd
   rw [if_pos hd]
   obtain⟨rfl,rfl,rfl,hp⟩:=h
   exact e.ok hp
  ·rename_i hd
   rw [if_neg hd]
   exact entΓ_ok es d f a b h
def entM:List (Ent P)→Option Nat→FuncId→List Bool
 | [],_,_=>[]
 | e :: es,d,f=>if d=e.d then e.m else entM es d f
def Env.of (E:Env P) (es:List (Ent P)):Env P:=⟨entΓ es,entM es,E.Θ,entΓ_ok es,E.okΘ⟩
theorem Env.of_M (E:Env P) (es:List (Ent P)):(E.of es).M=entM es:=rfl
theorem Env.of_Γ (E:Env P) (es:List (Ent P)):(E.of es).Γ=entΓ es:=rfl
theorem Env.of_Θ (E:Env P) (es:List (Ent P)):(E.of es).Θ=E.Θ:=rfl
def leP:PV→PV→Prop
 | .nil,y=>match y with | .sl _ xs=>xs=[] | .nil=>True | .val _=>False
 | .val v,y=>.val v=y
 | .sl e xs,y=>.sl e xs=y
def nilP:PV→Prop
 | .nil=>True
 | .val _=>False
 | .sl _ _=>False
def emptyB:Option Blk→Prop
 | some (.arr _ xs)=>xs=[]
 | some (.var _)=>False
 | none=>False
def leC (h:Heap):CV→CV→Prop
 | .p x,d=>match d with | .p y=>leP x y | .vw id=>nilP x∧emptyB (h id) | .dead=>True | _=>False
 | .fl e xs,d=>match d with | .p y=>.sl e xs=y | .fl e' ys=>e=e'∧xs=ys | .dead=>True | _=>False
 | .vw i,d=>match d with | .vw j=>i=j | .dead=>True | _=>False
 | .ptr i o,d=>match d with | .ptr j o'=>i=j∧o=o' | .dead=>True | _=>False
 | .ap i a b,d=>match d with | .ap i' a' b'=>i=i'∧a=a'∧b=b' | .dead=>True | _=>False
 | .ep _,d=>match d with | .dead=>True | _=>False
 | .fn f ids,d=>match d with | .fn g js=>f=g∧ids=js | .dead=>True | _=>False
 | .dead,d=>match d with | .dead=>True | _=>False
def leCs (h:Heap):List CV→List CV→Prop
 | [],[]=>True
 | c :: cs,d :: ds=>leC h c d∧leCs h cs ds
 | _ :: _,[]=>False
 | [],_ :: _=>False
def leL (h:Heap):LV→LV→Prop
 | .one c,.one d=>leC h c d
 | .agg cs,.agg ds=>leCs h cs ds
 | .one _,.agg _=>False
 | .agg _,.one _=>False
def leLs (h:Heap):List LV→List LV→Prop
 | [],[]=>True
 | c :: cs,d :: ds=>leL h c d∧leLs h cs ds
 | _ :: _,[]=>False
 | [],_ :: _=>False
def leS (h:Heap):SV→SV→Prop
 | .dead,v=>match v with | .dead=>True | _=>False
 | .x l,v=>match v with | .x m=>leL h l m | .dead=>True | _=>False
 | .tup l,v=>match v with | .tup m=>leLs h l m | .dead=>True | _=>False
 | .wh g l,v=>match v with | .wh g' m=>g=g'∧l=m | .dead=>True | _=>False
def leB (h:Heap):Blk→Blk→Prop
 | .var cs,.var ds=>leCs h cs ds
 | .arr e xs,.arr e' ys=>e=e'∧xs=ys
 | .var _,.arr _ _=>False
 | .arr _ _,.var _=>False
def leO (h:Heap):Option Blk→Blk→Prop
 | some b,c=>leB h b c
 | none,.arr e xs=>1≤e∧xs=[]
 | none,.var _=>False
theorem leP_le {x y:PV}(h:leP x y):LeP x y:=by
 cases x with
 | nil=>
  cases y with
  | val v=>exact h.elim
  | nil=>exact .refl _
  | sl e xs=>have h':xs=[]:=h; subst h'; exact .nil e
 | val v=>have h':PV.val v=y:=h; subst h'; exact .refl _
 | sl e xs=>have h':PV.sl e xs=y:=h; subst h'; exact .refl _
theorem leC_le {h:Heap}{c d:CV}(l:leC h c d):LeC h c d:=by
 cases d with
 | dead=>exact .dead c
 | p y=>
  cases c with
  | p x=>exact .p (leP_le l)
  | fl e xs=>have l':PV.sl e xs=y:=l; subst l'; exact .fl (.refl _)
  | vw _=>exact False.elim l
  | ptr _ _=>exact False.elim l
  | ap _ _ _=>exact False.elim l
  | ep _=>exact False.elim l
  | fn _ _=>exact False.elim l
  | dead=>exact False.elim l
 | fl e ys=>
  cases c with
  | fl e' xs=>obtain⟨rfl,rfl⟩:e'=e∧xs=ys:=l; exact .refl _
  | _=>exact False.elim l
 | vw j=>
  cases c with
  | vw i=>have l':i=j:=l; subst l'; exact .refl _
  | p x=>
   have l':nilP x∧emptyB (h j):=l
   obtain⟨h1,h2⟩:=l'
   cases x with
   | nil=>
    cases hb:h j with
    | none=>rw [hb] at h2; exact h2.elim
    | some b=>
     rw [hb] at h2
     cases b with
     | var _=>exact h2.elim
     | arr e xs=>have h3:xs=[]:=h2; subst h3; exact .vw hb
   | val _=>exact h1.elim
   | sl _ _=>exact h1.elim
  | fl _ _=>exact False.elim l
  | ptr _ _=>exact False.elim l
  | ap _ _ _=>exact False.elim l
  | ep _=>exact False.elim l
  | fn _ _=>exact False.elim l
  | dead=>exact False.elim l
 | ptr j o=>
  cases c with
  | ptr i o'=>obtain⟨rfl,rfl⟩:i=j∧o'=o:=l; exact .refl _
  | _=>exact False.elim l
 | ap i a b=>
  cases c with
  | ap i' a' b'=>obtain⟨rfl,rfl,rfl⟩:i'=i∧a'=a∧b'=b:=l; exact .refl _
  | _=>exact False.elim l
 | ep _=>cases c <;> exact False.elim l
 | fn g js=>
  cases c with
  | fn f ids=>obtain⟨rfl,rfl⟩:f=g∧ids=js:=l; exact .refl _
  | _=>exact False.elim l
theorem leCs_le {h:Heap}:∀ {cs ds:List CV},leCs h cs ds→LeCs h cs ds
 | [],[],_=>.nil
 | _ :: _,_ :: _,l=>.cons (leC_le l.1) (leCs_le l.2)
theorem leL_le {h:Heap}:∀ {c d:LV},leL h c d→LeL h c d
 | .one _,.one _,l=>.one (leC_le l)
 | .agg _,.agg _,l=>.agg (leCs_le l)
theorem leLs_le {h:Heap}:∀ {cs ds:List LV},leLs h cs ds→LeLs h cs ds
 | [],[],_=>.nil
 | _ :: _,_ :: _,l=>.cons (leL_le l.1) (leLs_le l.2)
theorem leS_le {h:Heap}{c d:SV}(l:leS h c d):LeS h c d:=by
 cases d with
 | dead=>exact .dead c
 | x m=>cases c with
  | x l'=>exact .x (leL_le l)
  | _=>exact False.elim l
 | tup m=>cases c with
  | tup l'=>exact .tup (leLs_le l)
  | _=>exact False.elim l
 | wh g m=>cases c with
  | wh g' l'=>obtain⟨rfl,rfl⟩:g'=g∧l'=m:=l; exact .refl _
  | _=>exact False.elim l
theorem leB_le {h:Heap}:∀ {c d:Blk},leB h c d→LeB h c d
 | .var _,.var _,l=>.var (leCs_le l)
 | .arr _ _,.arr _ _,l=>by obtain⟨rfl,rfl⟩:=l; exact .refl _
def allLS (h:Heap) (st:LState):List (Nat×SV)→Prop
 | []=>True
 | (t,v) :: r=>leS h (st.s t) v∧allLS h st r
def allLH (h:Heap) (st:LState):List (Nat×Blk)→Prop
 | []=>True
 | (t,v) :: r=>leO h (st.h t) v∧allLH h st r
theorem allLS_mem {h:Heap}{st:LState}:∀ {l:List (Nat×SV)},allLS h st l→∀p∈l,leS h (st.s p.1) p.2
 | (t,v) :: r,h,p,hp=>by
  rcases List.mem_cons.1 hp with rfl | hp
  ·exact h.1
  ·exact allLS_mem h.2 p hp
theorem allLH_mem {h:Heap}{st:LState}:∀ {l:List (Nat×Blk)},allLH h st l→∀p∈l,leO h (st.h p.1) p.2
 | (t,v) :: r,h,p,hp=>by
  rcases List.mem_cons.1 hp with rfl | hp
  ·exact h.1
  ·exact allLH_mem h.2 p hp
theorem imp_le {st:LState}{n:Nat}{l:List (Nat×SV)}{m:List (Nat×Blk)}(hn:st.n=n) (hl:allLS (mkH m) st l) (hm:allLH (mkH m) st m)
  (hr:(l.all fun p=>(refsS p.2).all fun i=>(m.map (·.1)).contains i)=true) (hrb:(m.all fun p=>(refsB p.2).all fun i=>(m.map (·.1)).contains i)=true)
  (hvv:(V.all fun id=>(mkH m id).isSome)=true):Imp V st ⟨n,mkS l,mkH m⟩:=by
 subst hn
 refine imp_weaken st l m (fun p hp=>leS_le (allLS_mem hl p hp)) (fun p hp=>?_) hr hrb hvv
 have:=allLH_mem hm p hp
 cases hb:st.h p.1 with
 | none=>
  rw [hb] at this
  cases hp2:p.2 with
  | var cs=>rw [hp2] at this; exact this.elim
  | arr e xs=>
   rw [hp2] at this
   obtain⟨h1,h2⟩:1≤e∧xs=[]:=this
   subst h2
   exact .inr ⟨rfl,e,h1,rfl⟩
 | some b=>rw [hb] at this; exact .inl ⟨b,rfl,leB_le this⟩
end
theorem bt (b:Bool):(b==true)=b:=by cases b <;> rfl
theorem bf (b:Bool):(b==false) = !b:=by cases b <;> rfl
theorem ite_and (c a:Bool):(if c=true then a else false)=(c&&a):=by cases c <;> rfl
theorem ite_or (c b:Bool):(if c=true then true else b)=(c||b):=by cases c <;> rfl
theorem pickB_t (a b:Bool):pickB true a b=a:=rfl
theorem pickB_f (a b:Bool):pickB false a b=b:=rfl
theorem bs_append (a b:Str):bs a++bs b=bs (a++b):=by
 apply ByteArray.ext
 simp [bs]
theorem bs_size (a:Str):(bs a).size=a.length:=by simp [bs,ByteArray.size]
theorem bs_toList (a:Str):(bs a).data.toList=a:=by simp [bs]
theorem bs_ix (a:Str) (n:Int):((((bs a).data.getD n.toNat 0).toNat:Nat):Int)=sx a n:=by
 unfold sx bs
 simp only [Array.getD,List.size_toArray]
 split <;> rename_i h <;> simp [List.getD,h]
theorem isByte_u8 (l:List Int):(∀x∈List.map encK_u8 l,isByte x)=True:=by
 simp [isByte,encK_u8]
theorem mk_bs (l:Str):(⟨l.toArray⟩:ByteArray)=bs l:=rfl
theorem map_rep {α β:Type}(f:α→β) (n:Int) (x:α):List.map f (rep n x)=List.replicate n.toNat (f x):=by simp [rep]
theorem map_setI {α β:Type}(f:α→β) (l:List α) (n:Int) (x:α):List.map f (setI l n x)=(List.map f l).set n.toNat (f x):=by simp [setI,List.map_set]
theorem len_setI {α:Type}(l:List α) (n:Int) (x:α):(setI l n x).length=l.length:=by simp [setI]
theorem len_rep {α:Type}(n:Int) (x:α):(rep n x).length=n.toNat:=by simp [rep]
theorem strOf_eq (l:List Int):(⟨(List.map byteOf1 (List.map encK_u8 l)).toArray⟩:ByteArray)=bs (strOf l):=by
 simp [bs,strOf,byteOf1,encK_u8,Function.comp_def]
theorem take_map_len {α β:Type}(f:α→β) (l:List α):List.take l.length (List.map f l)=List.map f l:=by
 rw [List.take_of_length_le]; simp
attribute [go_sem] evConv isByte_u8 mk_bs take_map_len List.take_length entΓ entM Env.of_M Env.add_M Env.of_Γ Env.of_Θ bt bf ite_and ite_or pickB_t pickB_f bs_append bs_size bs_toList bs_ix zP encI encB encS encK_u8 encK_u64 encK_u32 encK_i32 leP nilP emptyB leC leCs leL leLs leS leB leO allLS allLH Option.some.injEq Int.toNat_natCast List.length_map Env.add_Γ Env.add_Θ Env.addT_Γ Env.addT_Θ List.set_cons_zero len_setI strOf_eq
end Go.LS
