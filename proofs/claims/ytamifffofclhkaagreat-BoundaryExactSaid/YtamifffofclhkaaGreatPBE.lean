/-
  BoundaryExact: all functions of boundaries are those of the reference. Conditions: none but those of the statement.
-/
import Derived.Test.YtamifffofclhkaaGreatD4
import Derived.Test.YtamifffofclhkaaGreatLs30
namespace Go.LS
set_option linter.all false
set_option linter.unusedSimpArgs false
set_option linter.unusedVariables false
set_option maxRecDepth 20000

theorem ix_nat {α:Type} [Inhabited α] (l:List α) (k:Nat) (h:k<l.length):ix l (k:Int)=l[k]:=by simp [ix,List.getD,h]
theorem ix_mem {α:Type} [Inhabited α] (l:List α) (n:Int) (h0:0≤n) (h:n<l.length):ix l n ∈ l:=by
  have:n.toNat<l.length:=by omega
  simp [ix,List.getD,this]
theorem i64_add1 (k:Nat) (h:k<4611686018427387904):IntKind.i64.wrap ((k:Int)+1)=((k+1:Nat):Int):=by
  rw [wrap64 (by omega) (by omega)]; omega
theorem iter_scan {α ρ:Type} (l:List α) (f:Int→Option (Int ⊕ ρ)) (p:α→Bool) (hit:α→ρ) (miss:ρ)
    (hstep:∀ (k:Nat) (hk:k<l.length),f (k:Int)=some (if p l[k]=true then .inr (hit l[k]) else .inl ((k+1:Nat):Int)))
    (hend:f (l.length:Int)=some (.inr miss)):iter f (0:Int)=some (match l.find? p with | some a => hit a | none => miss):=by
  have key:∀ (n k:Nat),l.length - k=n→k≤l.length→iter f (k:Int)=some (match (l.drop k).find? p with | some a => hit a | none => miss):=by
    intro n
    induction n with
    | zero =>
      intro k hn hk
      have:k=l.length:=by omega
      subst this
      rw [iter_inr hend,List.drop_length]; rfl
    | succ n ih =>
      intro k hn hk
      have hk':k<l.length:=by omega
      have h1:=hstep k hk'
      rw [List.drop_eq_getElem_cons hk',List.find?_cons]
      cases hp:p l[k] with
      | true => rw [hp,if_pos rfl] at h1; rw [iter_inr h1]
      | false => rw [hp,if_neg (by simp)] at h1; rw [iter_inl h1,ih (k+1) (by omega) (by omega)]
  have:=key _ 0 rfl (by omega)
  simpa using this
theorem find_any {α β:Type} (l:List α) (p:α→Bool) (x y:β):(match l.find? p with | some _ => x | none => y)=if l.any p=true then x else y:=by
  cases h:l.find? p with
  | none =>
    rw [List.find?_eq_none] at h
    have:l.any p=false:=by rw [List.any_eq_false]; exact h
    simp [this]
  | some a =>
    have:l.any p=true:=List.any_eq_true.2 ⟨a,List.mem_of_find?_eq_some h,List.find?_some h⟩
    simp [this]
theorem wrapU (n:Int):IntKind.u64.wrap n=n % 18446744073709551616:=by simp [IntKind.wrap,IntKind.bits,IntKind.signed]
theorem wrapU_id {n:Int} (h0:0≤n) (h1:n<18446744073709551616):IntKind.u64.wrap n=n:=by rw [wrapU]; omega
theorem wrapU_nat (k:Nat) (h:k<18446744073709551616):IntKind.u64.wrap (k:Int)=k:=wrapU_id (by omega) (by omega)
def I64 (n:Int):Prop:=-9223372036854775808≤n∧n<9223372036854775808
theorem mag_eq (n:Int) (h:I64 n):ratio_magnitude n=some (n.natAbs:Int):=by
  obtain ⟨h1,h2⟩:=h
  unfold ratio_magnitude
  rcases bcases (decide (n<(0:Int))) with hc | hc <;> rw [hc]
  · have:n<0:=by simpa using hc
    simp only [cond_true,wrapU,Option.some.injEq]
    omega
  · have:0≤n:=by simpa using hc
    simp only [cond_false,wrapU,Option.some.injEq]
    omega
theorem tmod_nat (a b:Nat):Int.tmod (a:Int) (b:Int)=((a % b:Nat):Int):=by
  rw [Int.tmod_eq_emod_of_nonneg (by omega)]; exact_mod_cast rfl
theorem tdiv_nat (a b:Nat):Int.tdiv (a:Int) (b:Int)=((a / b:Nat):Int):=by
  rw [Int.tdiv_eq_ediv_of_nonneg (by omega)]; exact_mod_cast rfl
theorem gcd_eq (a b:Nat):ratio_gcd a b=some ((Nat.gcd a b:Nat):Int):=by
  have key:∀ n m:Nat,iter ratio_gcd_l2 ((m:Int),(n:Int))=some ((Nat.gcd m n:Nat):Int):=by
    intro n
    induction n using Nat.strongRecOn with
    | _ n ih =>
      intro m
      by_cases hn:n=0
      · subst hn
        rw [iter_inr (r:=(m:Int))]
        · simp
        · simp [ratio_gcd_l2]
      · have hs:ratio_gcd_l2 ((m:Int),(n:Int))=some (.inl ((n:Int),((m % n:Nat):Int))):=by
          simp only [ratio_gcd_l2]
          rw [show ((n:Int) != 0)=true by simp [hn],cond_true,req_pos (by omega),tmod_nat]
        rw [iter_inl hs,ih (m % n) (Nat.mod_lt _ (by omega)) n]
        rw [Nat.gcd_comm m n,Nat.gcd_rec n m,Nat.gcd_comm]
  unfold ratio_gcd ratio_gcd_j1
  rw [key b a]; rfl
def vR (a:api_Ratio):Bool:=decide (1≤a.Den∧a.Den≤1152921504606846976∧-1152921504606846976≤a.Num∧a.Num≤1152921504606846976∧Nat.gcd a.Num.natAbs a.Den.natAbs=1)
theorem Valid_eq (a:api_Ratio):ratio_Valid a=some (vR a):=by
  unfold ratio_Valid vR
  rcases bcases ((((decide (a.Den<(1:Int)))||(decide ((1152921504606846976:Int)<a.Den)))||(decide (a.Num<(-1152921504606846976:Int))))||(decide ((1152921504606846976:Int)<a.Num))) with hc | hc <;> rw [hc]
  · simp only [Bool.or_eq_true,decide_eq_true_eq] at hc
    rw [cond_true]
    congr 1
    symm
    rw [decide_eq_false_iff_not]
    omega
  · simp only [Bool.or_eq_false_iff,decide_eq_false_iff_not] at hc
    rw [cond_false,mag_eq a.Num ⟨by omega,by omega⟩]
    simp only [Option.bind]
    rw [wrapU_id (by omega) (by omega),show a.Den=((a.Den.natAbs:Nat):Int) by omega,gcd_eq]
    simp only [Int.natAbs_natCast,Option.some.injEq]
    rw [Bool.eq_iff_iff]
    simp only [beq_iff_eq,decide_eq_true_eq]
    omega
theorem Div64_0 (lo y:Nat) (h:lo<18446744073709551616) (hy:0<y):bits_Div64 0 lo y=some (((lo / y:Nat):Int),((lo % y:Nat):Int)):=by
  unfold bits_Div64 bits_Div64_j6 bits_Div64_j5
  rw [show ((y:Int)==0)=false by simp; omega,cond_false,show decide ((y:Int)≤0)=false by simp; omega,cond_false,show ((0:Int)==0)=true by simp,cond_true,req_pos (by omega),tdiv_nat,tmod_nat,wrapU_nat _ (Nat.lt_of_le_of_lt (Nat.div_le_self lo y) h)]
def fitOf (neg:Bool) (n d:Nat):api_Ratio × Int:=if n≤1152921504606846976∧d≤1152921504606846976 then (⟨if neg=true then -(n:Int) else n,d⟩,0) else (⟨0,0⟩,6)
theorem fitted_eq (neg:Bool) (nh n dh d:Nat) (hn:n<18446744073709551616) (hd:d<18446744073709551616):ratio_fitted neg ⟨nh,n⟩ ⟨dh,d⟩=some (fitOf neg (nh*18446744073709551616+n) (dh*18446744073709551616+d)):=by
  unfold ratio_fitted ratio_fitted_j1 fitOf
  rcases bcases ((((((nh:Nat):Int) != (0:Int))||(((dh:Nat):Int) != (0:Int)))||(decide ((1152921504606846976:Int)<(n:Int))))||(decide ((1152921504606846976:Int)<(d:Int)))) with hc | hc <;> rw [hc]
  · simp only [Bool.or_eq_true,decide_eq_true_eq,bne_iff_ne] at hc
    rw [cond_true,if_neg (by omega)]
  · simp only [Bool.or_eq_false_iff,decide_eq_false_iff_not,bne_eq_false_iff_eq] at hc
    have h1:nh=0:=by omega
    have h2:dh=0:=by omega
    subst h1 h2
    rw [cond_false,if_pos (by omega)]
    simp only [Nat.zero_mul,Nat.zero_add]
    rw [wrap64 (n:=(n:Int)) (by omega) (by omega),wrap64 (n:=(d:Int)) (by omega) (by omega)]
    cases neg
    · rfl
    · rw [cond_true,wrap64 (by omega) (by omega)]; simp
def redOf (neg:Bool) (n d:Nat):api_Ratio × Int:=fitOf neg (n / Nat.gcd n d) (d / Nat.gcd n d)
theorem reduced0 (neg:Bool) (n d:Nat) (hn:n<18446744073709551616) (hd:0<d) (hd2:d<18446744073709551616):ratio_reduced ⟨neg,⟨0,n⟩⟩ d=some (redOf neg n d):=by
  have z:∀ y:Nat,Int.tmod 0 (y:Int)=0:=fun y => by simp
  have zd:∀ y:Nat,Int.tdiv 0 (y:Int)=0:=fun y => by simp
  have hg:0<Nat.gcd n d:=Nat.gcd_pos_of_pos_right _ hd
  have hgg:Nat.gcd (n % d) d=Nat.gcd n d:=by rw [Nat.gcd_comm n d,Nat.gcd_rec d n]
  have h1:=Nat.div_le_self n (Nat.gcd n d)
  have h2:=Nat.div_le_self d (Nat.gcd n d)
  unfold ratio_reduced ratio_wide_mod bits_Rem64 ratio_wide_over redOf
  simp only [z,zd]
  rw [req_pos (by omega),Div64_0 n d hn hd]
  simp only [Option.bind,gcd_eq,hgg,z,zd]
  rw [req_pos (by omega),Div64_0 n _ hn hg]
  simp only []
  rw [req_pos (by omega),tdiv_nat,wrapU_nat _ (Nat.lt_of_le_of_lt h2 hd2),wrapU_id (n:=0) (by omega) (by omega)]
  have:=fitted_eq neg 0 (n / Nat.gcd n d) 0 (d / Nat.gcd n d) (Nat.lt_of_le_of_lt h1 hn) (Nat.lt_of_le_of_lt h2 hd2)
  simp only [Int.natCast_zero,Nat.zero_mul,Nat.zero_add] at this
  rw [this]
def newOf (num den:Int):api_Ratio × Int:=if den=0 then (⟨0,0⟩,2) else redOf (!(decide (num<0)==decide (den<0))) num.natAbs den.natAbs
theorem New_eq (num den:Int) (hn:I64 num) (hd:I64 den):ratio_New num den=some (newOf num den):=by
  unfold ratio_New newOf
  by_cases h:den=0
  · subst h; rfl
  · rw [if_neg h,show (den==0)=false by simpa using h,cond_false,mag_eq num hn,mag_eq den hd]
    simp only [Option.bind]
    obtain ⟨h1,h2⟩:=hn
    obtain ⟨h3,h4⟩:=hd
    rw [reduced0 _ num.natAbs den.natAbs (by omega) (by omega) (by omega)]
theorem and32 (x:Nat) (hx:x<18446744073709551616):bAnd .u64 (x:Int) 4294967295=((x % 4294967296:Nat):Int):=by
  unfold bAnd
  have e:(BitVec.ofInt (IntKind.bits .u64) (x:Int)).toNat=x:=by simp only [IntKind.bits,BitVec.toNat_ofInt]; omega
  have e2:(BitVec.ofInt (IntKind.bits .u64) (4294967295:Int)).toNat=2 ^ 32 - 1:=by decide
  rw [BitVec.toNat_and,e,e2,Nat.and_two_pow_sub_one_eq_mod,wrapU_id (by omega) (by omega)]
theorem shr32 (x:Nat):bShr .u64 (x:Int) 32=((x / 4294967296:Nat):Int):=by
  unfold bShr
  rw [show (2:Int) ^ (min (Int.toNat 32) (IntKind.bits .u64))=4294967296 by decide,Int.fdiv_eq_ediv_of_nonneg _ (by omega)]
  omega
theorem Mul64_eq (x y:Nat) (hx:x<18446744073709551616) (hy:y<18446744073709551616):bits_Mul64 x y=some (((x*y / 18446744073709551616:Nat):Int),((x*y % 18446744073709551616:Nat):Int)):=by
  unfold bits_Mul64 bindV
  simp only [and32 x hx,and32 y hy,shr32]
  generalize hx0:x % 4294967296=x0
  generalize hx1:x / 4294967296=x1
  generalize hy0:y % 4294967296=y0
  generalize hy1:y / 4294967296=y1
  have ex:x=x1*4294967296+x0:=by omega
  have ey:y=y1*4294967296+y0:=by omega
  have b0:x0≤4294967295:=by omega
  have b1:x1≤4294967295:=by omega
  have c0:y0≤4294967295:=by omega
  have c1:y1≤4294967295:=by omega
  have p00:x0*y0≤4294967295*4294967295:=Nat.mul_le_mul b0 c0
  have p01:x0*y1≤4294967295*4294967295:=Nat.mul_le_mul b0 c1
  have p10:x1*y0≤4294967295*4294967295:=Nat.mul_le_mul b1 c0
  have p11:x1*y1≤4294967295*4294967295:=Nat.mul_le_mul b1 c1
  have exy:x*y=x1*y1*18446744073709551616+(x0*y1+x1*y0)*4294967296+x0*y0:=by
    rw [ex,ey]; grind
  rw [exy]
  have ez:(x:Int)*(y:Int)=((x1*y1*18446744073709551616+(x0*y1+x1*y0)*4294967296+x0*y0:Nat):Int):=by rw [← exy]; exact (Int.natCast_mul x y).symm
  rw [ez]
  simp only [← Int.natCast_mul]
  generalize x0*y0=a at *
  generalize x0*y1=b at *
  generalize x1*y0=c at *
  generalize x1*y1=d at *
  rw [wrapU_id (n:=(a:Int)) (by omega) (by omega),wrapU_id (n:=(b:Int)) (by omega) (by omega),wrapU_id (n:=(c:Int)) (by omega) (by omega),wrapU_id (n:=(d:Int)) (by omega) (by omega)]
  simp only [shr32,← Int.natCast_add]
  rw [wrapU_id (n:=((c+a / 4294967296:Nat):Int)) (by omega) (by omega)]
  simp only [shr32,and32 (c+a / 4294967296) (by omega),← Int.natCast_add]
  rw [wrapU_id (n:=(((c+a / 4294967296) % 4294967296+b:Nat):Int)) (by omega) (by omega),wrapU_id (n:=((d+(c+a / 4294967296) / 4294967296:Nat):Int)) (by omega) (by omega)]
  simp only [shr32,← Int.natCast_add]
  rw [wrapU_id (by omega) (by omega),wrapU]
  simp only [Option.some.injEq,Prod.mk.injEq]
  constructor <;> omega
def cmpI (x y:Int):Int:=if x<y then -1 else if y<x then 1 else 0
theorem cmpU_eq (x y:Int):cmp_Compare_uint64 x y=some (cmpI x y):=by
  unfold cmp_Compare_uint64 cmp_isNaN_uint64 cmpI
  simp only [bne_self_eq_false,Option.bind,cond_false]
  by_cases h:x<y
  · simp [h]
  · simp [h]
    by_cases h2:y<x <;> simp [h2]
theorem wideCmp (m n:Nat):ratio_wide_compare ⟨((m / 18446744073709551616:Nat):Int),((m % 18446744073709551616:Nat):Int)⟩ ⟨((n / 18446744073709551616:Nat):Int),((n % 18446744073709551616:Nat):Int)⟩=some (cmpI m n):=by
  unfold ratio_wide_compare
  simp only [cmpU_eq,Option.bind]
  unfold cmpI
  by_cases h1:m / 18446744073709551616<n / 18446744073709551616
  · rw [if_pos (by omega),if_pos (show (m:Int)<n by omega)]; rfl
  · by_cases h2:n / 18446744073709551616<m / 18446744073709551616
    · rw [if_neg (by omega),if_pos (by omega),if_neg (show ¬ (m:Int)<n by omega),if_pos (show (n:Int)<m by omega)]; rfl
    · rw [if_neg (by omega),if_neg (by omega)]
      simp only [bne_self_eq_false,cond_false]
      by_cases h3:m % 18446744073709551616<n % 18446744073709551616
      · rw [if_pos (by omega),if_pos (show (m:Int)<n by omega)]
      · rw [if_neg (by omega),if_neg (show ¬ (m:Int)<n by omega)]
        by_cases h4:n % 18446744073709551616<m % 18446744073709551616
        · rw [if_pos (by omega),if_pos (show (n:Int)<m by omega)]
        · rw [if_neg (by omega),if_neg (show ¬ (n:Int)<m by omega)]
theorem signedProduct_eq (num:Int) (f:Nat) (hn:I64 num) (hf:f<18446744073709551616):ratio_signedProduct num f=some ⟨decide (num<0),⟨((num.natAbs*f / 18446744073709551616:Nat):Int),((num.natAbs*f % 18446744073709551616:Nat):Int)⟩⟩:=by
  unfold ratio_signedProduct ratio_product
  rw [mag_eq num hn]
  simp only [Option.bind]
  obtain ⟨h1,h2⟩:=hn
  rw [Mul64_eq num.natAbs f (by omega) hf]
theorem vR_iff (a:api_Ratio):vR a=true ↔ 1≤a.Den∧a.Den≤1152921504606846976∧-1152921504606846976≤a.Num∧a.Num≤1152921504606846976∧Nat.gcd a.Num.natAbs a.Den.natAbs=1:=by simp [vR]
def cmpR (a b:api_Ratio):Int:=if vR a=true∧vR b=true then cmpI (a.Num*b.Den) (b.Num*a.Den) else 0
theorem Compare_eq (a b:api_Ratio):ratio_Compare a b=some (cmpR a b):=by
  unfold ratio_Compare cmpR
  simp only [Valid_eq,Option.bind,Option.isSome_some,Option.getD_some,implies_true,req_true]
  cases ha:vR a
  · simp
  cases hb:vR b
  · simp
  obtain ⟨a1,a2,a3,a4,_⟩:=(vR_iff a).1 ha
  obtain ⟨b1,b2,b3,b4,_⟩:=(vR_iff b).1 hb
  simp only [Bool.not_true,Bool.or_self,cond_false,and_self,if_true]
  rw [wrapU_id (n:=b.Den) (by omega) (by omega),wrapU_id (n:=a.Den) (by omega) (by omega)]
  obtain ⟨bd,hbd⟩:∃ k:Nat,b.Den=k:=⟨b.Den.toNat,by omega⟩
  obtain ⟨ad,had⟩:∃ k:Nat,a.Den=k:=⟨a.Den.toNat,by omega⟩
  rw [hbd,had,signedProduct_eq a.Num bd ⟨by omega,by omega⟩ (by omega),signedProduct_eq b.Num ad ⟨by omega,by omega⟩ (by omega)]
  simp only [wideCmp]
  have key1:((a.Num.natAbs*bd:Nat):Int)=(if a.Num<0 then -(a.Num*bd) else a.Num*bd):=by
    rw [Int.natCast_mul]
    split
    · rw [← Int.neg_mul]; congr 1; omega
    · congr 1; omega
  have key2:((b.Num.natAbs*ad:Nat):Int)=(if b.Num<0 then -(b.Num*ad) else b.Num*ad):=by
    rw [Int.natCast_mul]
    split
    · rw [← Int.neg_mul]; congr 1; omega
    · congr 1; omega
  have s1:a.Num<0→a.Num*bd<0:=fun h => Int.mul_neg_of_neg_of_pos h (by omega)
  have s2:0≤a.Num→0≤a.Num*bd:=fun h => Int.mul_nonneg h (by omega)
  have s3:b.Num<0→b.Num*ad<0:=fun h => Int.mul_neg_of_neg_of_pos h (by omega)
  have s4:0≤b.Num→0≤b.Num*ad:=fun h => Int.mul_nonneg h (by omega)
  rw [key1,key2]
  generalize a.Num*(bd:Int)=p at *
  generalize b.Num*(ad:Int)=q at *
  by_cases ha0:a.Num<0 <;> by_cases hb0:b.Num<0 <;> simp only [ha0,hb0,decide_true,decide_false,Bool.and_self,Bool.and_false,Bool.and_true,Bool.false_and,Bool.true_and,cond_true,cond_false,if_true,if_false,Option.some.injEq] <;> unfold cmpI
  · have:=s1 ha0; have:=s3 hb0
    by_cases h1:p<q
    · rw [if_pos (by omega),if_pos h1]
    · rw [if_neg (by omega),if_neg h1]
      by_cases h2:q<p
      · rw [if_pos (by omega),if_pos h2]
      · rw [if_neg (by omega),if_neg h2]
  · have:=s1 ha0; have:=s4 (by omega)
    rw [if_pos (by omega)]
  · have:=s2 (by omega); have:=s3 hb0
    rw [if_neg (by omega),if_pos (by omega)]
theorem Size_eq (n:Int) (h:I64 n):ref01_Size n=some (n.natAbs:Int):=by
  obtain ⟨h1,h2⟩:=h
  unfold ref01_Size bindV
  rcases bcases (decide (n<(0:Int))) with hc | hc <;> rw [hc]
  · have:n<0:=by simpa using hc
    rw [cond_true,wrap64 (n:=n+1) (by omega) (by omega),wrap64 (n:=0 - (n+1)) (by omega) (by omega)]
    simp only [wrapU,Option.some.injEq]
    omega
  · have:0≤n:=by simpa using hc
    simp only [cond_false,wrapU,Option.some.injEq]
    omega
theorem Divide0 (a b:Nat) (ha:a<18446744073709551616) (hb:0<b):ref01_Divide ⟨0,a⟩ ⟨0,b⟩=some (⟨0,((a / b:Nat):Int)⟩,⟨0,((a % b:Nat):Int)⟩):=by
  unfold ref01_Divide
  simp only [beq_self_eq_true,Bool.and_self,cond_true]
  rw [req_pos (by omega),tdiv_nat,tmod_nat,wrapU_nat _ (Nat.lt_of_le_of_lt (Nat.div_le_self a b) ha)]
theorem Divisor0 (a b:Nat) (ha:a<18446744073709551616) (hb:b<18446744073709551616):ref01_Divisor ⟨0,a⟩ ⟨0,b⟩=some ⟨0,((Nat.gcd a b:Nat):Int)⟩:=by
  have key:∀ n m:Nat,m<18446744073709551616→n<18446744073709551616→iter ref01_Divisor_l2 ((0:Int),(m:Int),(0:Int),(n:Int))=some ((0:Int),((Nat.gcd m n:Nat):Int)):=by
    intro n
    induction n using Nat.strongRecOn with
    | _ n ih =>
      intro m hm hn'
      by_cases hn:n=0
      · subst hn
        rw [iter_inr (r:=((0:Int),(m:Int)))]
        · simp
        · simp [ref01_Divisor_l2]
      · have hs:ref01_Divisor_l2 ((0:Int),(m:Int),(0:Int),(n:Int))=some (.inl ((0:Int),(n:Int),(0:Int),((m % n:Nat):Int))):=by
          simp only [ref01_Divisor_l2]
          rw [show (!(((0:Int)==0)&&((n:Int)==0)))=true by simp [hn],cond_true,Divide0 m n hm (by omega)]
          rfl
        have hlt:=Nat.mod_lt m (show 0<n by omega)
        rw [iter_inl hs,ih (m % n) hlt n hn' (by omega)]
        rw [Nat.gcd_comm m n,Nat.gcd_rec n m,Nat.gcd_comm]
  unfold ref01_Divisor ref01_Divisor_j1
  rw [key b a ha hb]; rfl
theorem Reduce0 (neg:Bool) (n d:Nat) (hn:n<18446744073709551616) (hd:0<d) (hd2:d<18446744073709551616):ref01_Reduce neg ⟨0,n⟩ ⟨0,d⟩=some (redOf neg n d):=by
  have hg:0<Nat.gcd n d:=Nat.gcd_pos_of_pos_right _ hd
  have h1:=Nat.div_le_self n (Nat.gcd n d)
  have h2:=Nat.div_le_self d (Nat.gcd n d)
  unfold ref01_Reduce ref01_Reduce_j1 redOf fitOf
  rw [Divisor0 n d hn hd2]
  simp only [Option.bind]
  rw [Divide0 n _ hn hg,Divide0 d _ hd2 hg]
  simp only []
  generalize n / Nat.gcd n d=x at *
  generalize d / Nat.gcd n d=y at *
  rcases bcases ((((decide ((0:Int)<0))||(decide ((0:Int)<0)))||(decide ((1152921504606846976:Int)<(x:Int))))||(decide ((1152921504606846976:Int)<(y:Int)))) with hc | hc <;> rw [hc]
  · simp only [Bool.or_eq_true,decide_eq_true_eq] at hc
    rw [cond_true,if_neg (by omega)]
  · simp only [Bool.or_eq_false_iff,decide_eq_false_iff_not] at hc
    rw [cond_false,if_pos (by omega),wrap64 (n:=(x:Int)) (by omega) (by omega),wrap64 (n:=(y:Int)) (by omega) (by omega)]
    cases neg
    · rfl
    · rw [cond_true,wrap64 (by omega) (by omega)]; simp
theorem NewR_eq (num den:Int) (hn:I64 num) (hd:I64 den):ref01_New num den=some (newOf num den):=by
  unfold ref01_New newOf
  by_cases h:den=0
  · subst h; rfl
  · rw [if_neg h,show (den==0)=false by simpa using h,cond_false,Size_eq num hn,Size_eq den hd]
    simp only [Option.bind]
    obtain ⟨h1,h2⟩:=hn
    obtain ⟨h3,h4⟩:=hd
    rw [Reduce0 _ num.natAbs den.natAbs (by omega) (by omega) (by omega)]
theorem ValidR_eq (a:api_Ratio):ref01_Valid a=some (vR a):=by
  unfold ref01_Valid vR
  rcases bcases ((((decide (a.Den<(1:Int)))||(decide ((1152921504606846976:Int)<a.Den)))||(decide (a.Num<(-1152921504606846976:Int))))||(decide ((1152921504606846976:Int)<a.Num))) with hc | hc <;> rw [hc]
  · simp only [Bool.or_eq_true,decide_eq_true_eq] at hc
    rw [cond_true]
    congr 1
    symm
    rw [decide_eq_false_iff_not]
    omega
  · simp only [Bool.or_eq_false_iff,decide_eq_false_iff_not] at hc
    rw [cond_false,Size_eq a.Num ⟨by omega,by omega⟩,Size_eq a.Den ⟨by omega,by omega⟩]
    simp only [Option.bind]
    rw [Divisor0 _ _ (by omega) (by omega)]
    simp only [beq_self_eq_true,Bool.true_and,Option.some.injEq]
    rw [Bool.eq_iff_iff]
    simp only [beq_iff_eq,decide_eq_true_eq]
    omega
def WR (n:Nat):ref01_Wide:=⟨((n / 18446744073709551616:Nat):Int),((n % 18446744073709551616:Nat):Int)⟩
theorem Product_eq (x y:Nat) (hx:x<18446744073709551616) (hy:y<18446744073709551616):ref01_Product x y=some (WR (x*y)):=by
  unfold ref01_Product
  rw [Mul64_eq x y hx hy]; rfl
theorem Plus_eq (m n:Nat) (h:m+n<340282366920938463463374607431768211456):ref01_Plus (WR m) (WR n)=some (WR (m+n)):=by
  unfold ref01_Plus bits_Add64 WR
  dsimp only
  rw [req_pos (by omega)]
  simp only [Option.bind]
  rw [req_pos (by omega)]
  simp only [Option.some.injEq,ref01_Wide.mk.injEq]
  constructor <;> omega
theorem Minus_eq (m n:Nat) (h:n≤m) (hm:m<340282366920938463463374607431768211456):ref01_Minus (WR m) (WR n)=some (WR (m - n)):=by
  unfold ref01_Minus bits_Sub64 WR
  dsimp only
  rw [req_pos (by omega)]
  simp only [Option.bind]
  by_cases hlt:((m % 18446744073709551616:Nat):Int)<((n % 18446744073709551616:Nat):Int)+0
  · rw [if_pos hlt,req_pos (by omega)]
    simp only [Option.some.injEq,ref01_Wide.mk.injEq]
    constructor <;> omega
  · rw [if_neg hlt,req_pos (by omega)]
    simp only [Option.some.injEq,ref01_Wide.mk.injEq]
    constructor <;> omega
theorem Order_eq (m n:Nat):ref01_Order (WR m) (WR n)=some (cmpI m n):=by
  unfold ref01_Order WR cmpI
  rcases bcases ((decide (((m / 18446744073709551616:Nat):Int)<((n / 18446744073709551616:Nat):Int)))||((((m / 18446744073709551616:Nat):Int)==((n / 18446744073709551616:Nat):Int))&&(decide (((m % 18446744073709551616:Nat):Int)<((n % 18446744073709551616:Nat):Int))))) with hc | hc <;> simp only [hc]
  · simp only [Bool.or_eq_true,Bool.and_eq_true,decide_eq_true_eq,beq_iff_eq] at hc
    rw [cond_true,if_pos (by omega)]
  · simp only [Bool.or_eq_false_iff,Bool.and_eq_false_iff,decide_eq_false_iff_not,beq_eq_false_iff_ne] at hc
    rw [cond_false,if_neg (by omega)]
    rcases bcases ((((m / 18446744073709551616:Nat):Int)==((n / 18446744073709551616:Nat):Int))&&(((m % 18446744073709551616:Nat):Int)==((n % 18446744073709551616:Nat):Int))) with hd | hd <;> simp only [hd]
    · simp only [Bool.and_eq_true,beq_iff_eq] at hd
      rw [cond_true,if_neg (by omega)]
    · simp only [Bool.and_eq_false_iff,beq_eq_false_iff_ne] at hd
      rw [cond_false,if_pos (by omega)]
def sv (neg:Bool) (n:Nat):Int:=if neg=true then -(n:Int) else n
theorem total_eq (x:Bool) (m:Nat) (y:Bool) (n:Nat) (h:m+n<340282366920938463463374607431768211456):∃ s k,ref01_total x (WR m) y (WR n)=some (s,WR k)∧sv s k=sv x m+sv y n∧k≤m+n∧((x=y→s=x)):=by
  unfold ref01_total
  by_cases hxy:x=y
  · subst hxy
    rw [show (x==x)=true by simp,cond_true,Plus_eq m n h]
    exact ⟨x,m+n,rfl,by unfold sv; cases x <;> simp <;> omega,by omega,fun _ => rfl⟩
  · rw [show (x==y)=false by simpa using hxy,cond_false,Order_eq]
    simp only [Option.bind]
    have hy:y=!x:=by cases x <;> cases y <;> simp_all
    subst hy
    by_cases hmn:n≤m
    · rw [show decide ((0:Int)≤cmpI m n)=true by unfold cmpI; rw [if_neg (by omega)]; split <;> simp,cond_true,Minus_eq m n hmn (by omega)]
      exact ⟨x,m - n,rfl,by unfold sv; cases x <;> simp <;> omega,by omega,fun h => absurd h hxy⟩
    · rw [show decide ((0:Int)≤cmpI m n)=false by unfold cmpI; rw [if_pos (by omega)]; simp,cond_false,Minus_eq n m (by omega) (by omega)]
      exact ⟨!x,n - m,rfl,by unfold sv; cases x <;> simp <;> omega,by omega,fun h => absurd h hxy⟩
theorem WR_zero (k:Nat) (hk:k<340282366920938463463374607431768211456):(((WR k).Hi==0)&&((WR k).Lo==0))=decide (k=0):=by
  rw [Bool.eq_iff_iff]
  simp only [WR,Bool.and_eq_true,beq_iff_eq,decide_eq_true_eq]
  omega
theorem mul_lt {a b:Nat} (ha:a≤1152921504606846976) (hb:b≤1152921504606846976):a*b≤1329227995784915872903807060280344576:=Nat.mul_le_mul ha hb
theorem CompareR_eq (a b:api_Ratio):ref01_Compare a b=some (cmpR a b):=by
  unfold ref01_Compare cmpR
  simp only [ValidR_eq,Option.bind,Option.isSome_some,Option.getD_some,implies_true,req_true]
  cases ha:vR a
  · simp
  cases hb:vR b
  · simp
  obtain ⟨a1,a2,a3,a4,_⟩:=(vR_iff a).1 ha
  obtain ⟨b1,b2,b3,b4,_⟩:=(vR_iff b).1 hb
  simp only [Bool.not_true,Bool.or_self,cond_false,and_self,if_true]
  rw [Size_eq a.Num ⟨by omega,by omega⟩,Size_eq b.Den ⟨by omega,by omega⟩,Size_eq b.Num ⟨by omega,by omega⟩,Size_eq a.Den ⟨by omega,by omega⟩]
  simp only []
  rw [Product_eq _ _ (by omega) (by omega)]
  simp only []
  rw [Product_eq _ _ (by omega) (by omega)]
  simp only []
  have m1:=mul_lt (a:=a.Num.natAbs) (b:=b.Den.natAbs) (by omega) (by omega)
  have m2:=mul_lt (a:=b.Num.natAbs) (b:=a.Den.natAbs) (by omega) (by omega)
  obtain ⟨s,k,e,hs,hk,_⟩:=total_eq (decide (a.Num<(0:Int))) (a.Num.natAbs*b.Den.natAbs) (decide ((0:Int)<b.Num)) (b.Num.natAbs*a.Den.natAbs) (by omega)
  rw [e]
  simp only []
  rw [WR_zero k (by omega)]
  have k1:sv (decide (a.Num<(0:Int))) (a.Num.natAbs*b.Den.natAbs)=a.Num*b.Den:=by
    unfold sv
    rw [Int.natCast_mul,show ((b.Den.natAbs:Nat):Int)=b.Den by omega]
    by_cases h:a.Num<0
    · simp only [h,decide_true,if_true]; rw [← Int.neg_mul]; congr 1; omega
    · simp only [h,decide_false,Bool.false_eq_true,if_false]; congr 1; omega
  have k2:sv (decide ((0:Int)<b.Num)) (b.Num.natAbs*a.Den.natAbs)=-(b.Num*a.Den):=by
    unfold sv
    rw [Int.natCast_mul,show ((a.Den.natAbs:Nat):Int)=a.Den by omega]
    by_cases h:0<b.Num
    · simp only [h,decide_true,if_true]; congr 2; omega
    · simp only [h,decide_false,Bool.false_eq_true,if_false]; rw [← Int.neg_mul]; congr 1; omega
  rw [k1,k2] at hs
  generalize a.Num*b.Den=p at *
  generalize b.Num*a.Den=q at *
  unfold sv at hs
  unfold cmpI
  by_cases hk0:k=0
  · rw [show decide (k=0)=true by simp [hk0],cond_true]
    have:p=q:=by subst hk0; cases s <;> simp at hs <;> omega
    rw [if_neg (by omega),if_neg (by omega)]
  · rw [show decide (k=0)=false by simp [hk0],cond_false]
    cases s
    · simp at hs
      rw [cond_false,if_neg (by omega),if_pos (by omega)]
    · simp at hs
      rw [cond_true,if_pos (by omega)]
theorem LessR_eq (a b:api_Ratio):ref01_Less a b=some (decide (cmpR a b<0)):=by
  unfold ref01_Less; rw [CompareR_eq]; rfl
theorem redOf_val (neg:Bool) (n d:Nat) (hd:0<d) (r:api_Ratio) (h:redOf neg n d=(r,0)):vR r=true∧r.Num*d=sv neg n*r.Den∧(0<r.Den):=by
  have hg:0<Nat.gcd n d:=Nat.gcd_pos_of_pos_right _ hd
  obtain ⟨x,hx⟩:=Nat.gcd_dvd_left n d
  obtain ⟨y,hy⟩:=Nat.gcd_dvd_right n d
  have hx':n / Nat.gcd n d=x:=by
    conv => lhs; lhs; rw [hx]
    exact Nat.mul_div_cancel_left x hg
  have hy':d / Nat.gcd n d=y:=by
    conv => lhs; lhs; rw [hy]
    exact Nat.mul_div_cancel_left y hg
  have hcop:Nat.gcd x y=1:=by rw [← hx',← hy']; exact Nat.gcd_div_gcd_div_gcd_of_pos_right hd
  have hy0:0<y:=by
    rcases Nat.eq_zero_or_pos y with h0 | h0
    · rw [h0,Nat.mul_zero] at hy; omega
    · exact h0
  unfold redOf fitOf at h
  rw [hx',hy'] at h
  split at h
  · rename_i hle
    obtain ⟨rfl⟩:=Prod.mk.inj h
    refine ⟨?_,?_,by show (0:Int)<(y:Int); omega⟩
    · rw [vR_iff]
      refine ⟨by show (1:Int)≤(y:Int); omega,by show (y:Int)≤_; omega,?_,?_,?_⟩
      · show _≤(if neg=true then -(x:Int) else x); split <;> omega
      · show (if neg=true then -(x:Int) else x)≤_; split <;> omega
      · show Nat.gcd (if neg=true then -(x:Int) else x).natAbs ((y:Int)).natAbs=1
        cases neg <;> simp [hcop]
    · show (if neg=true then -(x:Int) else x)*(d:Int)=sv neg n*(y:Int)
      unfold sv
      have e:(x:Int)*(d:Int)=(n:Int)*(y:Int):=by
        rw [← Int.natCast_mul,← Int.natCast_mul]
        congr 1
        calc x*d=x*(Nat.gcd n d*y):=by rw [← hy]
          _=Nat.gcd n d*x*y:=by rw [Nat.mul_left_comm,Nat.mul_assoc]
          _=n*y:=by rw [← hx]
      cases neg
      · simpa using e
      · simp only [if_true,Int.neg_mul,e]
  · cases h
theorem some_bind {α β:Type} (x:α) (f:α→Option β):(some x).bind f=f x:=rfl
theorem Less_eq (a b:api_Ratio):ratio_Less a b=some (cmpR a b==-1):=by
  unfold ratio_Less; rw [Compare_eq]; rfl
theorem cmpR_vals (a b:api_Ratio):cmpR a b=-1 ∨ cmpR a b=0 ∨ cmpR a b=1:=by
  unfold cmpR cmpI; (repeat' split) <;> simp
theorem less_same (a b:api_Ratio):(cmpR a b==-1)=decide (cmpR a b<0):=by
  rcases cmpR_vals a b with h | h | h <;> rw [h] <;> rfl
theorem div_is {n d q r:Int} (hd:0<d) (h:n=d*q+r) (h0:0≤r) (h1:r<d):n / d=q∧n % d=r :=
  (Int.ediv_emod_unique hd).2 ⟨by rw [h]; omega,h0,h1⟩
theorem quot_neg (n d:Int) (hd:0<d) (h:Int.tmod n d<0):Int.tdiv n d - 1=n / d∧Int.tmod n d+d=n % d:=by
  have e:d*Int.tdiv n d+Int.tmod n d=n:=Int.mul_tdiv_add_tmod n d
  have h4:-d<n.tmod d:=Int.lt_tmod_of_pos n hd
  have h2:=div_is (n:=n) (d:=d) (q:=Int.tdiv n d - 1) (r:=Int.tmod n d+d) hd (by rw [Int.mul_sub]; omega) (by omega) (by omega)
  exact ⟨h2.1.symm,h2.2.symm⟩
theorem quot_pos (n d:Int) (hd:0<d) (h:¬ Int.tmod n d<0):Int.tdiv n d=n / d∧Int.tmod n d=n % d:=by
  have e:d*Int.tdiv n d+Int.tmod n d=n:=Int.mul_tdiv_add_tmod n d
  have h4:=Int.tmod_lt_of_pos n hd
  have h2:=div_is (n:=n) (d:=d) (q:=Int.tdiv n d) (r:=Int.tmod n d) hd (by omega) (by omega) h4
  exact ⟨h2.1.symm,h2.2.symm⟩
theorem div_between (n d M:Int) (hd:0<d) (h1:-M≤n) (h2:n≤M) (hM:0≤M):-M≤n / d∧n / d≤M:=by
  constructor
  · rw [Int.le_ediv_iff_mul_le hd]
    have:M*1≤M*d:=Int.mul_le_mul_of_nonneg_left (by omega) hM
    rw [Int.neg_mul]; omega
  · have:=Int.ediv_le_ediv hd h2
    have h3:M / d≤M:=Int.ediv_le_self _ hM
    omega
def flR (a:api_Ratio):Int:=a.Num / a.Den
def rsR (a:api_Ratio):Int:=a.Num % a.Den
structure Vd (a:api_Ratio):Prop where
  d0:1≤a.Den
  d1:a.Den≤1152921504606846976
  n0:-1152921504606846976≤a.Num
  n1:a.Num≤1152921504606846976
theorem vd_of {a:api_Ratio} (h:vR a=true):Vd a:=by
  obtain ⟨h1,h2,h3,h4,_⟩:=(vR_iff a).1 h
  exact ⟨h1,h2,h3,h4⟩
theorem Vd.fl {a:api_Ratio} (h:Vd a):-1152921504606846976≤flR a∧flR a≤1152921504606846976:=div_between _ _ _ (by have:=h.d0; omega) h.n0 h.n1 (by decide)
theorem Vd.rs {a:api_Ratio} (h:Vd a):0≤rsR a∧rsR a<a.Den:=⟨Int.emod_nonneg _ (by have:=h.d0; omega),Int.emod_lt_of_pos _ (by have:=h.d0; omega)⟩
theorem Vd.eq {a:api_Ratio} (h:Vd a):a.Num=a.Den*flR a+rsR a:=(Int.mul_ediv_add_emod a.Num a.Den).symm
theorem rounded_core {a:api_Ratio} (h:Vd a) (f:Int→Int→Option Int) :
    (req (a.Den ≠ 0) <| bif (decide ((Int.tmod a.Num a.Den)<(0:Int))) then
      bindV (IntKind.i64.wrap ((IntKind.i64.wrap (Int.tdiv a.Num a.Den)) - (1:Int))) fun floor1 => f floor1 (IntKind.i64.wrap ((Int.tmod a.Num a.Den)+a.Den))
    else f (IntKind.i64.wrap (Int.tdiv a.Num a.Den)) (Int.tmod a.Num a.Den))=f (flR a) (rsR a):=by
  have hd:0<a.Den:=by have:=h.d0; omega
  have hf:=h.fl
  have hr:=h.rs
  have hd1:=h.d1
  rw [req_pos (by omega)]
  rcases bcases (decide ((Int.tmod a.Num a.Den)<(0:Int))) with hc | hc <;> rw [hc]
  · have hc':Int.tmod a.Num a.Den<0:=by simpa using hc
    obtain ⟨e1,e2⟩:=quot_neg a.Num a.Den hd hc'
    rw [cond_true,bindV,wrap64 (n:=Int.tdiv a.Num a.Den) (by unfold flR at hf; omega) (by unfold flR at hf; omega),e1,e2,wrap64 (n:=a.Num / a.Den) (by unfold flR at hf; omega) (by unfold flR at hf; omega),wrap64 (by unfold rsR at hr; omega) (by unfold rsR at hr; omega)]
    rfl
  · have hc':¬ Int.tmod a.Num a.Den<0:=by simpa using hc
    obtain ⟨e1,e2⟩:=quot_pos a.Num a.Den hd hc'
    rw [cond_false,e1,e2,wrap64 (n:=a.Num / a.Den) (by unfold flR at hf; omega) (by unfold flR at hf; omega)]
    rfl
def up (b:Bool):Int:=if b=true then 1 else 0
def roundR (a:api_Ratio):Int:=flR a+up (decide (a.Den≤2*rsR a))
theorem Round_eq (a:api_Ratio):ratio_Round a=some (if vR a=true then roundR a else 0):=by
  unfold ratio_Round ratio_rounded_ratio_toRound
  rw [Valid_eq]
  cases hv:vR a with
  | false => rfl
  | true =>
    simp only [Option.bind,Bool.not_true,cond_false]
    rw [rounded_core (vd_of hv) (ratio_rounded_ratio_toRound_j1 a)]
    have hf:=(vd_of hv).fl
    have hr:=(vd_of hv).rs
    have hd:=(vd_of hv).d1
    unfold ratio_rounded_ratio_toRound_j1 ratio_toRound roundR up
    rw [wrap64 (n:=a.Den - rsR a) (by omega) (by omega),show decide (a.Den - rsR a≤rsR a)=decide (a.Den≤2*rsR a) by rw [Bool.eq_iff_iff]; simp; omega]
    rcases bcases (decide (a.Den≤2*rsR a)) with hc | hc <;> rw [hc]
    · simp [wrap64 (n:=flR a+1) (by omega) (by omega)]
    · simp
theorem floor_eq (n d:Int) (hd:0<d) (h1:-4611686018427387904≤n) (h2:n≤4611686018427387904):ref01_floor n d=some (n / d):=by
  obtain ⟨b1,b2⟩:=div_between n d 4611686018427387904 hd h1 h2 (by decide)
  unfold ref01_floor ref01_floor_j1
  rw [req_pos (by omega),req_pos (by omega)]
  rcases bcases (decide ((Int.tmod n d)<(0:Int))) with hc | hc <;> rw [hc]
  · have hc':Int.tmod n d<0:=by simpa using hc
    obtain ⟨e1,e2⟩:=quot_neg n d hd hc'
    rw [cond_true,wrap64 (n:=Int.tdiv n d) (by omega) (by omega),e1,wrap64 (by omega) (by omega)]
  · have hc':¬ Int.tmod n d<0:=by simpa using hc
    obtain ⟨e1,e2⟩:=quot_pos n d hd hc'
    rw [cond_false,e1,wrap64 (by omega) (by omega)]
theorem RoundR_eq (a:api_Ratio):ref01_Round a=some (if vR a=true then roundR a else 0):=by
  unfold ref01_Round
  rw [ValidR_eq]
  cases hv:vR a with
  | false => rfl
  | true =>
    have h:=vd_of hv
    have h0:=h.d0; have:=h.d1; have:=h.n0; have:=h.n1; have hr:=h.rs; have hf:=h.fl
    simp only [Option.bind,Bool.not_true,cond_false]
    rw [wrap64 (n:=2*a.Num) (by omega) (by omega),wrap64 (n:=2*a.Den) (by omega) (by omega),wrap64 (n:=2*a.Num+a.Den) (by omega) (by omega),floor_eq _ _ (by omega) (by omega) (by omega)]
    simp only [if_true]
    have e:=h.eq
    have e2:2*a.Den*flR a=2*(a.Den*flR a):=Int.mul_assoc ..
    have e3:2*a.Den*(flR a+1)=2*(a.Den*flR a)+2*a.Den:=by rw [Int.mul_add,e2]; omega
    unfold roundR up
    by_cases hz:a.Den≤2*rsR a
    · rw [(div_is (n:=2*a.Num+a.Den) (d:=2*a.Den) (q:=flR a+1) (r:=2*rsR a - a.Den) (by omega) (by omega) (by omega) (by omega)).1]; simp [hz]
    · rw [(div_is (n:=2*a.Num+a.Den) (d:=2*a.Den) (q:=flR a) (r:=2*rsR a+a.Den) (by omega) (by omega) (by omega) (by omega)).1]; simp [hz]
theorem shrN (x j:Nat) (hj:j≤64):bShr .u64 (x:Int) (j:Int)=((x / 2 ^ j:Nat):Int):=by
  unfold bShr
  rw [show min (Int.toNat (j:Int)) (IntKind.bits .u64)=j by simp only [Int.toNat_natCast,IntKind.bits]; omega,Int.fdiv_eq_ediv_of_nonneg _ (by exact_mod_cast Nat.zero_le _)]
  norm_cast
theorem shlN (x j:Nat) (hj:j≤64):bShl .u64 (x:Int) (j:Int)=((x*2 ^ j % 18446744073709551616:Nat):Int):=by
  unfold bShl
  rw [show min (Int.toNat (j:Int)) (IntKind.bits .u64)=j by simp only [Int.toNat_natCast,IntKind.bits]; omega,wrapU,Int.natCast_emod,Int.natCast_mul,Int.natCast_pow]
  rfl
theorem ofU (x:Nat) (hx:x<18446744073709551616):(BitVec.ofInt (IntKind.bits .u64) (x:Int)).toNat=x:=by simp only [IntKind.bits,BitVec.toNat_ofInt]; omega
theorem and1 (x:Nat) (hx:x<18446744073709551616):bAnd .u64 (x:Int) 1=((x % 2:Nat):Int):=by
  unfold bAnd
  have e2:(BitVec.ofInt (IntKind.bits .u64) (1:Int)).toNat=2 ^ 1 - 1:=by decide
  rw [BitVec.toNat_and,ofU x hx,e2,Nat.and_two_pow_sub_one_eq_mod,wrapU_id (by omega) (by omega)]
theorem or_even (y b:Nat) (hy:2*y+b<18446744073709551616) (hb:b≤1):bOr .u64 ((2*y:Nat):Int) (b:Int)=((2*y+b:Nat):Int):=by
  unfold bOr
  have:=Nat.two_pow_add_eq_or_of_lt (i:=1) (b:=b) (by omega) y
  rw [Nat.pow_one] at this
  rw [BitVec.toNat_or,ofU _ (by omega),ofU _ (by omega),← this,wrapU_id (by omega) (by omega)]
theorem Twice_eq (r:Nat) (h:r<340282366920938463463374607431768211456):ref01_Twice (WR r)=some (WR (2*r % 340282366920938463463374607431768211456)):=by
  unfold ref01_Twice WR
  dsimp only
  rw [show (1:Int)=((1:Nat):Int) by rfl,show (63:Int)=((63:Nat):Int) by rfl,shlN _ 1 (by omega),shlN _ 1 (by omega),shrN _ 63 (by omega),
    show (r / 18446744073709551616*2 ^ 1 % 18446744073709551616)=2*(r / 18446744073709551616 % 9223372036854775808) by omega,or_even _ _ (by omega) (by omega)]
  simp only [Option.some.injEq,ref01_Wide.mk.injEq]
  constructor <;> omega
theorem Minus_mod (m n:Nat) (hm:m<340282366920938463463374607431768211456) (hn:n<340282366920938463463374607431768211456) :
    ref01_Minus (WR m) (WR n)=some (WR ((m+340282366920938463463374607431768211456 - n) % 340282366920938463463374607431768211456)):=by
  unfold ref01_Minus bits_Sub64 WR
  dsimp only
  rw [req_pos (by omega)]
  simp only [Option.bind]
  by_cases hlt:((m % 18446744073709551616:Nat):Int)<((n % 18446744073709551616:Nat):Int)+0
  · rw [if_pos hlt,req_pos (by omega)]
    simp only [Option.some.injEq,ref01_Wide.mk.injEq]
    constructor <;> omega
  · rw [if_neg hlt,req_pos (by omega)]
    simp only [Option.some.injEq,ref01_Wide.mk.injEq]
    constructor <;> omega
theorem bit_lo (a i:Nat) (hi:i<64):a % 18446744073709551616 / 2 ^ i % 2=a / 2 ^ i % 2:=by
  have h1:(18446744073709551616:Nat)=2 ^ i*(2*2 ^ (63 - i)):=by
    rw [← Nat.pow_succ',← Nat.pow_add,show i+(63 - i).succ=64 by omega]
  have h2:=Nat.div_add_mod a 18446744073709551616
  have h3:a / 2 ^ i=2*(2 ^ (63 - i)*(a / 18446744073709551616))+a % 18446744073709551616 / 2 ^ i:=by
    conv => lhs; rw [← h2]
    conv => lhs; arg 1; arg 1; arg 1; rw [h1]
    rw [Nat.mul_assoc,Nat.mul_add_div (Nat.two_pow_pos i),Nat.mul_assoc]
  omega
theorem bit_hi (a i:Nat) (hi:64≤i):a / 18446744073709551616 / 2 ^ (i - 64)=a / 2 ^ i:=by
  rw [Nat.div_div_eq_div_mul,show (18446744073709551616:Nat)=2 ^ 64 by decide,← Nat.pow_add,show 64+(i - 64)=i by omega]
abbrev hiW (n:Nat):Int:=((n / 18446744073709551616:Nat):Int)
abbrev loW (n:Nat):Int:=((n % 18446744073709551616:Nat):Int)
theorem round_eq (b q r bit:Nat) (i:Int) (hb:b<340282366920938463463374607431768211456) (hr:r<b) (hq:2*q+1<340282366920938463463374607431768211456) (hbit:bit≤1) :
    ref01_Divide_j3 (WR b) i (hiW q) (loW q) (hiW r) (loW r) bit=(if b≤2*r+bit then ref01_Divide_j2 i (hiW (2*q+1)) (loW (2*q+1)) (hiW (2*r+bit - b)) (loW (2*r+bit - b))
      else ref01_Divide_j2 i (hiW (2*q)) (loW (2*q)) (hiW (2*r+bit)) (loW (2*r+bit))):=by
  unfold ref01_Divide_j3
  have t1:=Twice_eq r (by omega)
  have t2:=Twice_eq q (by omega)
  have u1:(⟨hiW r,loW r⟩:ref01_Wide)=WR r:=rfl
  have u2:(⟨hiW q,loW q⟩:ref01_Wide)=WR q:=rfl
  rw [u1,u2,t1,t2]
  simp only [Option.bind]
  have eq1:2*q % 340282366920938463463374607431768211456=2*q:=by omega
  rw [eq1]
  have e1:bOr .u64 (WR (2*r % 340282366920938463463374607431768211456)).Lo (bit:Int)=loW (2*r % 340282366920938463463374607431768211456+bit):=by
    show bOr .u64 ((2*r % 340282366920938463463374607431768211456 % 18446744073709551616:Nat):Int) (bit:Int)=_
    rw [show 2*r % 340282366920938463463374607431768211456 % 18446744073709551616=2*(r % 9223372036854775808) by omega,or_even _ _ (by omega) hbit]
    simp only [loW]; omega
  have e2:(WR (2*r % 340282366920938463463374607431768211456)).Hi=hiW (2*r % 340282366920938463463374607431768211456+bit):=by
    simp only [WR,hiW]; omega
  have e3:bOr .u64 (WR (2*q)).Lo 1=loW (2*q+1):=by
    show bOr .u64 ((2*q % 18446744073709551616:Nat):Int) ((1:Nat):Int)=_
    rw [show 2*q % 18446744073709551616=2*(q % 9223372036854775808) by omega,or_even _ _ (by omega) (by omega)]
    simp only [loW]; omega
  have e4:(WR (2*q)).Hi=hiW (2*q+1):=by simp only [WR,hiW]; omega
  rw [e1,e2,e3]
  have u3:(⟨hiW (2*r % 340282366920938463463374607431768211456+bit),loW (2*r % 340282366920938463463374607431768211456+bit)⟩:ref01_Wide)=WR (2*r % 340282366920938463463374607431768211456+bit):=rfl
  rw [u3,Order_eq,req_pos (by intro _; rfl)]
  have e5:(bShr .u64 (hiW r) 63==1)=decide (170141183460469231731687303715884105728≤r):=by
    rw [show (63:Int)=((63:Nat):Int) by rfl]
    simp only [hiW]
    rw [shrN _ 63 (by omega),Bool.eq_iff_iff]
    simp only [beq_iff_eq,decide_eq_true_eq]
    omega
  rw [e5]
  simp only [Option.getD_some]
  by_cases hc:b≤2*r+bit
  · rw [if_pos hc]
    have e6:(decide (170141183460469231731687303715884105728≤r)||decide (0≤cmpI ((2*r % 340282366920938463463374607431768211456+bit:Nat):Int) (b:Int)))=true:=by
      simp only [Bool.or_eq_true,decide_eq_true_eq]
      by_cases h1:170141183460469231731687303715884105728≤r
      · exact .inl h1
      · right
        unfold cmpI
        rw [if_neg (by omega)]
        split <;> decide
    rw [e6,cond_true,Minus_mod _ _ (by omega) hb]
    simp only
    rw [e4]
    rw [show (2*r % 340282366920938463463374607431768211456+bit+340282366920938463463374607431768211456 - b) % 340282366920938463463374607431768211456=2*r+bit - b by omega]
    rfl
  · rw [if_neg hc]
    have e6:(decide (170141183460469231731687303715884105728≤r)||decide (0≤cmpI ((2*r % 340282366920938463463374607431768211456+bit:Nat):Int) (b:Int)))=false:=by
      simp only [Bool.or_eq_false_iff,decide_eq_false_iff_not]
      refine ⟨by omega,?_⟩
      unfold cmpI
      rw [if_pos (by omega)]; decide
    rw [e6,cond_false,show 2*r % 340282366920938463463374607431768211456+bit=2*r+bit by omega]
    rfl
theorem step_div (A b bit:Nat) (hb:0<b) (hbit:bit≤1):(if b≤2*(A % b)+bit then (2*(A / b)+1,2*(A % b)+bit - b) else (2*(A / b),2*(A % b)+bit))=((2*A+bit) / b,(2*A+bit) % b):=by
  have h1:=Nat.div_add_mod A b
  have h2:=Nat.mod_lt A hb
  split
  · rename_i hc
    have:=(Nat.div_mod_unique (a:=2*A+bit) (b:=b) (c:=2*(A % b)+bit - b) (d:=2*(A / b)+1) hb).2 ⟨by rw [Nat.mul_add,Nat.mul_left_comm]; omega,by omega⟩
    rw [this.1,this.2]
  · rename_i hc
    have:=(Nat.div_mod_unique (a:=2*A+bit) (b:=b) (c:=2*(A % b)+bit) (d:=2*(A / b)) hb).2 ⟨by rw [Nat.mul_left_comm]; omega,by omega⟩
    rw [this.1,this.2]
theorem loop_eq (a b:Nat) (ha:a<340282366920938463463374607431768211456) (hb0:0<b) (hb:b<340282366920938463463374607431768211456):∀ k:Nat,k≤128 →
    iter (ref01_Divide_l4 (WR a) (WR b)) ((k:Int) - 1,hiW (a / 2 ^ k / b),loW (a / 2 ^ k / b),hiW (a / 2 ^ k % b),loW (a / 2 ^ k % b))=some (hiW (a / b),loW (a / b),hiW (a % b),loW (a % b)):=by
  intro k
  induction k with
  | zero =>
    intro _
    refine iter_inr ?_
    simp [ref01_Divide_l4]
  | succ k ih =>
    intro hk
    have hA:a / 2 ^ k=2*(a / 2 ^ (k+1))+a / 2 ^ k % 2:=by
      rw [Nat.pow_succ,← Nat.div_div_eq_div_mul]; omega
    have hq:2*(a / 2 ^ (k+1) / b)+1<340282366920938463463374607431768211456:=by
      have h1:a / 2 ^ (k+1)≤a / 2:=by
        rw [Nat.pow_succ',← Nat.div_div_eq_div_mul]; exact Nat.div_le_self _ _
      have h2:=Nat.div_le_self (a / 2 ^ (k+1)) b
      omega
    have hr:=Nat.mod_lt (a / 2 ^ (k+1)) hb0
    have hs:ref01_Divide_l4 (WR a) (WR b) (((k+1:Nat):Int) - 1,hiW (a / 2 ^ (k+1) / b),loW (a / 2 ^ (k+1) / b),hiW (a / 2 ^ (k+1) % b),loW (a / 2 ^ (k+1) % b))
       =some (.inl ((k:Int) - 1,hiW (a / 2 ^ k / b),loW (a / 2 ^ k / b),hiW (a / 2 ^ k % b),loW (a / 2 ^ k % b))):=by
      simp only [ref01_Divide_l4]
      have ek:(((k+1:Nat):Int) - 1)=(k:Int):=by omega
      rw [ek,show decide ((0:Int)≤(k:Int))=true by simp,cond_true,show (64:Int)=((64:Nat):Int) by rfl,tmod_nat,wrapU_nat _ (by omega),req_pos (by omega)]
      have fin:∀ bit:Nat,bit=a / 2 ^ k % 2→ref01_Divide_j3 (WR b) (k:Int) (hiW (a / 2 ^ (k+1) / b)) (loW (a / 2 ^ (k+1) / b)) (hiW (a / 2 ^ (k+1) % b)) (loW (a / 2 ^ (k+1) % b)) (bit:Int)=some (.inl ((k:Int) - 1,hiW (a / 2 ^ k / b),loW (a / 2 ^ k / b),hiW (a / 2 ^ k % b),loW (a / 2 ^ k % b))):=by
        rintro bit rfl
        rw [round_eq b _ _ _ _ hb hr hq (by omega)]
        have hst:=step_div (a / 2 ^ (k+1)) b (a / 2 ^ k % 2) hb0 (by omega)
        rw [← hA] at hst
        unfold ref01_Divide_j2
        rw [wrap64 (n:=(k:Int) - 1) (by omega) (by omega)]
        split at hst
        · rename_i hc
          rw [if_pos hc]
          have:=Prod.mk.inj hst
          rw [this.1,this.2]
        · rename_i hc
          rw [if_neg hc]
          have:=Prod.mk.inj hst
          rw [this.1,this.2]
      unfold bindV
      dsimp only
      by_cases h64:64≤k
      · rw [show decide (((64:Nat):Int)≤(k:Int))=true by simp only [decide_eq_true_eq]; omega,cond_true,wrap64 (n:=(k:Int) - ((64:Nat):Int)) (by omega) (by omega),show (k:Int) - ((64:Nat):Int)=((k - 64:Nat):Int) by omega,wrapU_nat _ (by omega),req_pos (by omega)]
        rw [show (WR a).Hi=((a / 18446744073709551616:Nat):Int) by rfl,shrN _ _ (by omega),and1 _ (Nat.lt_of_le_of_lt (Nat.div_le_self _ _) (by omega)),bit_hi a k h64]
        exact fin _ rfl
      · rw [show decide (((64:Nat):Int)≤(k:Int))=false by simp only [decide_eq_false_iff_not]; omega,cond_false]
        rw [show (WR a).Lo=((a % 18446744073709551616:Nat):Int) by rfl,show k % 64=k by omega,shrN _ _ (by omega),and1 _ (Nat.lt_of_le_of_lt (Nat.div_le_self _ _) (by omega)),bit_lo a k (by omega)]
        exact fin _ rfl
    rw [iter_inl hs]
    exact ih (by omega)
theorem Divide_eq (a b:Nat) (ha:a<340282366920938463463374607431768211456) (hb0:0<b) (hb:b<340282366920938463463374607431768211456):ref01_Divide (WR a) (WR b)=some (WR (a / b),WR (a % b)):=by
  by_cases hs:a<18446744073709551616∧b<18446744073709551616
  · have:=Divide0 a b hs.1 hb0
    have e:∀ n:Nat,n<18446744073709551616→WR n=⟨0,(n:Int)⟩:=fun n hn => by simp only [WR,ref01_Wide.mk.injEq]; omega
    rw [e a hs.1,e b hs.2,e (a / b) (Nat.lt_of_le_of_lt (Nat.div_le_self _ _) hs.1),e (a % b) (Nat.lt_trans (Nat.mod_lt _ hb0) hs.2)]
    exact this
  · unfold ref01_Divide ref01_Divide_j1
    have hc:(((WR a).Hi==(0:Int))&&((WR b).Hi==(0:Int)))=false:=by
      simp only [WR,Bool.and_eq_false_iff,beq_eq_false_iff_ne]; omega
    rw [hc,cond_false]
    have:=loop_eq a b ha hb0 hb 128 (by omega)
    have h0:a / 2 ^ 128=0:=Nat.div_eq_of_lt (by simpa using ha)
    rw [h0,Nat.zero_div,Nat.zero_mod] at this
    have e:((((128:Nat):Int) - 1,hiW 0,loW 0,hiW 0,loW 0):Int × Int × Int × Int × Int)=((127:Int),(0:Int),(0:Int),(0:Int),(0:Int)):=by rfl
    rw [e] at this
    rw [this]; rfl
theorem Divisor_eq (a b:Nat) (ha:a<340282366920938463463374607431768211456) (hb:b<340282366920938463463374607431768211456):ref01_Divisor (WR a) (WR b)=some (WR (Nat.gcd a b)):=by
  have key:∀ n m:Nat,m<340282366920938463463374607431768211456→n<340282366920938463463374607431768211456→iter ref01_Divisor_l2 (hiW m,loW m,hiW n,loW n)=some (hiW (Nat.gcd m n),loW (Nat.gcd m n)):=by
    intro n
    induction n using Nat.strongRecOn with
    | _ n ih =>
      intro m hm hn'
      by_cases hn:n=0
      · subst hn
        refine iter_inr ?_
        simp [ref01_Divisor_l2]
      · have hs:ref01_Divisor_l2 (hiW m,loW m,hiW n,loW n)=some (.inl (hiW n,loW n,hiW (m % n),loW (m % n))):=by
          simp only [ref01_Divisor_l2]
          rw [show (!((hiW n==0)&&(loW n==0)))=true by
            simp only [hiW,loW,Bool.not_eq_true',Bool.and_eq_false_iff,beq_eq_false_iff_ne]; omega,cond_true]
          rw [show (⟨hiW m,loW m⟩:ref01_Wide)=WR m by rfl,show (⟨hiW n,loW n⟩:ref01_Wide)=WR n by rfl,Divide_eq m n hm (by omega) hn']
          rfl
        have hlt:=Nat.mod_lt m (show 0<n by omega)
        rw [iter_inl hs,ih (m % n) hlt n hn' (by omega)]
        rw [Nat.gcd_comm m n,Nat.gcd_rec n m,Nat.gcd_comm]
  unfold ref01_Divisor ref01_Divisor_j1
  have:=key b a ha hb
  rw [show ((WR a).Hi,(WR a).Lo,(WR b).Hi,(WR b).Lo)=(hiW a,loW a,hiW b,loW b) by rfl,this]; rfl
theorem redTail (neg:Bool) (x y:Nat) :
    (bif ((((decide ((0:Int)<(WR x).Hi))||(decide ((0:Int)<(WR y).Hi)))||(decide ((1152921504606846976:Int)<(WR x).Lo)))||(decide ((1152921504606846976:Int)<(WR y).Lo))) then
      some ((api_Ratio.mk (0:Int) (0:Int)),(6:Int))
    else
      bif neg then some ((api_Ratio.mk (IntKind.i64.wrap (0 - (IntKind.i64.wrap (WR x).Lo))) (IntKind.i64.wrap (WR y).Lo)),(0:Int))
      else some ((api_Ratio.mk (IntKind.i64.wrap (WR x).Lo) (IntKind.i64.wrap (WR y).Lo)),(0:Int)))=some (fitOf neg x y):=by
  unfold fitOf
  have e1:(WR x).Hi=((x / 18446744073709551616:Nat):Int):=rfl
  have e2:(WR x).Lo=((x % 18446744073709551616:Nat):Int):=rfl
  have e3:(WR y).Hi=((y / 18446744073709551616:Nat):Int):=rfl
  have e4:(WR y).Lo=((y % 18446744073709551616:Nat):Int):=rfl
  rw [e1,e2,e3,e4]
  by_cases hc:x≤1152921504606846976∧y≤1152921504606846976
  · rw [show ((((decide ((0:Int)<((x / 18446744073709551616:Nat):Int)))||(decide ((0:Int)<((y / 18446744073709551616:Nat):Int))))||(decide ((1152921504606846976:Int)<((x % 18446744073709551616:Nat):Int))))||(decide ((1152921504606846976:Int)<((y % 18446744073709551616:Nat):Int))))=false by
      simp only [Bool.or_eq_false_iff,decide_eq_false_iff_not]; omega]
    rw [cond_false,if_pos hc,show x % 18446744073709551616=x by omega,show y % 18446744073709551616=y by omega,wrap64 (n:=(x:Int)) (by omega) (by omega),wrap64 (n:=(y:Int)) (by omega) (by omega)]
    cases neg
    · rfl
    · rw [cond_true,wrap64 (by omega) (by omega)]; simp
  · rw [show ((((decide ((0:Int)<((x / 18446744073709551616:Nat):Int)))||(decide ((0:Int)<((y / 18446744073709551616:Nat):Int))))||(decide ((1152921504606846976:Int)<((x % 18446744073709551616:Nat):Int))))||(decide ((1152921504606846976:Int)<((y % 18446744073709551616:Nat):Int))))=true by
      simp only [Bool.or_eq_true,decide_eq_true_eq]; omega]
    rw [cond_true,if_neg hc]
theorem Reduce_eq (neg:Bool) (n d:Nat) (hn:n<340282366920938463463374607431768211456) (hd:0<d) (hd2:d<340282366920938463463374607431768211456):ref01_Reduce neg (WR n) (WR d)=some (redOf neg n d):=by
  have hg:0<Nat.gcd n d:=Nat.gcd_pos_of_pos_right _ hd
  have hgd:Nat.gcd n d≤d:=Nat.gcd_le_right _ hd
  unfold ref01_Reduce ref01_Reduce_j1 redOf
  rw [Divisor_eq n d hn hd2]
  simp only [Option.bind]
  rw [Divide_eq n _ hn hg (by omega),Divide_eq d _ hd2 hg (by omega)]
  exact redTail neg (n / Nat.gcd n d) (d / Nat.gcd n d)
theorem red_unique (neg:Bool) (n d p q k:Nat) (hk:0<k) (hn:n=p*k) (hd:d=q*k) (hc:Nat.gcd p q=1):redOf neg n d=fitOf neg p q:=by
  unfold redOf
  have hg:Nat.gcd n d=k:=by rw [hn,hd,Nat.gcd_mul_right,hc,Nat.one_mul]
  rw [hg,hn,hd,Nat.mul_div_cancel _ hk,Nat.mul_div_cancel _ hk]
theorem product_eq (x y:Nat) (hx:x<18446744073709551616) (hy:y<18446744073709551616):ratio_product x y=some ⟨hiW (x*y),loW (x*y)⟩:=by
  unfold ratio_product
  rw [Mul64_eq x y hx hy]; rfl
theorem fittedW (neg:Bool) (n d:Nat):ratio_fitted neg ⟨hiW n,loW n⟩ ⟨hiW d,loW d⟩=some (fitOf neg n d):=by
  have h:=fitted_eq neg (n / 18446744073709551616) (n % 18446744073709551616) (d / 18446744073709551616) (d % 18446744073709551616) (by omega) (by omega)
  rw [show n / 18446744073709551616*18446744073709551616+n % 18446744073709551616=n by omega,show d / 18446744073709551616*18446744073709551616+d % 18446744073709551616=d by omega] at h
  exact h
structure VN (a:api_Ratio):Prop where
  i1:I64 a.Num
  i2:I64 a.Den
  n1:a.Num.natAbs≤1152921504606846976
  d0:1≤a.Den.natAbs
  d1:a.Den.natAbs≤1152921504606846976
  de:(a.Den.natAbs:Int)=a.Den
  cop:Nat.gcd a.Num.natAbs a.Den.natAbs=1
theorem vn_of {a:api_Ratio} (h:vR a=true):VN a:=by
  obtain ⟨h1,h2,h3,h4,h5⟩:=(vR_iff a).1 h
  exact ⟨⟨by omega,by omega⟩,⟨by omega,by omega⟩,by omega,by omega,by omega,by omega,h5⟩
theorem wrapU_den {a:api_Ratio} (h:VN a):IntKind.u64.wrap a.Den=(a.Den.natAbs:Int):=by
  have h1:=h.d0; have h2:=h.d1; have h3:=h.de
  rw [wrapU_id (by omega) (by omega)]; omega
def sgn (a b:api_Ratio):Bool:=!((decide (a.Num<(0:Int)))==(decide (b.Num<(0:Int))))
def mulOf (a b:api_Ratio):api_Ratio × Int:=if vR a=true∧vR b=true then redOf (sgn a b) (a.Num.natAbs*b.Num.natAbs) (a.Den.natAbs*b.Den.natAbs) else (⟨0,0⟩,1)
theorem mul_lowest (na nb da db:Nat) (ha:Nat.gcd na da=1) (hb:Nat.gcd nb db=1) (h1:0<da) (h2:0<db) (neg:Bool) :
    redOf neg (na*nb) (da*db)=fitOf neg (na / Nat.gcd na db*(nb / Nat.gcd nb da)) (da / Nat.gcd nb da*(db / Nat.gcd na db)):=by
  have g1:0<Nat.gcd na db:=Nat.gcd_pos_of_pos_right _ h2
  have g2:0<Nat.gcd nb da:=Nat.gcd_pos_of_pos_right _ h1
  have e1:=Nat.div_mul_cancel (Nat.gcd_dvd_left na db)
  have e2:=Nat.div_mul_cancel (Nat.gcd_dvd_right na db)
  have e3:=Nat.div_mul_cancel (Nat.gcd_dvd_left nb da)
  have e4:=Nat.div_mul_cancel (Nat.gcd_dvd_right nb da)
  refine red_unique neg _ _ _ _ (Nat.gcd na db*Nat.gcd nb da) (Nat.mul_pos g1 g2) ?_ ?_ ?_
  · conv => lhs; rw [← e1,← e3]
    simp only [Nat.mul_assoc,Nat.mul_left_comm,Nat.mul_comm]
  · conv => lhs; rw [← e4,← e2]
    simp only [Nat.mul_assoc,Nat.mul_left_comm,Nat.mul_comm]
  · have c1:Nat.Coprime na da:=ha
    have c2:Nat.Coprime nb db:=hb
    have d1:na / Nat.gcd na db ∣ na:=⟨_,e1.symm⟩
    have d2:db / Nat.gcd na db ∣ db:=⟨_,e2.symm⟩
    have d3:nb / Nat.gcd nb da ∣ nb:=⟨_,e3.symm⟩
    have d4:da / Nat.gcd nb da ∣ da:=⟨_,e4.symm⟩
    have k1:Nat.Coprime (na / Nat.gcd na db) (da / Nat.gcd nb da):=(c1.coprime_dvd_left d1).coprime_dvd_right d4
    have k2:Nat.Coprime (na / Nat.gcd na db) (db / Nat.gcd na db):=Nat.coprime_div_gcd_div_gcd g1
    have k3:Nat.Coprime (nb / Nat.gcd nb da) (da / Nat.gcd nb da):=Nat.coprime_div_gcd_div_gcd g2
    have k4:Nat.Coprime (nb / Nat.gcd nb da) (db / Nat.gcd na db):=(c2.coprime_dvd_left d3).coprime_dvd_right d2
    exact Nat.Coprime.mul_left (k1.mul_right k2) (k3.mul_right k4)
theorem Mul_eq (a b:api_Ratio):ratio_Mul a b=some (mulOf a b):=by
  unfold ratio_Mul mulOf
  rw [Valid_eq,Valid_eq]
  simp only [Option.bind]
  rw [req_pos (by intro _; rfl)]
  simp only [Option.getD_some]
  cases ha:vR a with
  | false => simp
  | true =>
    cases hb:vR b with
    | false => simp
    | true =>
      have va:=vn_of ha
      have vb:=vn_of hb
      simp only [Bool.not_true,Bool.or_self,cond_false,and_self,if_true]
      rw [mag_eq _ va.i1,mag_eq _ vb.i1]
      simp only
      rw [wrapU_den va,wrapU_den vb,gcd_eq,gcd_eq]
      simp only
      have g1:0<Nat.gcd a.Num.natAbs b.Den.natAbs:=Nat.gcd_pos_of_pos_right _ vb.d0
      have g2:0<Nat.gcd b.Num.natAbs a.Den.natAbs:=Nat.gcd_pos_of_pos_right _ va.d0
      have n1:=va.n1; have n2:=vb.n1; have d1:=va.d1; have d2:=vb.d1
      have q1:=Nat.div_le_self a.Num.natAbs (Nat.gcd a.Num.natAbs b.Den.natAbs)
      have q2:=Nat.div_le_self b.Num.natAbs (Nat.gcd b.Num.natAbs a.Den.natAbs)
      have q3:=Nat.div_le_self a.Den.natAbs (Nat.gcd b.Num.natAbs a.Den.natAbs)
      have q4:=Nat.div_le_self b.Den.natAbs (Nat.gcd a.Num.natAbs b.Den.natAbs)
      rw [req_pos (by omega)]
      simp only [tdiv_nat]
      rw [wrapU_nat _ (by omega),wrapU_nat _ (by omega),wrapU_nat _ (by omega),wrapU_nat _ (by omega),product_eq _ _ (by omega) (by omega)]
      simp only
      rw [req_pos (by omega),product_eq _ _ (by omega) (by omega)]
      simp only
      rw [fittedW,mul_lowest _ _ _ _ va.cop vb.cop va.d0 vb.d0]
      rfl
theorem MulR_eq (a b:api_Ratio):ref01_Mul a b=some (mulOf a b):=by
  unfold ref01_Mul mulOf
  rw [ValidR_eq,ValidR_eq]
  simp only [Option.bind]
  rw [req_pos (by intro _; rfl)]
  simp only [Option.getD_some]
  cases ha:vR a with
  | false => simp
  | true =>
    cases hb:vR b with
    | false => simp
    | true =>
      have va:=vn_of ha
      have vb:=vn_of hb
      have n1:=va.n1; have n2:=vb.n1; have d1:=va.d1; have d2:=vb.d1
      have m1:=mul_lt n1 n2
      have m2:=mul_lt d1 d2
      simp only [Bool.not_true,Bool.or_self,cond_false,and_self,if_true]
      rw [Size_eq _ va.i1,Size_eq _ vb.i1]
      simp only
      rw [Product_eq _ _ (by omega) (by omega)]
      simp only
      rw [Size_eq _ va.i2,Size_eq _ vb.i2]
      simp only
      rw [Product_eq _ _ (by omega) (by omega)]
      simp only
      rw [Reduce_eq _ _ _ (by omega) (Nat.mul_pos va.d0 vb.d0) (by omega)]
      rfl
def divOf (a b:api_Ratio):api_Ratio × Int:=if vR a=true∧vR b=true then (if b.Num=0 then (⟨0,0⟩,2) else redOf (sgn a b) (a.Num.natAbs*b.Den.natAbs) (a.Den.natAbs*b.Num.natAbs)) else (⟨0,0⟩,1)
theorem Div_eq (a b:api_Ratio):ratio_Div a b=some (divOf a b):=by
  unfold ratio_Div divOf
  rw [Valid_eq,Valid_eq]
  simp only [Option.bind]
  rw [req_pos (by intro _; rfl)]
  simp only [Option.getD_some]
  cases ha:vR a with
  | false => simp
  | true =>
    cases hb:vR b with
    | false => simp
    | true =>
      have va:=vn_of ha
      have vb:=vn_of hb
      have n1:=va.n1; have n2:=vb.n1; have d1:=va.d1; have d2:=vb.d1; have d3:=vb.d0; have d4:=vb.de
      simp only [Bool.not_true,Bool.or_self,cond_false,and_self,if_true]
      by_cases hz:b.Num=0
      · rw [if_pos hz,show (b.Num==0)=true by simpa using hz]; rfl
      · rw [if_neg hz,show (b.Num==0)=false by simpa using hz,cond_false]
        have inv:∀ x y:Int,x.natAbs=b.Den.natAbs→y=(b.Num.natAbs:Int)→(decide (x<0)=decide (b.Num<0))→ratio_Div_j1 a x y=some (redOf (sgn a b) (a.Num.natAbs*b.Den.natAbs) (a.Den.natAbs*b.Num.natAbs)):=by
          intro x y hx hy hs
          unfold ratio_Div_j1
          rw [Mul_eq]
          have hv:vR ⟨x,y⟩=true:=by
            rw [vR_iff]
            refine ⟨by show 1≤y; omega,by show y≤_; omega,by show _≤x; omega,by show x≤_; omega,?_⟩
            show Nat.gcd x.natAbs y.natAbs=1
            rw [hx,hy,Int.natAbs_natCast,Nat.gcd_comm]; exact vb.cop
          unfold mulOf
          rw [if_pos ⟨ha,hv⟩]
          have hs':sgn a ⟨x,y⟩=sgn a b:=by unfold sgn; simp only [hs]
          rw [hs']
          show some (redOf _ (a.Num.natAbs*x.natAbs) (a.Den.natAbs*y.natAbs))=_
          rw [hx,hy,Int.natAbs_natCast]
        rcases bcases (decide (b.Num<0)) with hc | hc <;> rw [hc]
        · have hc':b.Num<0:=by simpa using hc
          rw [cond_true,wrap64 (n:=0 - b.Den) (by omega) (by omega),wrap64 (n:=0 - b.Num) (by omega) (by omega)]
          exact inv _ _ (by omega) (by omega) (by rw [Bool.eq_iff_iff]; simp; omega)
        · have hc':0≤b.Num:=by simpa using hc
          rw [cond_false]
          exact inv _ _ rfl (by omega) (by rw [Bool.eq_iff_iff]; simp; omega)
theorem DivR_eq (a b:api_Ratio):ref01_Div a b=some (divOf a b):=by
  unfold ref01_Div divOf
  rw [ValidR_eq,ValidR_eq]
  simp only [Option.bind]
  rw [req_pos (by intro _; rfl)]
  simp only [Option.getD_some]
  cases ha:vR a with
  | false => simp
  | true =>
    cases hb:vR b with
    | false => simp
    | true =>
      have va:=vn_of ha
      have vb:=vn_of hb
      have n1:=va.n1; have n2:=vb.n1; have d1:=va.d1; have d2:=vb.d1; have d0:=va.d0
      have m1:=mul_lt n1 d2
      have m2:=mul_lt d1 n2
      simp only [Bool.not_true,Bool.or_self,cond_false,and_self,if_true]
      by_cases hz:b.Num=0
      · rw [if_pos hz,show (b.Num==0)=true by simpa using hz]; rfl
      · rw [if_neg hz,show (b.Num==0)=false by simpa using hz,cond_false]
        rw [Size_eq _ va.i1,Size_eq _ vb.i2]
        simp only
        rw [Product_eq _ _ (by omega) (by omega)]
        simp only
        rw [Size_eq _ va.i2,Size_eq _ vb.i1]
        simp only
        rw [Product_eq _ _ (by omega) (by omega)]
        simp only
        rw [Reduce_eq _ _ _ (by omega) (Nat.mul_pos va.d0 (by omega)) (by omega)]
        rfl
def tab8:Str:=((List.append (List.append [0,1,2,2,3,3,3,3,4,4,4,4,4,4,4,4,5,5,5,5,5,5,5,5,5,5,5,5,5,5,5,5,6,6,6,6,6,6,6,6,6,6,6,6,6,6,6,6,6,6,6,6,6,6,6,6,6,6,6,6,6,6,6,6] [7,7,7,7,7,7,7,7,7,7,7,7,7,7,7,7,7,7,7,7,7,7,7,7,7,7,7,7,7,7,7,7,7,7,7,7,7,7,7,7,7,7,7,7,7,7,7,7,7,7,7,7,7,7,7,7,7,7,7,7,7,7,7,7]) (List.append [8,8,8,8,8,8,8,8,8,8,8,8,8,8,8,8,8,8,8,8,8,8,8,8,8,8,8,8,8,8,8,8,8,8,8,8,8,8,8,8,8,8,8,8,8,8,8,8,8,8,8,8,8,8,8,8,8,8,8,8,8,8,8,8] [8,8,8,8,8,8,8,8,8,8,8,8,8,8,8,8,8,8,8,8,8,8,8,8,8,8,8,8,8,8,8,8,8,8,8,8,8,8,8,8,8,8,8,8,8,8,8,8,8,8,8,8,8,8,8,8,8,8,8,8,8,8,8,8])):Str)
theorem tab8_ok:∀ x:_root_.Fin 256,x.val=0 ∨ (1≤(tab8.getD x.val 0).toNat∧(tab8.getD x.val 0).toNat≤8∧2 ^ ((tab8.getD x.val 0).toNat - 1)≤x.val∧x.val<2 ^ (tab8.getD x.val 0).toNat):=by decide +kernel
theorem len1 (y x n:Nat) (hx0:0<x) (hx:x<256) (hn:n≤56) (he:y / 2 ^ n=x):∃ L:Nat,1≤L∧L≤n+8∧bits_Len64_j1 (x:Int) (n:Int)=some (L:Int)∧2 ^ (L - 1)≤y∧y<2 ^ L:=by
  have h:=tab8_ok ⟨x,hx⟩
  simp only at h
  generalize ht:(tab8.getD x 0).toNat=t at h
  rcases h with h | ⟨h1,h2,h3,h4⟩
  · omega
  have ew:IntKind.u8.wrap (x:Int)=(x:Int):=by
    simp only [IntKind.wrap,IntKind.bits,IntKind.signed]; simp; omega
  refine ⟨n+t,by omega,by omega,?_,?_,?_⟩
  · show (req ((0≤IntKind.u8.wrap (x:Int)∧IntKind.u8.wrap (x:Int)<(tab8.length:Int))) <| bindV (IntKind.i64.wrap ((n:Int)+(IntKind.i64.wrap (sx tab8 (IntKind.u8.wrap (x:Int)))))) fun n3 => some n3)=_
    rw [ew,req_pos ⟨by omega,by rw [show tab8.length=256 by decide]; omega⟩]
    have e2:sx tab8 (x:Int)=(t:Int):=by unfold sx; rw [Int.toNat_natCast,ht]
    rw [e2]
    unfold bindV
    rw [wrap64 (n:=(t:Int)) (by omega) (by omega),wrap64 (by omega) (by omega)]
    simp
  · rw [show n+t - 1=(t - 1)+n by omega,Nat.pow_add]
    rw [← he] at h3
    exact (Nat.le_div_iff_mul_le (Nat.two_pow_pos n)).1 h3
  · rw [Nat.add_comm n t,Nat.pow_add]
    rw [← he] at h4
    exact (Nat.div_lt_iff_lt_mul (Nat.two_pow_pos n)).1 h4
theorem shr_lit (x j:Nat) (J:Int) (hJ:J=(j:Int)) (hj:j≤64):bShr .u64 (x:Int) J=((x / 2 ^ j:Nat):Int):=by rw [hJ]; exact shrN x j hj
theorem len2 (y x n:Nat) (hx0:0<x) (hx:x<65536) (hn:n≤48) (he:y / 2 ^ n=x):∃ L:Nat,1≤L∧L≤n+16∧bits_Len64_j2 (x:Int) (n:Int)=some (L:Int)∧2 ^ (L - 1)≤y∧y<2 ^ L:=by
  unfold bits_Len64_j2
  by_cases hc:256≤x
  · rw [show decide ((256:Int)≤(x:Int))=true by simp only [decide_eq_true_eq]; omega,cond_true,shr_lit x 8 8 rfl (by omega),wrap64 (by omega) (by omega),show (n:Int)+8=((n+8:Nat):Int) by omega]
    obtain ⟨L,h1,h2,h3⟩:=len1 y (x / 2 ^ 8) (n+8) (by omega) (by omega) (by omega) (by rw [Nat.pow_add,← Nat.div_div_eq_div_mul,he])
    exact ⟨L,h1,by omega,h3⟩
  · rw [show decide ((256:Int)≤(x:Int))=false by simp only [decide_eq_false_iff_not]; omega,cond_false]
    obtain ⟨L,h1,h2,h3⟩:=len1 y x n hx0 (by omega) (by omega) he
    exact ⟨L,h1,by omega,h3⟩
theorem len3 (y x n:Nat) (hx0:0<x) (hx:x<4294967296) (hn:n≤32) (he:y / 2 ^ n=x):∃ L:Nat,1≤L∧L≤n+32∧bits_Len64_j3 (x:Int) (n:Int)=some (L:Int)∧2 ^ (L - 1)≤y∧y<2 ^ L:=by
  unfold bits_Len64_j3
  by_cases hc:65536≤x
  · rw [show decide ((65536:Int)≤(x:Int))=true by simp only [decide_eq_true_eq]; omega,cond_true,shr_lit x 16 16 rfl (by omega),wrap64 (by omega) (by omega),show (n:Int)+16=((n+16:Nat):Int) by omega]
    obtain ⟨L,h1,h2,h3⟩:=len2 y (x / 2 ^ 16) (n+16) (by omega) (by omega) (by omega) (by rw [Nat.pow_add,← Nat.div_div_eq_div_mul,he])
    exact ⟨L,h1,by omega,h3⟩
  · rw [show decide ((65536:Int)≤(x:Int))=false by simp only [decide_eq_false_iff_not]; omega,cond_false]
    obtain ⟨L,h1,h2,h3⟩:=len2 y x n hx0 (by omega) (by omega) he
    exact ⟨L,h1,by omega,h3⟩
theorem Len64_eq (y:Nat) (h0:0<y) (h:y<18446744073709551616):∃ L:Nat,1≤L∧L≤64∧bits_Len64 (y:Int)=some (L:Int)∧2 ^ (L - 1)≤y∧y<2 ^ L:=by
  unfold bits_Len64
  by_cases hc:4294967296≤y
  · rw [show decide ((4294967296:Int)≤(y:Int))=true by simp only [decide_eq_true_eq]; omega,cond_true,shr_lit y 32 32 rfl (by omega),show (32:Int)=((32:Nat):Int) by rfl]
    exact len3 y (y / 2 ^ 32) 32 (by omega) (by omega) (by omega) rfl
  · rw [show decide ((4294967296:Int)≤(y:Int))=false by simp only [decide_eq_false_iff_not]; omega,cond_false]
    obtain ⟨L,h1,h2,h3⟩:=len3 y y 0 h0 (by omega) (by omega) (by simp)
    exact ⟨L,h1,by omega,h3⟩
theorem Lead_eq (y:Nat) (h0:0<y) (h:y<18446744073709551616):∃ s:Nat,s≤63∧bits_LeadingZeros64 (y:Int)=some (s:Int)∧9223372036854775808≤y*2 ^ s∧y*2 ^ s<18446744073709551616:=by
  obtain ⟨L,h1,h2,h3,h4,h5⟩:=Len64_eq y h0 h
  refine ⟨64 - L,by omega,?_,?_,?_⟩
  · unfold bits_LeadingZeros64
    rw [h3]
    simp only [Option.bind]
    rw [wrap64 (by omega) (by omega),show (64:Int) - (L:Int)=((64 - L:Nat):Int) by omega]
  · have:=Nat.mul_le_mul_right (2 ^ (64 - L)) h4
    rw [← Nat.pow_add,show L - 1+(64 - L)=63 by omega] at this
    simpa using this
  · have:=Nat.mul_lt_mul_of_pos_right h5 (Nat.two_pow_pos (64 - L))
    rw [← Nat.pow_add,show L+(64 - L)=64 by omega] at this
    simpa using this
theorem knuth {σ:Type} {f:σ→Option (σ ⊕ Int)} (en:Nat→Nat→σ) (v1 v0 d u:Nat) (hv1:2147483648≤v1) (hv1':v1<4294967296) (hv0:v0<4294967296) (hd:d<4294967296) (hu:u<v1*4294967296+v0)
    (hf:∀ q r,q≤4294967297→r<4294967296→f (en q r)=some (if 4294967296≤q ∨ 4294967296*r+d<q*v0 then (if 4294967296≤r+v1 then .inr ((q - 1:Nat):Int) else .inl (en (q - 1) (r+v1))) else .inr (q:Int))) :
    ∀ q r,q*v1+r=u→q≤4294967297→r<4294967296→(u*4294967296+d) / (v1*4294967296+v0)≤q→iter f (en q r)=some (((u*4294967296+d) / (v1*4294967296+v0):Nat):Int):=by
  have hy:0<v1*4294967296+v0:=by omega
  have hQ:(u*4294967296+d) / (v1*4294967296+v0)<4294967296:=by
    rw [Nat.div_lt_iff_lt_mul hy]; omega
  -- what a candidate says
  have cand:∀ q r,q*v1+r=u→(q*v0≤4294967296*r+d ↔ q≤(u*4294967296+d) / (v1*4294967296+v0)):=by
    intro q r he
    rw [Nat.le_div_iff_mul_le hy,Nat.mul_add,← Nat.mul_assoc]
    omega
  intro q
  induction q with
  | zero =>
    intro r he hq hr hle
    have h1:=hf 0 r hq hr
    rw [if_neg (by omega)] at h1
    rw [iter_inr h1]
    congr 1
    have:(u*4294967296+d) / (v1*4294967296+v0)=0:=Nat.le_zero.1 hle
    rw [this]
  | succ q ih =>
    intro r he hq hr hle
    have h1:=hf (q+1) r hq hr
    have hc:=cand (q+1) r he
    by_cases hb:4294967296≤q+1 ∨ 4294967296*r+d<(q+1)*v0
    · rw [if_pos hb] at h1
      have hlt:(u*4294967296+d) / (v1*4294967296+v0)≤q:=by
        rcases hb with hb | hb
        · omega
        · have:¬ (q+1≤(u*4294967296+d) / (v1*4294967296+v0)):=fun h => by have:=hc.2 h; omega
          omega
      have he':q*v1+(r+v1)=u:=by rw [Nat.add_mul] at he; omega
      by_cases hs:4294967296≤r+v1
      · rw [if_pos hs] at h1
        rw [iter_inr h1]
        congr 1
        have h2:q*v0≤4294967296*4294967296:=Nat.mul_le_mul (by omega) (by omega)
        have h3:=(cand q (r+v1) he').1 (by omega)
        have:q=(u*4294967296+d) / (v1*4294967296+v0):=by omega
        simp only [Nat.add_sub_cancel]
        rw [← this]
      · rw [if_neg hs] at h1
        rw [iter_inl h1]
        exact ih (r+v1) he' (by omega) (by omega) hlt
    · rw [if_neg hb] at h1
      rw [iter_inr h1]
      congr 1
      have h3:=hc.1 (by omega)
      have:q+1=(u*4294967296+d) / (v1*4294967296+v0):=by omega
      rw [← this]
theorem knuth_first (v1 v0 d u:Nat) (hv1:2147483648≤v1) (hv0:v0<4294967296) (hd:d<4294967296) (hu:u<v1*4294967296+v0) :
    u / v1*v1+u % v1=u∧u / v1≤4294967297∧u % v1<v1∧(u*4294967296+d) / (v1*4294967296+v0)≤u / v1:=by
  have h0:0<v1:=by omega
  refine ⟨by rw [Nat.mul_comm]; exact Nat.div_add_mod u v1,?_,Nat.mod_lt _ h0,?_⟩
  · have:u / v1<4294967298:=by
      rw [Nat.div_lt_iff_lt_mul h0]; omega
    omega
  · have h1:=Nat.div_add_mod u v1
    have h2:=Nat.mod_lt u h0
    have:(u*4294967296+d) / (v1*4294967296+v0)<u / v1+1:=by
      rw [Nat.div_lt_iff_lt_mul (by omega)]
      have e:(u / v1+1)*(v1*4294967296+v0)=(v1*(u / v1))*4294967296+v1*4294967296+(u / v1+1)*v0:=by
        rw [Nat.mul_add,Nat.add_mul,← Nat.mul_assoc,Nat.mul_comm (u / v1) v1]; omega
      omega
    omega
theorem wrap3 (u d P R:Nat) (h:P+R=u*4294967296+d) (hR:R<18446744073709551616):IntKind.u64.wrap (IntKind.u64.wrap (IntKind.u64.wrap ((u:Int)*4294967296)+(d:Int)) - IntKind.u64.wrap (P:Int))=(R:Int):=by
  rw [wrapU,wrapU,wrapU,wrapU]
  omega
theorem wrap2 (q x:Nat) (hq:q<4294967296) (hx:x<4294967296):IntKind.u64.wrap (IntKind.u64.wrap ((q:Int)*4294967296)+(x:Int))=((q*4294967296+x:Nat):Int):=by
  rw [wrapU,wrapU]
  omega
noncomputable def kl4 (Y d:Nat):Int × Int→Option ((Int × Int) ⊕ Int) :=
  fun (q12,rhat4) =>
    bif ((decide ((4294967296:Int)≤q12))||(decide ((IntKind.u64.wrap ((IntKind.u64.wrap ((4294967296:Int)*rhat4))+(d:Int)))<(IntKind.u64.wrap (q12*((Y % 4294967296:Nat):Int)))))) then
      bindV (IntKind.u64.wrap (rhat4+((Y / 4294967296:Nat):Int))) fun rhat5 =>
      bif (decide ((4294967296:Int)≤rhat5)) then
        some (.inr (IntKind.u64.wrap (q12 - (1:Int))))
      else
        some (.inl ((IntKind.u64.wrap (q12 - (1:Int))),rhat5))
    else
      some (.inr q12)
noncomputable def kl2 (Y d:Nat):Int × Int→Option ((Int × Int) ⊕ Int) :=
  fun (rhat2,q02) =>
    bif ((decide ((4294967296:Int)≤q02))||(decide ((IntKind.u64.wrap ((IntKind.u64.wrap ((4294967296:Int)*rhat2))+(d:Int)))<(IntKind.u64.wrap (q02*((Y % 4294967296:Nat):Int)))))) then
      bindV (IntKind.u64.wrap (rhat2+((Y / 4294967296:Nat):Int))) fun rhat3 =>
      bif (decide ((4294967296:Int)≤rhat3)) then
        some (.inr (IntKind.u64.wrap (q02 - (1:Int))))
      else
        some (.inl (rhat3,(IntKind.u64.wrap (q02 - (1:Int)))))
    else
      some (.inr q02)
theorem Div64_eq (hi lo y:Nat) (hh:hi<y) (hl:lo<18446744073709551616) (hy:y<18446744073709551616):bits_Div64 (hi:Int) (lo:Int) (y:Int)=some ((((hi*18446744073709551616+lo) / y:Nat):Int),(((hi*18446744073709551616+lo) % y:Nat):Int)):=by
  have hy0:0<y:=by omega
  by_cases h0:hi=0
  · subst h0
    have:=Div64_0 lo y hl hy0
    simpa using this
  unfold bits_Div64 bits_Div64_j6 bits_Div64_j5
  rw [show ((y:Int)==0)=false by simp; omega,cond_false,show decide ((y:Int)≤(hi:Int))=false by simp only [decide_eq_false_iff_not]; omega,cond_false,show ((hi:Int)==0)=false by simp; omega,cond_false]
  obtain ⟨s,hs,e1,n1,n2⟩:=Lead_eq y hy0 hy
  rw [e1,some_bind]
  rw [wrapU_nat s (by omega),wrapU_id (n:=(64:Int) - (s:Int)) (by omega) (by omega),req_pos (by omega),req_pos (by omega)]
  have hsp:=Nat.two_pow_pos s
  have hB:2 ^ (64 - s)*2 ^ s=18446744073709551616:=by rw [← Nat.pow_add,show 64 - s+s=64 by omega]
  -- the divisor,shifted
  have ey:bShl .u64 (y:Int) (s:Int)=((y*2 ^ s:Nat):Int):=by rw [shlN y s (by omega),Nat.mod_eq_of_lt n2]
  -- the dividend,shifted
  have hhs:hi*2 ^ s+2 ^ s≤y*2 ^ s:=by
    have:=Nat.mul_le_mul_right (2 ^ s) (show hi+1≤y by omega)
    rw [Nat.add_mul,Nat.one_mul] at this; exact this
  have hlo:lo / 2 ^ (64 - s)<2 ^ s:=by
    rw [Nat.div_lt_iff_lt_mul (Nat.two_pow_pos _),Nat.mul_comm,hB]; exact hl
  have eu:bOr .u64 (bShl .u64 (hi:Int) (s:Int)) (bShr .u64 (lo:Int) ((64:Int) - (s:Int)))=((hi*2 ^ s+lo / 2 ^ (64 - s):Nat):Int):=by
    rw [shlN hi s (by omega),Nat.mod_eq_of_lt (by omega),shr_lit lo (64 - s) _ (by omega) (by omega)]
    unfold bOr
    have:=Nat.two_pow_add_eq_or_of_lt (i:=s) (b:=lo / 2 ^ (64 - s)) hlo hi
    rw [Nat.mul_comm _ hi] at this
    rw [BitVec.toNat_or,ofU _ (by omega),ofU _ (by omega),← this,wrapU_id (by omega) (by omega)]
  have el:bShl .u64 (lo:Int) (s:Int)=((lo*2 ^ s % 18446744073709551616:Nat):Int):=shlN lo s (by omega)
  have hU:(hi*18446744073709551616+lo)*2 ^ s=(hi*2 ^ s+lo / 2 ^ (64 - s))*18446744073709551616+lo*2 ^ s % 18446744073709551616:=by
    have h1:lo*2 ^ s / 18446744073709551616=lo / 2 ^ (64 - s):=by
      rw [← hB,Nat.mul_div_mul_right _ _ hsp]
    have h2:=Nat.div_add_mod (lo*2 ^ s) 18446744073709551616
    rw [h1] at h2
    rw [Nat.add_mul,Nat.add_mul,Nat.mul_right_comm]; omega
  have hMy:(hi*18446744073709551616+lo) / y=(hi*18446744073709551616+lo)*2 ^ s / (y*2 ^ s):=(Nat.mul_div_mul_right _ _ hsp).symm
  have hMm:(hi*18446744073709551616+lo) % y=(hi*18446744073709551616+lo)*2 ^ s % (y*2 ^ s) / 2 ^ s:=by
    rw [Nat.mul_mod_mul_right,Nat.mul_div_cancel _ hsp]
  rw [hMy,hMm,hU]
  have hun:hi*2 ^ s+lo / 2 ^ (64 - s)<y*2 ^ s:=by omega
  have hul:lo*2 ^ s % 18446744073709551616<18446744073709551616:=Nat.mod_lt _ (by omega)
  unfold bits_Div64_j3 bits_Div64_j1 bindV
  dsimp only
  have fl4:bits_Div64_l4 (lo:Int) (y:Int) (s:Int)=kl4 (y*2 ^ s) (lo*2 ^ s % 18446744073709551616 / 4294967296):=by
    funext ⟨q,r⟩
    simp only [bits_Div64_l4,kl4]
    rw [wrapU_nat s (by omega),ey,el,shr32,shr32,and32 _ n2]
  have fl2:bits_Div64_l2 (lo:Int) (y:Int) (s:Int)=kl2 (y*2 ^ s) (lo*2 ^ s % 18446744073709551616 % 4294967296):=by
    funext ⟨r,q⟩
    simp only [bits_Div64_l2,kl2]
    rw [wrapU_nat s (by omega),ey,el,shr32,and32 _ n2,and32 _ hul]
  rw [fl4,fl2,req_pos (by omega)]
  simp only [wrapU_nat s (by omega)]
  rw [ey,eu,el]
  simp only [shr32]
  rw [and32 _ hul]
  generalize hYdef:y*2 ^ s=Y at *
  generalize hUdef:hi*2 ^ s+lo / 2 ^ (64 - s)=u at *
  generalize hLdef:lo*2 ^ s % 18446744073709551616=l at *
  have hv1:2147483648≤Y / 4294967296:=by omega
  have hv1':Y / 4294967296<4294967296:=by omega
  have hv0:Y % 4294967296<4294967296:=by omega
  have hYe:Y / 4294967296*4294967296+Y % 4294967296=Y:=by omega
  rw [req_pos (by omega)]
  have step:∀ (d q r:Nat),d<4294967296→q≤4294967297→r<4294967296 →
      (((decide ((4294967296:Int)≤(q:Int)))||(decide ((IntKind.u64.wrap ((IntKind.u64.wrap ((4294967296:Int)*(r:Int)))+(d:Int)))<(IntKind.u64.wrap ((q:Int)*((Y % 4294967296:Nat):Int))))))=decide (4294967296≤q ∨ 4294967296*r+d<q*(Y % 4294967296)))∧IntKind.u64.wrap ((r:Int)+((Y / 4294967296:Nat):Int))=((r+Y / 4294967296:Nat):Int):=by
    intro d q r hd hq hr
    have hm:q*(Y % 4294967296)≤4294967297*4294967295:=Nat.mul_le_mul hq (by omega)
    have e1:(q:Int)*((Y % 4294967296:Nat):Int)=((q*(Y % 4294967296):Nat):Int):=by rw [Int.natCast_mul]
    rw [e1,wrapU_id (n:=(4294967296:Int)*(r:Int)) (by omega) (by omega),wrapU_id (n:=(4294967296:Int)*(r:Int)+(d:Int)) (by omega) (by omega),wrapU_id (n:=((q*(Y % 4294967296):Nat):Int)) (by omega) (by omega),wrapU_id (n:=(r:Int)+((Y / 4294967296:Nat):Int)) (by omega) (by omega)]
    refine ⟨?_,by omega⟩
    rw [Bool.eq_iff_iff]
    simp only [Bool.or_eq_true,decide_eq_true_eq]
    omega
  -- the first digit
  obtain ⟨f1,f2,f3,f4⟩:=knuth_first (Y / 4294967296) (Y % 4294967296) (l / 4294967296) u hv1 hv0 (by omega) (by omega)
  have k1:=knuth (f:=kl4 Y (l / 4294967296)) (fun q r => ((q:Int),(r:Int))) (Y / 4294967296) (Y % 4294967296) (l / 4294967296) u hv1 hv1' hv0 (by omega) (by omega) (by
    intro q r hq hr
    obtain ⟨s1,s2⟩:=step (l / 4294967296) q r (by omega) hq hr
    simp only [kl4]
    rw [s1,s2]
    unfold bindV
    dsimp only
    by_cases hc:4294967296≤q ∨ 4294967296*r+l / 4294967296<q*(Y % 4294967296)
    · rw [if_pos hc,show decide (4294967296≤q ∨ 4294967296*r+l / 4294967296<q*(Y % 4294967296))=true by simpa using hc,cond_true]
      have hq1:1≤q:=by
        rcases hc with hc | hc
        · omega
        · rcases Nat.eq_zero_or_pos q with h | h
          · subst h; omega
          · exact h
      rw [wrapU_id (n:=(q:Int) - 1) (by omega) (by omega),show (q:Int) - 1=((q - 1:Nat):Int) by omega]
      by_cases hd:4294967296≤r+Y / 4294967296
      · rw [if_pos hd,show decide ((4294967296:Int)≤((r+Y / 4294967296:Nat):Int))=true by simp only [decide_eq_true_eq]; omega,cond_true]
      · rw [if_neg hd,show decide ((4294967296:Int)≤((r+Y / 4294967296:Nat):Int))=false by simp only [decide_eq_false_iff_not]; omega,cond_false]
    · rw [if_neg hc,show decide (4294967296≤q ∨ 4294967296*r+l / 4294967296<q*(Y % 4294967296))=false by simpa using hc,cond_false]) (u / (Y / 4294967296)) (u % (Y / 4294967296)) f1 f2 (by omega) f4
  rw [hYe] at k1
  have hQ1:(u*4294967296+l / 4294967296) / Y<4294967296:=by
    rw [Nat.div_lt_iff_lt_mul (by omega)]; omega
  have r1:=Nat.div_add_mod (u*4294967296+l / 4294967296) Y
  have r1':=Nat.mod_lt (u*4294967296+l / 4294967296) (show 0<Y by omega)
  have eq1:IntKind.u64.wrap (Int.tdiv (u:Int) ((Y / 4294967296:Nat):Int))=((u / (Y / 4294967296):Nat):Int):=by rw [tdiv_nat,wrapU_nat _ (by omega)]
  have er1:IntKind.u64.wrap ((u:Int) - IntKind.u64.wrap (((u / (Y / 4294967296):Nat):Int)*((Y / 4294967296:Nat):Int)))=((u % (Y / 4294967296):Nat):Int):=by
    rw [← Int.natCast_mul,wrapU_nat _ (by omega),wrapU_id (by omega) (by omega)]; omega
  try dsimp only at k1
  rw [eq1,er1,k1,some_bind]
  -- what is left of the first digit
  have e21:IntKind.u64.wrap (IntKind.u64.wrap (IntKind.u64.wrap ((u:Int)*4294967296)+((l / 4294967296:Nat):Int)) - IntKind.u64.wrap ((((u*4294967296+l / 4294967296) / Y:Nat):Int)*(Y:Int)))=(((u*4294967296+l / 4294967296) % Y:Nat):Int):=by
    rw [← Int.natCast_mul,Nat.mul_comm _ Y]
    exact wrap3 u (l / 4294967296) _ _ r1 (by omega)
  rw [e21,req_pos (by omega)]
  obtain ⟨R1,hR1⟩:∃ R1,(u*4294967296+l / 4294967296) % Y=R1:=⟨_,rfl⟩
  obtain ⟨Q1,hQ1d⟩:∃ Q1,(u*4294967296+l / 4294967296) / Y=Q1:=⟨_,rfl⟩
  rw [hR1,hQ1d] at r1
  rw [hR1] at r1'
  rw [hQ1d] at hQ1
  rw [hR1,hQ1d]
  clear k1 e21 f1 f2 f3 f4 eq1 er1
  -- the second digit
  obtain ⟨g1,g2,g3,g4⟩:=knuth_first (Y / 4294967296) (Y % 4294967296) (l % 4294967296) R1 hv1 hv0 (by omega) (by omega)
  have k2:=knuth (f:=kl2 Y (l % 4294967296)) (fun q r => ((r:Int),(q:Int))) (Y / 4294967296) (Y % 4294967296) (l % 4294967296) R1 hv1 hv1' hv0 (by omega) (by omega) (by
    intro q r hq hr
    obtain ⟨s1,s2⟩:=step (l % 4294967296) q r (by omega) hq hr
    simp only [kl2]
    rw [s1,s2]
    unfold bindV
    dsimp only
    by_cases hc:4294967296≤q ∨ 4294967296*r+l % 4294967296<q*(Y % 4294967296)
    · rw [if_pos hc,show decide (4294967296≤q ∨ 4294967296*r+l % 4294967296<q*(Y % 4294967296))=true by simpa using hc,cond_true]
      have hq1:1≤q:=by
        rcases hc with hc | hc
        · omega
        · rcases Nat.eq_zero_or_pos q with h | h
          · subst h; omega
          · exact h
      rw [wrapU_id (n:=(q:Int) - 1) (by omega) (by omega),show (q:Int) - 1=((q - 1:Nat):Int) by omega]
      by_cases hd:4294967296≤r+Y / 4294967296
      · rw [if_pos hd,show decide ((4294967296:Int)≤((r+Y / 4294967296:Nat):Int))=true by simp only [decide_eq_true_eq]; omega,cond_true]
      · rw [if_neg hd,show decide ((4294967296:Int)≤((r+Y / 4294967296:Nat):Int))=false by simp only [decide_eq_false_iff_not]; omega,cond_false]
    · rw [if_neg hc,show decide (4294967296≤q ∨ 4294967296*r+l % 4294967296<q*(Y % 4294967296))=false by simpa using hc,cond_false]) (R1 / (Y / 4294967296)) (R1 % (Y / 4294967296)) g1 g2 (by omega) g4
  rw [hYe] at k2
  have hQ2:(R1*4294967296+l % 4294967296) / Y<4294967296:=by
    rw [Nat.div_lt_iff_lt_mul (by omega)]; omega
  have r2:=Nat.div_add_mod (R1*4294967296+l % 4294967296) Y
  have r2':=Nat.mod_lt (R1*4294967296+l % 4294967296) (show 0<Y by omega)
  have eq2:IntKind.u64.wrap (Int.tdiv (R1:Int) ((Y / 4294967296:Nat):Int))=((R1 / (Y / 4294967296):Nat):Int):=by rw [tdiv_nat,wrapU_nat _ (by omega)]
  have er2:IntKind.u64.wrap ((R1:Int) - IntKind.u64.wrap (((R1 / (Y / 4294967296):Nat):Int)*((Y / 4294967296:Nat):Int)))=((R1 % (Y / 4294967296):Nat):Int):=by
    rw [← Int.natCast_mul,wrapU_nat _ (by omega),wrapU_id (by omega) (by omega)]; omega
  try dsimp only at k2
  rw [eq2,er2,k2,some_bind]
  have e22:IntKind.u64.wrap (IntKind.u64.wrap (IntKind.u64.wrap ((R1:Int)*4294967296)+((l % 4294967296:Nat):Int)) - IntKind.u64.wrap ((((R1*4294967296+l % 4294967296) / Y:Nat):Int)*(Y:Int)))=(((R1*4294967296+l % 4294967296) % Y:Nat):Int):=by
    rw [← Int.natCast_mul,Nat.mul_comm _ Y]
    exact wrap3 R1 (l % 4294967296) _ _ r2 (by omega)
  rw [req_pos (by omega),e22,shrN _ s (by omega)]
  -- together
  have hfin:=(Nat.div_mod_unique (a:=u*18446744073709551616+l) (b:=Y) (c:=(R1*4294967296+l % 4294967296) % Y) (d:=Q1*4294967296+(R1*4294967296+l % 4294967296) / Y) (by omega)).2 ⟨by
    rw [Nat.mul_add,← Nat.mul_assoc]; omega,r2'⟩
  rw [hfin.1,hfin.2,wrap2 _ _ hQ1 hQ2]
abbrev WW (n:Nat):ratio_wide:=⟨hiW n,loW n⟩
theorem rem_core (hi lo d:Nat) (hd:0<d):(hi*18446744073709551616+lo) % d=(hi % d*18446744073709551616+lo) % d:=by
  have h:=Nat.div_add_mod hi d
  conv => lhs; rw [← h]
  rw [Nat.add_mul,Nat.mul_assoc,Nat.add_assoc,Nat.mul_add_mod]
theorem quo_core (hi lo d:Nat) (hd:0<d):(hi*18446744073709551616+lo) / d=hi / d*18446744073709551616+(hi % d*18446744073709551616+lo) / d:=by
  have h:=Nat.div_add_mod hi d
  conv => lhs; rw [← h]
  rw [Nat.add_mul,Nat.mul_assoc,Nat.add_assoc,Nat.mul_add_div hd]
theorem modW (n d:Nat) (hn:n<340282366920938463463374607431768211456) (hd:0<d) (hd2:d<18446744073709551616):ratio_wide_mod (WW n) (d:Int)=some ((n % d:Nat):Int):=by
  unfold ratio_wide_mod bits_Rem64
  dsimp only [WW]
  rw [req_pos (by omega),tmod_nat,Div64_eq _ _ d (Nat.mod_lt _ hd) (by omega) hd2]
  simp only [Option.bind]
  rw [← rem_core _ _ d hd,show n / 18446744073709551616*18446744073709551616+n % 18446744073709551616=n by omega]
theorem overW (n d:Nat) (hn:n<340282366920938463463374607431768211456) (hd:0<d) (hd2:d<18446744073709551616):ratio_wide_over (WW n) (d:Int)=some (WW (n / d)):=by
  unfold ratio_wide_over
  dsimp only [WW]
  have h1:=Nat.div_le_self (n / 18446744073709551616) d
  rw [req_pos (by omega),tmod_nat,tdiv_nat,Div64_eq _ _ d (Nat.mod_lt _ hd) (by omega) hd2,wrapU_nat _ (by omega)]
  simp only [Option.bind]
  have e:=quo_core (n / 18446744073709551616) (n % 18446744073709551616) d hd
  rw [show n / 18446744073709551616*18446744073709551616+n % 18446744073709551616=n by omega] at e
  have hlt:(n / 18446744073709551616 % d*18446744073709551616+n % 18446744073709551616) / d<18446744073709551616:=by
    rw [Nat.div_lt_iff_lt_mul hd]
    have:=Nat.mod_lt (n / 18446744073709551616) hd
    have h2:n / 18446744073709551616 % d*18446744073709551616+18446744073709551616≤18446744073709551616*d:=by omega
    omega
  rw [e]
  generalize (n / 18446744073709551616 % d*18446744073709551616+n % 18446744073709551616) / d=x at *
  generalize n / 18446744073709551616 / d=z at *
  simp only [Option.some.injEq,hiW,loW,ratio_wide.mk.injEq]
  constructor <;> omega
theorem plusW (m n:Nat) (h:m+n<340282366920938463463374607431768211456):ratio_wide_plus (WW m) (WW n)=some (WW (m+n)):=by
  unfold ratio_wide_plus bits_Add64
  dsimp only [WW,hiW,loW]
  rw [req_pos (by omega)]
  simp only [Option.bind]
  rw [req_pos (by omega)]
  simp only [Option.some.injEq,ratio_wide.mk.injEq]
  constructor <;> omega
theorem minusW (m n:Nat) (h:n≤m) (hm:m<340282366920938463463374607431768211456):ratio_wide_minus (WW m) (WW n)=some (WW (m - n)):=by
  unfold ratio_wide_minus bits_Sub64
  dsimp only [WW,hiW,loW]
  rw [req_pos (by omega)]
  simp only [Option.bind]
  by_cases hlt:((m % 18446744073709551616:Nat):Int)<((n % 18446744073709551616:Nat):Int)+0
  · rw [if_pos hlt,req_pos (by omega)]
    simp only [Option.some.injEq,ratio_wide.mk.injEq]
    constructor <;> omega
  · rw [if_neg hlt,req_pos (by omega)]
    simp only [Option.some.injEq,ratio_wide.mk.injEq]
    constructor <;> omega
def addS (x:Bool) (m:Nat) (y:Bool) (n:Nat):Bool × Nat:=if x=y then (x,m+n) else if n≤m then (x,m - n) else (y,n - m)
theorem addS_le (x:Bool) (m:Nat) (y:Bool) (n:Nat):(addS x m y n).2≤m+n:=by
  unfold addS; (repeat' split) <;> simp <;> omega
theorem addS_val (x:Bool) (m:Nat) (y:Bool) (n:Nat):sv (addS x m y n).1 (addS x m y n).2=sv x m+sv y n:=by
  unfold addS
  split
  · rename_i h; subst h; cases x <;> simp [sv] <;> omega
  · rename_i h
    have hy:y=!x:=by cases x <;> cases y <;> simp_all
    subst hy
    split <;> cases x <;> simp [sv] <;> omega
theorem addS_scale (x:Bool) (m:Nat) (y:Bool) (n g:Nat) (hg:0<g):addS x (m*g) y (n*g)=((addS x m y n).1,(addS x m y n).2*g):=by
  unfold addS
  split
  · rw [Nat.add_mul]
  · by_cases h:n≤m
    · rw [if_pos h,if_pos (Nat.mul_le_mul_right g h),Nat.sub_mul]
    · rw [if_neg h,if_neg (fun h2 => h (Nat.le_of_mul_le_mul_right h2 hg)),Nat.sub_mul]
theorem cmpI_le (m n:Nat):decide ((0:Int)≤cmpI m n)=decide (n≤m):=by
  unfold cmpI
  rw [Bool.eq_iff_iff]
  simp only [decide_eq_true_eq]
  split
  · omega
  · split <;> omega
theorem plusS (x:Bool) (m:Nat) (y:Bool) (n:Nat) (h:m+n<340282366920938463463374607431768211456) :
    ratio_signed_plus ⟨x,WW m⟩ ⟨y,WW n⟩=some ⟨(addS x m y n).1,WW (addS x m y n).2⟩:=by
  unfold ratio_signed_plus addS
  dsimp only
  by_cases hxy:x=y
  · subst hxy
    rw [if_pos rfl,show (x==x)=true by simp,cond_true,plusW m n h]
    rfl
  · rw [if_neg hxy,show (x==y)=false by simpa using hxy,cond_false]
    have hc:ratio_wide_compare (WW m) (WW n)=some (cmpI m n):=wideCmp m n
    rw [hc,some_bind,cmpI_le]
    by_cases hmn:n≤m
    · rw [if_pos hmn,show decide (n≤m)=true by simpa using hmn,cond_true,minusW m n hmn (by omega)]; rfl
    · rw [if_neg hmn,show decide (n≤m)=false by simpa using hmn,cond_false,minusW n m (by omega) (by omega)]; rfl
theorem totalS (x:Bool) (m:Nat) (y:Bool) (n:Nat) (h:m+n<340282366920938463463374607431768211456) :
    ref01_total x (WR m) y (WR n)=some ((addS x m y n).1,WR (addS x m y n).2):=by
  unfold ref01_total addS
  by_cases hxy:x=y
  · subst hxy
    rw [if_pos rfl,show (x==x)=true by simp,cond_true,Plus_eq m n h]
    rfl
  · rw [if_neg hxy,show (x==y)=false by simpa using hxy,cond_false,Order_eq,some_bind,cmpI_le]
    by_cases hmn:n≤m
    · rw [if_pos hmn,show decide (n≤m)=true by simpa using hmn,cond_true,Minus_eq m n hmn (by omega)]; rfl
    · rw [if_neg hmn,show decide (n≤m)=false by simpa using hmn,cond_false,Minus_eq n m (by omega) (by omega)]; rfl
theorem addS_cop (x:Bool) (m:Nat) (y:Bool) (n d:Nat) (hm:Nat.Coprime m d) (hn:d ∣ n):Nat.Coprime (addS x m y n).2 d:=by
  have key:∀ k,Nat.gcd k d ∣ m→Nat.Coprime k d:=fun k hk => by
    have:=Nat.dvd_gcd hk (Nat.gcd_dvd_right k d)
    rw [hm] at this
    exact Nat.dvd_one.1 this
  apply key
  have h1:=Nat.gcd_dvd_left (addS x m y n).2 d
  have h2:Nat.gcd (addS x m y n).2 d ∣ n:=Nat.dvd_trans (Nat.gcd_dvd_right _ d) hn
  have h3:(addS x m y n).2=m+n ∨ (addS x m y n).2+n=m ∨ (addS x m y n).2+m=n:=by
    unfold addS; (repeat' split) <;> simp <;> omega
  generalize (addS x m y n).2=k at *
  generalize Nat.gcd k d=g at *
  rcases h3 with h3 | h3 | h3
  · rw [h3] at h1
    exact (Nat.dvd_add_iff_left h2).2 h1
  · have:=Nat.dvd_add h1 h2
    rwa [h3] at this
  · rw [← h3] at h2
    exact (Nat.dvd_add_iff_right h1).2 h2
theorem addS_swap (x:Bool) (m:Nat) (y:Bool) (n:Nat):(addS x m y n).2=(addS y n x m).2:=by
  unfold addS
  by_cases h:x=y
  · subst h; simp; omega
  · have h':¬ y=x:=fun e => h e.symm
    simp only [if_neg h,if_neg h']
    split <;> split <;> simp <;> omega
def addOf2 (a b:api_Ratio):api_Ratio × Int :=
  if vR a=true∧vR b=true then redOf (addS (decide (a.Num<0)) (a.Num.natAbs*b.Den.natAbs) (decide (b.Num<0)) (b.Num.natAbs*a.Den.natAbs)).1 (addS (decide (a.Num<0)) (a.Num.natAbs*b.Den.natAbs) (decide (b.Num<0)) (b.Num.natAbs*a.Den.natAbs)).2 (a.Den.natAbs*b.Den.natAbs) else (⟨0,0⟩,1)
theorem add_lowest (x y:Bool) (na nb da db:Nat) (ha:Nat.gcd na da=1) (hb:Nat.gcd nb db=1) (h1:0<da) (h2:0<db) :
    redOf (addS x (na*db) y (nb*da)).1 (addS x (na*db) y (nb*da)).2 (da*db) =
      fitOf (addS x (na*(db / Nat.gcd da db)) y (nb*(da / Nat.gcd da db))).1 ((addS x (na*(db / Nat.gcd da db)) y (nb*(da / Nat.gcd da db))).2 / Nat.gcd (addS x (na*(db / Nat.gcd da db)) y (nb*(da / Nat.gcd da db))).2 (Nat.gcd da db))
        (da / Nat.gcd da db*(db / Nat.gcd (addS x (na*(db / Nat.gcd da db)) y (nb*(da / Nat.gcd da db))).2 (Nat.gcd da db))):=by
  have hg:0<Nat.gcd da db:=Nat.gcd_pos_of_pos_left _ h1
  have ea:=Nat.div_mul_cancel (Nat.gcd_dvd_left da db)
  have eb:=Nat.div_mul_cancel (Nat.gcd_dvd_right da db)
  have hcop:Nat.Coprime (da / Nat.gcd da db) (db / Nat.gcd da db):=Nat.coprime_div_gcd_div_gcd hg
  generalize Nat.gcd da db=g at *
  generalize hd1:da / g=d1 at *
  generalize hd2:db / g=d2 at *
  have hs:addS x (na*db) y (nb*da)=((addS x (na*d2) y (nb*d1)).1,(addS x (na*d2) y (nb*d1)).2*g):=by
    rw [← addS_scale _ _ _ _ _ hg,Nat.mul_assoc,Nat.mul_assoc,ea,eb]
  rw [hs]
  have c1:Nat.Coprime (addS x (na*d2) y (nb*d1)).2 d1:=addS_cop _ _ _ _ _ (Nat.Coprime.mul_left (Nat.Coprime.coprime_dvd_right ⟨g,ea.symm⟩ ha) hcop.symm) ⟨nb,Nat.mul_comm _ _⟩
  have c2:Nat.Coprime (addS x (na*d2) y (nb*d1)).2 d2:=by
    rw [addS_swap]
    exact addS_cop _ _ _ _ _ (Nat.Coprime.mul_left (Nat.Coprime.coprime_dvd_right ⟨g,eb.symm⟩ hb) hcop) ⟨na,Nat.mul_comm _ _⟩
  generalize addS x (na*d2) y (nb*d1)=sk at *
  obtain ⟨s,k⟩:=sk
  dsimp only at *
  have hc:0<Nat.gcd k g:=Nat.gcd_pos_of_pos_right _ hg
  have ek:=Nat.div_mul_cancel (Nat.gcd_dvd_left k g)
  have eg:=Nat.div_mul_cancel (Nat.gcd_dvd_right k g)
  have hcg:Nat.Coprime (k / Nat.gcd k g) (g / Nat.gcd k g):=Nat.coprime_div_gcd_div_gcd hc
  generalize Nat.gcd k g=c at *
  have hdb:db / c=d2*(g / c):=by
    rw [← eb]
    conv => lhs; rw [← eg]
    rw [← Nat.mul_assoc,Nat.mul_div_cancel _ hc]
  rw [hdb]
  have hkk:k / c ∣ k:=⟨c,ek.symm⟩
  refine red_unique s _ _ _ _ (g*c) (Nat.mul_pos hg hc) ?_ ?_ ?_
  · conv => lhs; rw [← ek]
    rw [Nat.mul_assoc,Nat.mul_comm c g]
  · rw [← ea,← eb]
    have:d1*(d2*(g / c))*(g*c)=d1*g*(d2*(g / c*c)):=by
      simp only [Nat.mul_assoc,Nat.mul_left_comm,Nat.mul_comm]
    rw [this,eg]
  · exact (Nat.Coprime.mul_right (c1.coprime_dvd_left hkk) ((c2.coprime_dvd_left hkk).mul_right hcg))
theorem Add_eq (a b:api_Ratio):ratio_Add a b=some (addOf2 a b):=by
  unfold ratio_Add addOf2
  rw [Valid_eq,Valid_eq]
  simp only [Option.bind]
  rw [req_pos (by intro _; rfl)]
  simp only [Option.getD_some]
  cases ha:vR a with
  | false => simp
  | true =>
    cases hb:vR b with
    | false => simp
    | true =>
      have va:=vn_of ha
      have vb:=vn_of hb
      simp only [Bool.not_true,Bool.or_self,cond_false,and_self,if_true]
      have n1:=va.n1; have n2:=vb.n1; have d1:=va.d1; have d2:=vb.d1; have d3:=va.d0; have d4:=vb.d0
      have hg:0<Nat.gcd a.Den.natAbs b.Den.natAbs:=Nat.gcd_pos_of_pos_left _ va.d0
      have hg2:Nat.gcd a.Den.natAbs b.Den.natAbs≤a.Den.natAbs:=Nat.gcd_le_left _ va.d0
      have q3:=Nat.div_le_self a.Den.natAbs (Nat.gcd a.Den.natAbs b.Den.natAbs)
      have q4:=Nat.div_le_self b.Den.natAbs (Nat.gcd a.Den.natAbs b.Den.natAbs)
      rw [wrapU_den va,wrapU_den vb,gcd_eq]
      simp only
      rw [req_pos (by omega)]
      simp only [tdiv_nat]
      rw [wrapU_nat _ (by omega),wrapU_nat _ (by omega),signedProduct_eq _ _ va.i1 (by omega)]
      simp only
      rw [req_pos (by omega),signedProduct_eq _ _ vb.i1 (by omega)]
      simp only
      have m1:=mul_lt n1 (show b.Den.natAbs / Nat.gcd a.Den.natAbs b.Den.natAbs≤1152921504606846976 by omega)
      have m2:=mul_lt n2 (show a.Den.natAbs / Nat.gcd a.Den.natAbs b.Den.natAbs≤1152921504606846976 by omega)
      have hp:=plusS (decide (a.Num<0)) (a.Num.natAbs*(b.Den.natAbs / Nat.gcd a.Den.natAbs b.Den.natAbs)) (decide (b.Num<0)) (b.Num.natAbs*(a.Den.natAbs / Nat.gcd a.Den.natAbs b.Den.natAbs)) (by omega)
      have hle:=addS_le (decide (a.Num<0)) (a.Num.natAbs*(b.Den.natAbs / Nat.gcd a.Den.natAbs b.Den.natAbs)) (decide (b.Num<0)) (b.Num.natAbs*(a.Den.natAbs / Nat.gcd a.Den.natAbs b.Den.natAbs))
      rw [hp]
      simp only
      rw [add_lowest _ _ _ _ _ _ va.cop vb.cop va.d0 vb.d0]
      generalize addS (decide (a.Num<0)) (a.Num.natAbs*(b.Den.natAbs / Nat.gcd a.Den.natAbs b.Den.natAbs)) (decide (b.Num<0)) (b.Num.natAbs*(a.Den.natAbs / Nat.gcd a.Den.natAbs b.Den.natAbs))=sk at *
      obtain ⟨s,k⟩:=sk
      dsimp only at *
      rw [modW k _ (by omega) hg (by omega)]
      simp only
      rw [gcd_eq,show Nat.gcd (k % Nat.gcd a.Den.natAbs b.Den.natAbs) (Nat.gcd a.Den.natAbs b.Den.natAbs)=Nat.gcd k (Nat.gcd a.Den.natAbs b.Den.natAbs) by rw [Nat.gcd_comm,Nat.gcd_comm k,Nat.gcd_rec (Nat.gcd a.Den.natAbs b.Den.natAbs) k,Nat.gcd_comm]]
      simp only
      have hc:0<Nat.gcd k (Nat.gcd a.Den.natAbs b.Den.natAbs):=Nat.gcd_pos_of_pos_right _ hg
      have hc2:Nat.gcd k (Nat.gcd a.Den.natAbs b.Den.natAbs)≤Nat.gcd a.Den.natAbs b.Den.natAbs:=Nat.gcd_le_right _ hg
      have q5:=Nat.div_le_self b.Den.natAbs (Nat.gcd k (Nat.gcd a.Den.natAbs b.Den.natAbs))
      rw [overW k _ (by omega) hc (by omega)]
      simp only
      rw [req_pos (by omega),tdiv_nat,wrapU_nat _ (by omega),product_eq _ _ (by omega) (by omega)]
      simp only
      rw [fittedW]
theorem AddR_eq (a b:api_Ratio):ref01_Add a b=some (addOf2 a b):=by
  unfold ref01_Add addOf2
  rw [ValidR_eq,ValidR_eq]
  simp only [Option.bind]
  rw [req_pos (by intro _; rfl)]
  simp only [Option.getD_some]
  cases ha:vR a with
  | false => simp
  | true =>
    cases hb:vR b with
    | false => simp
    | true =>
      have va:=vn_of ha
      have vb:=vn_of hb
      have n1:=va.n1; have n2:=vb.n1; have d1:=va.d1; have d2:=vb.d1
      have m1:=mul_lt n1 d2
      have m2:=mul_lt n2 d1
      have m3:=mul_lt d1 d2
      simp only [Bool.not_true,Bool.or_self,cond_false,and_self,if_true]
      rw [Size_eq _ va.i1,Size_eq _ vb.i2]
      simp only
      rw [Product_eq _ _ (by omega) (by omega)]
      simp only
      rw [Size_eq _ vb.i1,Size_eq _ va.i2]
      simp only
      rw [Product_eq _ _ (by omega) (by omega)]
      simp only
      rw [totalS _ _ _ _ (by omega)]
      have hle:=addS_le (decide (a.Num<0)) (a.Num.natAbs*b.Den.natAbs) (decide (b.Num<0)) (b.Num.natAbs*a.Den.natAbs)
      simp only
      rw [Product_eq _ _ (by omega) (by omega)]
      simp only
      rw [Reduce_eq _ _ _ (by omega) (Nat.mul_pos va.d0 vb.d0) (by omega)]
def subOf (a b:api_Ratio):api_Ratio × Int:=if vR a=true∧vR b=true then addOf2 a ⟨-b.Num,b.Den⟩ else (⟨0,0⟩,1)
theorem neg_wrap {b:api_Ratio} (h:vR b=true):IntKind.i64.wrap (0 - b.Num)=-b.Num:=by
  have:=(vn_of h).n1
  rw [wrap64 (by omega) (by omega)]; omega
theorem Sub_eq (a b:api_Ratio):ratio_Sub a b=some (subOf a b):=by
  unfold ratio_Sub subOf
  rw [Valid_eq,Valid_eq]
  simp only [Option.bind]
  rw [req_pos (by intro _; rfl)]
  simp only [Option.getD_some]
  cases ha:vR a with
  | false => simp
  | true =>
    cases hb:vR b with
    | false => simp
    | true =>
      simp only [Bool.not_true,Bool.or_self,cond_false,and_self,if_true]
      rw [neg_wrap hb,Add_eq]
theorem SubR_eq (a b:api_Ratio):ref01_Sub a b=some (subOf a b):=by
  unfold ref01_Sub subOf
  rw [ValidR_eq,ValidR_eq]
  simp only [Option.bind]
  rw [req_pos (by intro _; rfl)]
  simp only [Option.getD_some]
  cases ha:vR a with
  | false => simp
  | true =>
    cases hb:vR b with
    | false => simp
    | true =>
      simp only [Bool.not_true,Bool.or_self,cond_false,and_self,if_true]
      rw [neg_wrap hb,AddR_eq]
theorem sv_num (a:Int) (n:Nat):sv (decide (a<0)) (a.natAbs*n)=a*(n:Int):=by
  unfold sv
  by_cases h:a<0
  · rw [if_pos (by simpa using h),Int.natCast_mul,show ((a.natAbs:Nat):Int)=-a by omega,Int.neg_mul,Int.neg_neg]
  · rw [if_neg (by simpa using h),Int.natCast_mul,show ((a.natAbs:Nat):Int)=a by omega]
theorem cmpI_neg (x y:Int):cmpI x y=-cmpI y x:=by
  unfold cmpI; (repeat' split) <;> omega
theorem cmpI_zero (x y:Int):cmpI x y=0 ↔ x=y:=by
  unfold cmpI; (repeat' split) <;> omega
theorem cmpI_nonpos (x y:Int):cmpI x y≤0 ↔ x≤y:=by
  unfold cmpI; (repeat' split) <;> omega
theorem cmpI_pos (x y:Int):0<cmpI x y ↔ y<x:=by
  unfold cmpI; (repeat' split) <;> omega
theorem cmpR_v {a b:api_Ratio} (ha:vR a=true) (hb:vR b=true):cmpR a b=cmpI (a.Num*b.Den) (b.Num*a.Den):=by unfold cmpR; rw [if_pos ⟨ha,hb⟩]
theorem cmpR_trans {a b c:api_Ratio} (ha:vR a=true) (hb:vR b=true) (hc:vR c=true) (h1:cmpR a b≤0) (h2:cmpR b c≤0):cmpR a c≤0:=by
  rw [cmpR_v ha hb,cmpI_nonpos] at h1
  rw [cmpR_v hb hc,cmpI_nonpos] at h2
  rw [cmpR_v ha hc,cmpI_nonpos]
  have da:=(vd_of ha).d0; have db:=(vd_of hb).d0; have dc:=(vd_of hc).d0
  have k1:=Int.mul_le_mul_of_nonneg_right h1 (show 0≤c.Den by omega)
  have k2:=Int.mul_le_mul_of_nonneg_right h2 (show 0≤a.Den by omega)
  have k3:a.Num*c.Den*b.Den≤c.Num*a.Den*b.Den:=by
    have e1:a.Num*c.Den*b.Den=a.Num*b.Den*c.Den:=by rw [Int.mul_right_comm]
    have e2:c.Num*a.Den*b.Den=c.Num*b.Den*a.Den:=by rw [Int.mul_right_comm]
    have e3:b.Num*a.Den*c.Den=b.Num*c.Den*a.Den:=by rw [Int.mul_right_comm]
    omega
  exact Int.le_of_mul_le_mul_right k3 (by omega)
theorem addOf2_val {a b x:api_Ratio} (ha:vR a=true) (hb:vR b=true) (h:addOf2 a b=(x,0)):vR x=true∧x.Num*(a.Den*b.Den)=(a.Num*b.Den+b.Num*a.Den)*x.Den∧0<x.Den:=by
  have va:=vn_of ha
  have vb:=vn_of hb
  unfold addOf2 at h
  rw [if_pos ⟨ha,hb⟩] at h
  obtain ⟨g1,g2,g3⟩:=redOf_val _ _ _ (Nat.mul_pos va.d0 vb.d0) x h
  refine ⟨g1,?_,g3⟩
  rw [addS_val,sv_num,sv_num,Int.natCast_mul,va.de,vb.de] at g2
  exact g2
theorem cmpR_anti (a b:api_Ratio):cmpR a b=-cmpR b a:=by
  unfold cmpR
  by_cases h:vR a=true∧vR b=true
  · rw [if_pos h,if_pos h.symm]; exact cmpI_neg _ _
  · rw [if_neg h,if_neg (fun h2 => h h2.symm)]; rfl
theorem neg_v {b:api_Ratio} (h:vR b=true):vR ⟨-b.Num,b.Den⟩=true:=by
  rw [vR_iff] at h ⊢
  obtain ⟨h1,h2,h3,h4,h5⟩:=h
  refine ⟨h1,h2,by show _≤-b.Num; omega,by show -b.Num≤_; omega,?_⟩
  show Nat.gcd (-b.Num).natAbs _=1
  rw [Int.natAbs_neg]; exact h5
theorem v_one (f:Int) (h1:-1152921504606846976≤f) (h2:f≤1152921504606846976):vR ⟨f,1⟩=true:=by
  rw [vR_iff]
  exact ⟨by show (1:Int)≤1; decide,by show (1:Int)≤1152921504606846976; decide,h1,h2,by simp⟩
structure DOK (t:mark_Dice):Prop where
  len:t.L.length≤600
  lo:0≤t.At
  hi:t.At≤t.L.length
theorem dNext (t:mark_Dice) (n:Int) (h:DOK t) (hn:n≤4611686018427387904):∃ y t',mark_Dice_Next t n=some (y,t')∧DOK t'∧0≤y∧(1≤n→y<n):=by
  obtain ⟨h1,h2,h3⟩:=h
  unfold mark_Dice_Next mark_Dice_Next_j1
  rcases bcases ((decide ((t.L.length:Int)≤t.At))||(decide (n<(1:Int)))) with hc | hc <;> rw [hc]
  · exact ⟨_,_,rfl,⟨h1,h2,h3⟩,by omega,by omega⟩
  · simp only [Bool.or_eq_false_iff,decide_eq_false_iff_not] at hc
    rw [cond_false,req_pos (by omega)]
    generalize ix t.L t.At=x
    have h4:=Int.tmod_lt_of_pos x (show 0<n by omega)
    have h5:-n<x.tmod n:=Int.lt_tmod_of_pos x (show 0<n by omega)
    have hd:DOK ⟨t.L,IntKind.i64.wrap (t.At+1)⟩:=⟨h1,by show 0≤IntKind.i64.wrap (t.At+1); rw [wrap64 (by omega) (by omega)]; omega,by show IntKind.i64.wrap (t.At+1)≤(t.L.length:Int); rw [wrap64 (by omega) (by omega)]; omega⟩
    rcases bcases (decide (Int.tmod x n<(0:Int))) with hd2 | hd2 <;> rw [hd2]
    · have:x.tmod n<0:=by simpa using hd2
      exact ⟨_,_,rfl,hd,by rw [wrap64 (by omega) (by omega)]; omega,by rw [wrap64 (by omega) (by omega)]; omega⟩
    · have:0≤x.tmod n:=by simpa using hd2
      exact ⟨_,_,rfl,hd,this,fun _ => h4⟩
theorem dPick (t:mark_Dice) (l:List Int) (h:DOK t) (h1:1≤l.length) (h2:l.length≤1000):∃ y t',mark_Dice_Pick t l=some (y,t')∧DOK t'∧y ∈ l:=by
  obtain ⟨y,t',e1,h3,h4,h5⟩:=dNext t l.length h (by omega)
  have h6:=h5 (by omega)
  exact ⟨_,t',by unfold mark_Dice_Pick; rw [e1]; simp only [Option.bind]; rw [req_pos ⟨h4,h6⟩],h3,ix_mem l y h4 h6⟩
theorem iter_scanI {α ρ:Type} (l:List α) (f:Int→Option (Int ⊕ ρ)) (p:α→Bool) (hit:Nat→ρ) (miss:ρ)
    (hstep:∀ (k:Nat) (hk:k<l.length),f (k:Int)=some (if p l[k]=true then .inr (hit k) else .inl ((k+1:Nat):Int)))
    (hend:f (l.length:Int)=some (.inr miss)):iter f (0:Int)=some (if l.findIdx p<l.length then hit (l.findIdx p) else miss):=by
  have key:∀ (n k:Nat),l.length - k=n→k≤l.findIdx p→iter f (k:Int)=some (if l.findIdx p<l.length then hit (l.findIdx p) else miss):=by
    intro n
    induction n with
    | zero =>
      intro k hn hk
      have h1:l.findIdx p≤l.length:=List.findIdx_le_length
      have:k=l.length:=by omega
      subst this
      rw [iter_inr hend,if_neg (by omega)]
    | succ n ih =>
      intro k hn hk
      have hk':k<l.length:=by omega
      have h1:=hstep k hk'
      cases hp:p l[k] with
      | true =>
        rw [hp,if_pos rfl] at h1
        have e:l.findIdx p=k:=by
          rcases Nat.lt_or_ge k (l.findIdx p) with hlt | hge
          · exact absurd (List.not_of_lt_findIdx hlt) (by simp [hp])
          · omega
        rw [iter_inr h1,e,if_pos hk']
      | false =>
        rw [hp,if_neg (by simp)] at h1
        rw [iter_inl h1]
        apply ih (k+1) (by omega)
        rcases Nat.lt_or_ge k (l.findIdx p) with hlt | hge
        · exact hlt
        · have e:l.findIdx p=k:=by omega
          have:=List.findIdx_getElem (w:=by rw [e]; exact hk') (p:=p) (xs:=l)
          simp only [e] at this
          rw [hp] at this
          cases this
  exact key _ 0 rfl (by omega)
def gr (b:List Int) (m:Int):Nat:=b.findIdx (fun x => decide (x≤m))
theorem gr_le (b:List Int) (m:Int):gr b m≤b.length:=List.findIdx_le_length
theorem Grade_eq (b:List Int) (m:Int) (h:b.length≤1000):boundary_Grade b m=some (gr b m:Int):=by
  unfold boundary_Grade boundary_Grade_j1
  rw [iter_scanI b (boundary_Grade_l2 b m) (fun x => decide (x≤m)) (fun k => .inr (k:Int)) (.inl ())]
  · have:=gr_le b m
    unfold gr at this ⊢
    by_cases hc:b.findIdx (fun x => decide (x≤m))<b.length
    · rw [if_pos hc]; rfl
    · rw [if_neg hc]
      have e:b.findIdx (fun x => decide (x≤m))=b.length:=by omega
      rw [e]; rfl
  · intro k hk
    simp only [boundary_Grade_l2]
    rw [show decide ((k:Int)<(b.length:Int))=true by simp; omega,cond_true,req_pos (by omega),ix_nat _ _ hk,i64_add1 k (by omega)]
    by_cases hc:b[k]≤m <;> simp [hc]
  · simp [boundary_Grade_l2]
structure Bd (b:List Int) (most:Int):Prop where
  lo:1≤b.length
  hi:b.length≤9
  r:∀ x ∈ b,0≤x∧x≤most+1
  dn:∀ i j (hi:i<b.length) (hj:j<b.length),i≤j→b[j]≤b[i]
theorem Check_eq (b:List Int) (most:Int) (h:Bd b most) (h0:0≤most) (h1:most≤200):boundary_Check b most=some 0:=by
  have hl:=h.lo; have hh:=h.hi
  unfold boundary_Check boundary_isScore
  simp only [Option.bind]
  rw [show (!(decide ((0:Int)≤most)&&decide (most≤(200:Int))))=false by simp; omega,cond_false]
  rw [show ((decide ((b.length:Int)<(1:Int)))||(decide ((9:Int)<(b.length:Int))))=false by simp; omega,cond_false]
  have e1:iter (boundary_Check_l4 b most) (0:Int)=some (.inl ()):=by
    obtain ⟨r,e,hr⟩:=iter_inv (f:=boundary_Check_l4 b most) (fun s => 0≤s∧s≤b.length) (fun s => b.length - s.toNat) (fun r => r=.inl ()) (by
      rintro s ⟨s0,s1⟩
      simp only [boundary_Check_l4]
      rcases bcases (decide (s<(b.length:Int))) with hc | hc <;> rw [hc]
      · left
        have hc':s<b.length:=by simpa using hc
        have hm:=h.r _ (ix_mem b s s0 hc')
        rw [cond_true,req_pos (by omega),wrap64 (n:=most+1) (by omega) (by omega),wrap64 (n:=s+1) (by omega) (by omega)]
        rw [show ((decide ((ix b s)<(0:Int)))||(decide (most+1<(ix b s))))=false by simp; omega,cond_false]
        exact ⟨_,rfl,by omega,by omega⟩
      · right
        exact ⟨_,rfl,rfl⟩) 0 (by omega)
    rw [e,hr]
  rw [e1]
  simp only [boundary_Check_j3,boundary_Check_j1]
  have e2:iter (boundary_Check_l2 b) (1:Int)=some (.inl ()):=by
    obtain ⟨r,e,hr⟩:=iter_inv (f:=boundary_Check_l2 b) (fun s => 1≤s∧s≤b.length) (fun s => b.length - s.toNat) (fun r => r=.inl ()) (by
      rintro s ⟨s0,s1⟩
      simp only [boundary_Check_l2]
      rcases bcases (decide (s<(b.length:Int))) with hc | hc <;> rw [hc]
      · left
        have hc':s<b.length:=by simpa using hc
        obtain ⟨k,rfl⟩:∃ k:Nat,s=((k+1:Nat):Int):=⟨(s - 1).toNat,by omega⟩
        rw [cond_true,show IntKind.i64.wrap (((k+1:Nat):Int) - 1)=(k:Int) by rw [wrap64 (by omega) (by omega)]; omega,req_pos (by omega),wrap64 (n:=((k+1:Nat):Int)+1) (by omega) (by omega),ix_nat _ k (by omega),ix_nat _ (k+1) (by omega)]
        have:=h.dn k (k+1) (by omega) (by omega) (by omega)
        rw [show decide (b[k]<b[k+1])=false by simp; omega,cond_false]
        exact ⟨_,rfl,by omega,by omega⟩
      · right
        exact ⟨_,rfl,rfl⟩) 1 (by omega)
    rw [e,hr]
  rw [e2]
  rfl
theorem dBounds (t:mark_Dice) (most:Int) (h:DOK t) (h0:0≤most) (h1:most≤200):∃ b t',mark_Dice_Bounds t most=some (b,t')∧DOK t'∧Bd b most:=by
  unfold mark_Dice_Bounds
  obtain ⟨y,t1,e1,h2,h3,h4⟩:=dNext t 4 h (by omega)
  have h5:=h4 (by omega)
  rw [e1]
  simp only [Option.bind]
  rw [wrap64 (n:=most+1) (by omega) (by omega),wrap64 (n:=1+y) (by omega) (by omega)]
  obtain ⟨⟨L,A,w⟩,e2,g1,g2,g3,g4⟩:=iter_inv (f:=mark_Dice_Bounds_l2) (fun s => 0≤s.2.1∧s.2.1+s.2.2.2.2.length=1+y∧DOK ⟨s.2.2.1,s.2.2.2.1⟩∧(0≤s.1∧s.1≤most+1)∧(∀ c ∈ s.2.2.2.2,s.1≤c∧c≤most+1)∧s.2.2.2.2.Pairwise (fun a b => b≤a)) (fun s => s.2.1.toNat)
    (fun r => DOK ⟨r.1,r.2.1⟩∧(r.2.2.length:Int)=1+y∧(∀ c ∈ r.2.2,0≤c∧c≤most+1)∧r.2.2.Pairwise (fun a b => b≤a)) (by
      rintro ⟨b,i,L,A,w⟩ ⟨k1,k2,k3,k4,k5,k6⟩
      simp only at k1 k2 k3 k4 k5 k6
      simp only [mark_Dice_Bounds_l2]
      rcases bcases (decide ((0:Int)<i)) with hc | hc <;> rw [hc]
      · left
        have hi:0<i:=by simpa using hc
        rw [Int.tdiv_eq_ediv_of_nonneg k4.1,wrap64 (n:=b / 2) (by omega) (by omega),wrap64 (n:=b / 2+1) (by omega) (by omega)]
        obtain ⟨a,ta,ea,ha,a1,a2⟩:=dNext ⟨L,A⟩ (b / 2+1) k3 (by omega)
        have a3:=a2 (by omega)
        simp only [cond_true,ea,Option.bind]
        rw [req_pos (by simp; omega),wrap64 (n:=i - 1) (by omega) (by omega),wrap64 (n:=b - a) (by omega) (by omega)]
        refine ⟨_,rfl,⟨by show 0≤i - 1; omega,by simp; omega,ha,⟨by simp; omega,by simp; omega⟩,?_,?_⟩,?_⟩
        · intro c hc
          rcases List.mem_append.1 hc with hc | hc
          · have:=k5 c hc; simp only []; omega
          · simp at hc; simp only []; omega
        · simp only []
          rw [List.pairwise_append]
          refine ⟨k6,by simp,?_⟩
          intro x hx z hz
          have:=k5 x hx
          simp at hz
          omega
        · show (i - 1).toNat<i.toNat
          omega
      · right
        have hi:i=0:=by simp at hc; omega
        exact ⟨_,rfl,k3,by show (w.length:Int)=1+y; omega,fun c hc => by have:=k5 c hc; omega,k6⟩) (most+1,1+y,t1.L,t1.At,[]) ⟨by show 0≤1+y; omega,by simp,h2,⟨by simp; omega,by simp⟩,by simp,by simp⟩
  rw [e2]
  simp only at g2 g3 g4
  refine ⟨w,⟨L,A⟩,rfl,g1,⟨by omega,by omega,g3,?_⟩⟩
  intro i j hi hj hij
  rcases Nat.lt_or_eq_of_le hij with hlt | rfl
  · exact List.pairwise_iff_getElem.1 g4 i j hi hj hlt
  · exact Int.le_refl _
theorem iter_foldR {α β ρ:Type} (l:List α) (f:β × Int→Option ((β × Int) ⊕ ρ)) (g:β→α→β) (fin:β→ρ) (I:Nat→β→Prop)
    (hstep:∀ (k:Nat) (b:β) (hk:k<l.length),I k b→f (b,(k:Int))=some (.inl (g b l[k],((k+1:Nat):Int)))∧I (k+1) (g b l[k]))
    (hend:∀ b,I l.length b→f (b,(l.length:Int))=some (.inr (fin b))) (b:β) (h0:I 0 b):iter f (b,(0:Int))=some (fin (l.foldl g b)):=by
  have key:∀ (n k:Nat) (b:β),l.length - k=n→k≤l.length→I k b→iter f (b,(k:Int))=some (fin ((l.drop k).foldl g b)):=by
    intro n
    induction n with
    | zero =>
      intro k b hn hk hI
      have:k=l.length:=by omega
      subst this
      rw [iter_inr (hend b hI),List.drop_length]; rfl
    | succ n ih =>
      intro k b hn hk hI
      have hk':k<l.length:=by omega
      obtain ⟨h1,h2⟩:=hstep k b hk' hI
      rw [iter_inl h1,ih (k+1) _ (by omega) (by omega) h2,List.drop_eq_getElem_cons hk']; rfl
  have:=key _ 0 b rfl (by omega) h0
  simpa using this
def sumI:List Int→Int
  | [] => 0
  | a :: l => a+sumI l
theorem sumI_append (l m:List Int):sumI (l ++ m)=sumI l+sumI m:=by
  induction l with
  | nil => simp [sumI]
  | cons a l ih => simp only [List.cons_append,sumI,ih]; omega
theorem sumI_take_succ (l:List Int) (k:Nat) (h:k<l.length):sumI (l.take (k+1))=sumI (l.take k)+l[k]:=by
  rw [List.take_succ_eq_append_getElem h,sumI_append]; simp [sumI]
theorem foldl_sum (l:List Int):∀ b:Int,l.foldl (fun b a => b+a) b=b+sumI l:=by
  induction l with
  | nil => intro b; simp [sumI]
  | cons a l ih => intro b; simp only [List.foldl_cons,ih,sumI]; omega
theorem sumI_bound (l:List Int) (k:Int) (h:∀ c ∈ l,0≤c∧c≤k):0≤sumI l∧sumI l≤k*l.length:=by
  induction l with
  | nil => simp [sumI]
  | cons a l ih =>
    have h1:=h a (by simp)
    have h2:=ih fun c hc => h c (by simp [hc])
    simp only [sumI,List.length_cons]
    have:k*((l.length+1:Nat):Int)=k*l.length+k:=by rw [Int.natCast_add,Int.mul_add]; simp
    omega
structure Sm (d:api_Distribution):Prop where
  lo:1≤d.Counts.length
  hi:d.Counts.length≤20
  c:∀ c ∈ d.Counts,0≤c∧c≤100
theorem Sm.take {d:api_Distribution} (h:Sm d) (k:Nat):0≤sumI (d.Counts.take k)∧sumI (d.Counts.take k)≤2000:=by
  have:=sumI_bound (d.Counts.take k) 100 (fun c hc => h.c c (List.mem_of_mem_take hc))
  have h2:((d.Counts.take k).length:Int)≤20:=by have:=h.hi; simp; omega
  omega
theorem Sm.all {d:api_Distribution} (h:Sm d):0≤sumI d.Counts∧sumI d.Counts≤2000:=by
  have:=h.take d.Counts.length
  rwa [List.take_length] at this
theorem dValid (d:api_Distribution) (h:Sm d):distribution_Valid d=some true:=by
  unfold distribution_Valid
  have h1:=h.lo
  have h2:=h.hi
  rw [show ((decide ((d.Counts.length:Int)<(1:Int)))||(decide ((201:Int)<(d.Counts.length:Int))))=false by simp; omega,cond_false]
  rw [iter_foldR d.Counts (distribution_Valid_l2 d) (fun b c => b+c) (fun b => .inl b) (fun k b => b=sumI (d.Counts.take k)) (fun k b hk hb => by
    have hc:=h.c d.Counts[k] (List.getElem_mem hk)
    have ht:=h.take k
    refine ⟨?_,by rw [sumI_take_succ _ _ hk,hb]⟩
    simp only [distribution_Valid_l2,ix_nat d.Counts k hk]
    rw [show decide ((k:Int)<(d.Counts.length:Int))=true by simp; omega,cond_true,req_pos (by omega),show ((decide (d.Counts[k]<(0:Int)))||(decide ((1048576:Int)<d.Counts[k])))=false by simp; omega,cond_false,i64_add1 k (by omega),wrap64 (by omega) (by omega)]) (fun b _ => by simp [distribution_Valid_l2]) 0 (by simp [sumI])]
  simp only [Option.bind,distribution_Valid_j1,foldl_sum]
  have:=h.all
  rw [show decide (0+sumI d.Counts≤(1048576:Int))=true by simp; omega]
def below (d:api_Distribution) (s:Int):Int:=sumI (d.Counts.take s.toNat)
theorem dBelow (d:api_Distribution) (s:Int) (h:Sm d):distribution_Below d s=some (below d s):=by
  unfold distribution_Below below
  rw [dValid d h]
  simp only [Option.bind,Bool.not_true,cond_false]
  have h2:=h.hi
  have:=iter_val (f:=distribution_Below_l2 d s) (fun x => 0≤x.2∧x.2≤d.Counts.length∧x.2.toNat≤s.toNat∧x.1=sumI (d.Counts.take x.2.toNat)) (fun x => (d.Counts.length - x.2).toNat) (fun _ => sumI (d.Counts.take s.toNat)) (by
    rintro ⟨b,i⟩ ⟨k1,k2,k3,k4⟩
    simp only at k1 k2 k3 k4
    obtain ⟨k,rfl⟩:∃ k:Nat,i=k:=⟨i.toNat,by omega⟩
    simp only [Int.toNat_natCast] at k3 k4
    simp only [distribution_Below_l2]
    rcases bcases ((decide ((k:Int)<(d.Counts.length:Int)))&&(decide ((k:Int)<s))) with hc | hc <;> rw [hc]
    · left
      simp only [Bool.and_eq_true,decide_eq_true_eq] at hc
      have hk:k<d.Counts.length:=by omega
      have hcc:=h.c d.Counts[k] (List.getElem_mem hk)
      have ht:=h.take k
      rw [cond_true,req_pos (by omega),ix_nat d.Counts k hk,i64_add1 k (by omega),wrap64 (by omega) (by omega)]
      refine ⟨_,rfl,⟨by omega,by simp; omega,by simp; omega,?_⟩,?_,by first | rfl | trivial⟩
      · show b+d.Counts[k]=sumI (d.Counts.take ((k+1:Nat):Int).toNat)
        rw [Int.toNat_natCast,sumI_take_succ _ _ hk,k4]
      · show ((d.Counts.length:Int) - ((k+1:Nat):Int)).toNat<((d.Counts.length:Int) - (k:Int)).toNat
        omega
    · right
      simp only [Bool.and_eq_false_iff,decide_eq_false_iff_not] at hc
      rw [cond_false,k4]
      congr 3
      by_cases hl:k=d.Counts.length
      · rw [hl,List.take_length,List.take_of_length_le (by omega)]
      · have:k=s.toNat:=by omega
        rw [this]) (0,0) ⟨by simp,by simp,by simp,by simp [sumI]⟩
  rw [this]
  rfl
def count (d:api_Distribution):Int:=sumI d.Counts
theorem below_len (d:api_Distribution):below d (d.Counts.length:Int)=count d:=by simp [below,count]
theorem dCount (d:api_Distribution) (h:Sm d):distribution_Count d=some (count d):=by
  unfold distribution_Count
  rw [dBelow d _ h,below_len]; rfl
theorem dDist (t:mark_Dice) (n:Int) (full:Bool) (h:DOK t) (hn:0≤n) (hn2:n≤15):∃ x t',mark_Dice_Distribution t n full=some (x,t')∧DOK t'∧Sm x∧x.Counts.length≤n+1∧∀ c ∈ x.Counts,c≤6:=by
  have main:∀ least:Int,0≤least→least≤1→∃ x t',mark_Dice_Distribution_j3 t n least=some (x,t')∧DOK t'∧Sm x∧x.Counts.length≤n+1∧∀ c ∈ x.Counts,c≤6:=by
    intro least hl0 hl1
    unfold mark_Dice_Distribution_j3
    rw [wrap64 (n:=n+1) (by omega) (by omega)]
    obtain ⟨y,t1,e1,h1,h2,h3⟩:=dNext t (n+1) h (by omega)
    have h4:=h3 (by omega)
    rw [e1]
    simp only [Option.bind]
    rw [wrap64 (n:=1+y) (by omega) (by omega)]
    obtain ⟨⟨L,A,w⟩,e2,g1,g2,g3⟩:=iter_inv (f:=mark_Dice_Distribution_l2 least) (fun s => 0≤s.1∧s.1+s.2.2.2.length=1+y∧DOK ⟨s.2.1,s.2.2.1⟩∧∀ c ∈ s.2.2.2,0≤c∧c≤6) (fun s => s.1.toNat)
      (fun r => DOK ⟨r.1,r.2.1⟩∧(r.2.2.length:Int)=1+y∧∀ c ∈ r.2.2,0≤c∧c≤6) (by
        rintro ⟨i,L,A,w⟩ ⟨k1,k2,k3,k4⟩
        simp only at k1 k2 k3 k4
        simp only [mark_Dice_Distribution_l2]
        rcases bcases (decide ((0:Int)<i)) with hc | hc <;> rw [hc]
        · left
          have hi:0<i:=by simpa using hc
          obtain ⟨a,ta,ea,ha,a1⟩:=dPick ⟨L,A⟩ [(0:Int),(1:Int),(2:Int),(5:Int),(0:Int)] k3 (by decide) (by decide)
          have a2:0≤a∧a≤5:=by simp at a1; omega
          simp only [cond_true,ea,Option.bind]
          rw [req_pos (by simp; omega),wrap64 (n:=i - 1) (by omega) (by omega),wrap64 (n:=least+a) (by omega) (by omega)]
          refine ⟨_,rfl,⟨by show 0≤i - 1; omega,by simp; omega,ha,?_⟩,?_⟩
          · intro c hc
            rcases List.mem_append.1 hc with hc | hc
            · exact k4 c hc
            · simp at hc; omega
          · show (i - 1).toNat<i.toNat
            omega
        · right
          have hi:i=0:=by simp at hc; omega
          exact ⟨_,rfl,k3,by show (w.length:Int)=1+y; omega,k4⟩) (1+y,t1.L,t1.At,[]) ⟨by show 0≤1+y; omega,by simp,h1,by simp⟩
    rw [e2]
    refine ⟨_,_,rfl,g1,⟨by show 1≤w.length; simp only at g2; omega,by show w.length≤20; simp only at g2; omega,fun c hc => by have:=g3 c hc; omega⟩,by show (w.length:Int)≤n+1; simp only at g2; omega,fun c hc => (g3 c hc).2⟩
  unfold mark_Dice_Distribution
  cases full
  · exact main 0 (by omega) (by omega)
  · exact main 1 (by omega) (by omega)
theorem dRoll (t:List Int) (h:t.length≤600):∃ d,mark_Roll t=some d∧DOK d:=⟨_,rfl,⟨h,by simp,by simp⟩⟩
theorem cmpI_mul (x y c:Int) (h:0<c):cmpI (x*c) (y*c)=cmpI x y:=by
  unfold cmpI
  have e1:x*c<y*c ↔ x<y:=⟨fun hh => Int.lt_of_mul_lt_mul_right hh (by omega),fun hh => Int.mul_lt_mul_of_pos_right hh h⟩
  have e2:y*c<x*c ↔ y<x:=⟨fun hh => Int.lt_of_mul_lt_mul_right hh (by omega),fun hh => Int.mul_lt_mul_of_pos_right hh h⟩
  simp only [e1,e2]
theorem newOf_ok (a N:Int) (h1:-1152921504606846976≤a) (h2:a≤1152921504606846976) (h3:0<N) (h4:N≤1152921504606846976):∃ r,newOf a N=(r,0)∧vR r=true∧r.Num*N=a*r.Den∧0<r.Den:=by
  unfold newOf
  rw [if_neg (by omega)]
  have e:∃ r,redOf (!(decide (a<0)==decide (N<0))) a.natAbs N.natAbs=(r,0):=by
    unfold redOf fitOf
    have k1:=Nat.div_le_self a.natAbs (Nat.gcd a.natAbs N.natAbs)
    have k2:=Nat.div_le_self N.natAbs (Nat.gcd a.natAbs N.natAbs)
    rw [if_pos ⟨by omega,by omega⟩]
    exact ⟨_,rfl⟩
  obtain ⟨r,hr⟩:=e
  obtain ⟨g1,g2,g3⟩:=redOf_val _ _ _ (by omega) r hr
  refine ⟨r,hr,g1,?_,g3⟩
  rw [show ((N.natAbs:Nat):Int)=N by omega] at g2
  rw [g2]
  congr 1
  unfold sv
  rw [show decide (N<0)=false by simp; omega]
  by_cases h:a<0
  · simp [h]; omega
  · simp [h]; omega
theorem cmpR_new (r1 r2:api_Ratio) (a N b M:Int) (v1:vR r1=true) (v2:vR r2=true) (e1:r1.Num*N=a*r1.Den) (e2:r2.Num*M=b*r2.Den) (d1:0<r1.Den) (d2:0<r2.Den) (hN:0<N) (hM:0<M):cmpR r1 r2=cmpI (a*M) (b*N):=by
  unfold cmpR
  rw [if_pos ⟨v1,v2⟩,← cmpI_mul _ _ (N*M) (Int.mul_pos hN hM),← cmpI_mul (a*M) (b*N) (r1.Den*r2.Den) (Int.mul_pos d1 d2)]
  congr 1
  · have:r1.Num*r2.Den*(N*M)=(r1.Num*N)*(r2.Den*M):=by grind
    rw [this,e1]; grind
  · have:r2.Num*r1.Den*(N*M)=(r2.Num*M)*(r1.Den*N):=by grind
    rw [this,e2]; grind
theorem cmpI_ge (x y:Int):(0≤cmpI x y) ↔ y≤x:=by
  unfold cmpI; split <;> (try split) <;> omega
theorem light_eq (t:List Int):mark_Light t=some (decide ((t.length:Int)≤600)):=rfl
theorem setI_len {α:Type} (l:List α) (n:Int) (x:α):(setI l n x).length=l.length:=by simp [setI]
theorem setI_get {α:Type} (l:List α) (k:Nat) (x:α) (j:Nat) (h:j<(setI l (k:Int) x).length):(setI l (k:Int) x)[j]=if k=j then x else l[j]'(by simpa [setI] using h):=by
  simp [setI,List.getElem_set]
theorem iter_fill {ρ:Type} (N:Nat) (f:Int × List Int→Option ((Int × List Int) ⊕ ρ)) (g:Nat→Int) (fin:List Int→ρ)
    (hstep:∀ (k:Nat) (w:List Int),k<N→w.length=N→(∀ j (hj:j<w.length),j<k→w[j]=g j)→f ((k:Int),w)=some (.inl (((k+1:Nat):Int),setI w k (g k))))
    (hend:∀ w:List Int,w.length=N→f ((N:Int),w)=some (.inr (fin w))):iter f ((0:Int),rep (N:Int) (0:Int))=some (fin ((List.range N).map g)):=by
  have key:∀ (n k:Nat) (w:List Int),N - k=n→k≤N→w.length=N→(∀ j (hj:j<w.length),j<k→w[j]=g j)→iter f ((k:Int),w)=some (fin ((List.range N).map g)):=by
    intro n
    induction n with
    | zero =>
      intro k w hn hk hl hw
      have:k=N:=by omega
      subst this
      rw [iter_inr (hend w hl)]
      congr 2
      apply List.ext_getElem (by simp [hl])
      intro j h1 h2
      simp only [List.getElem_map,List.getElem_range]
      exact hw j h1 (by omega)
    | succ n ih =>
      intro k w hn hk hl hw
      rw [iter_inl (hstep k w (by omega) hl hw)]
      apply ih (k+1) _ (by omega) (by omega) (by rw [setI_len]; exact hl)
      intro j hj hjk
      rw [setI_get]
      by_cases e:k=j
      · rw [if_pos e,e]
      · rw [if_neg e]; exact hw j _ (by omega)
  exact key _ 0 (rep (N:Int) 0) rfl (by omega) (by simp [rep]) (by omega)
def interp (high low:Int) (n:Nat):List Int:=(List.range (n+1)).map (fun (v:Nat) => high - ((v:Int)*(high - low)+n - 1) / n)
theorem Interp_eq (high low:Int) (n:Nat) (h0:0≤low) (h1:low≤high) (h2:high≤200) (h3:1≤n) (h4:n≤8):boundary_Interpolate high low n=some (interp high low n,0):=by
  unfold boundary_Interpolate boundary_Interpolate_j1
  rw [show (((((decide (low<(0:Int)))||(decide (high<low)))||(decide ((200:Int)<high)))||(decide ((n:Int)<(1:Int))))||(decide ((8:Int)<n)))=false by
    simp; omega,cond_false]
  rw [wrap64 (n:=(n:Int)+1) (by omega) (by omega),req_pos (by omega)]
  have e:((n:Int)+1)=((n+1:Nat):Int):=by omega
  rw [e,iter_fill (n+1) (boundary_Interpolate_l2 high low n) (fun (v:Nat) => high - ((v:Int)*(high - low)+n - 1) / n) (fun w => w) ?_ ?_]
  · rfl
  · intro k w hk hl hw
    have hm:(k:Int)*(high - low)≤8*200:=Int.mul_le_mul (by omega) (by omega) (by omega) (by omega)
    have hm0:0≤(k:Int)*(high - low):=Int.mul_nonneg (by omega) (by omega)
    simp only [boundary_Interpolate_l2,bindV]
    rw [wrap64 (n:=(n:Int)+1) (by omega) (by omega)]
    rw [show (decide ((k:Int)<((rep ((n:Int)+1) (0:Int)).length:Int)))=true by simp [rep]; omega,cond_true,req_pos (by omega)]
    have hq:=Int.ediv_le_self (b:=(n:Int)) (a:=(k:Int)*(high - low)+n - 1) (by omega)
    have hq0:0≤((k:Int)*(high - low)+n - 1) / (n:Int):=Int.ediv_nonneg (by omega) (by omega)
    rw [wrap64 (n:=high - low) (by omega) (by omega),wrap64 (n:=(k:Int)*(high - low)) (by omega) (by omega),wrap64 (n:=(k:Int)*(high - low)+n) (by omega) (by omega),wrap64 (n:=(k:Int)*(high - low)+n - 1) (by omega) (by omega),Int.tdiv_eq_ediv_of_nonneg (by omega),wrap64 (n:=((k:Int)*(high - low)+n - 1) / n) (by omega) (by omega),wrap64 (n:=high - _) (by omega) (by omega),i64_add1 k (by omega)]
  · intro w hl
    simp only [boundary_Interpolate_l2,bindV]
    rw [wrap64 (n:=(n:Int)+1) (by omega) (by omega)]
    rw [show (decide (((n+1:Nat):Int)<((rep ((n:Int)+1) (0:Int)).length:Int)))=false by simp [rep] <;> omega,cond_false]
def rc (d:api_Distribution) (j:Nat):Int:=sumI (d.Counts.drop j)
def RC (d:api_Distribution):List Int:=(List.range (d.Counts.length+1)).map (rc d)
theorem rc_succ (d:api_Distribution) (k:Nat) (h:k<d.Counts.length):rc d k=d.Counts[k]+rc d (k+1):=by
  unfold rc
  rw [List.drop_eq_getElem_cons h]; rfl
theorem rc_len (d:api_Distribution):rc d d.Counts.length=0:=by simp [rc,sumI]
theorem Sm.rc {d:api_Distribution} (h:Sm d) (k:Nat):0≤rc d k∧rc d k≤2000:=by
  have:=sumI_bound (d.Counts.drop k) 100 (fun c hc => h.c c (List.mem_of_mem_drop hc))
  have h2:=h.hi
  have h3:(d.Counts.drop k).length≤20:=by simp; omega
  unfold LS.rc
  omega
theorem RC_len (d:api_Distribution):(RC d).length=d.Counts.length+1:=by simp [RC]
theorem RC_ix (d:api_Distribution) (k:Nat) (h:k≤d.Counts.length):ix (RC d) (k:Int)=rc d k:=by
  rw [ix_nat _ k (by rw [RC_len]; omega)]; simp [RC]
theorem greatest_eq (d:api_Distribution) (h:Sm d):boundary_greatest d=some ((d.Counts.length:Int) - 1):=by
  have:=h.lo; have:=h.hi
  unfold boundary_greatest; rw [wrap64 (by omega) (by omega)]
theorem reach_eq (d:api_Distribution) (h:Sm d):boundary_reaching d=some (RC d):=by
  have h1:=h.lo; have h2:=h.hi
  unfold boundary_reaching boundary_reaching_j1
  rw [wrap64 (n:=(d.Counts.length:Int)+1) (by omega) (by omega),req_pos (by omega),greatest_eq d h]
  simp only [Option.bind]
  have key:∀ (k:Nat) (w:List Int),k≤d.Counts.length→w.length=d.Counts.length+1→(∀ j (hj:j<w.length),k≤j→w[j]=rc d j)→iter (boundary_reaching_l2 d) ((k:Int) - 1,w)=some (RC d):=by
    intro k
    induction k with
    | zero =>
      intro w hk hl hw
      have:boundary_reaching_l2 d (((0:Nat):Int) - 1,w)=some (.inr w):=by simp [boundary_reaching_l2]
      rw [iter_inr this]
      congr 1
      apply List.ext_getElem (by simp [hl,RC])
      intro j h1 h2
      rw [hw j h1 (by omega)]
      simp [RC]
    | succ k ih =>
      intro w hk hl hw
      have hr:=h.rc k
      have e1:ix w ((k+1:Nat):Int)=rc d (k+1):=by rw [ix_nat _ _ (by omega)]; exact hw _ _ (by omega)
      have e2:ix d.Counts (k:Int)=d.Counts[k]:=ix_nat _ _ (by omega)
      have e3:=rc_succ d k (by omega)
      have:boundary_reaching_l2 d (((k+1:Nat):Int) - 1,w)=some (.inl ((k:Int) - 1,setI w k (rc d k))):=by
        simp only [boundary_reaching_l2,bindV]
        rw [show ((k+1:Nat):Int) - 1=(k:Int) by omega]
        rw [show decide ((0:Int)≤(k:Int))=true by simp,cond_true,i64_add1 k (by omega),req_pos (by omega),e1,e2,wrap64 (n:=(k:Int) - 1) (by omega) (by omega),wrap64 (n:=rc d (k+1)+d.Counts[k]) (by omega) (by omega)]
        rw [show rc d (k+1)+d.Counts[k]=rc d k by omega]
      rw [iter_inl this]
      apply ih _ (by omega) (by rw [setI_len]; exact hl)
      intro j hj hjk
      rw [setI_get]
      by_cases e:k=j
      · rw [if_pos e,e]
      · rw [if_neg e]; exact hw j _ (by omega)
  rw [key d.Counts.length _ (by omega) (by simp [rep] <;> omega) (by
    intro j hj hk
    simp [rep] at hj
    have:j=d.Counts.length:=by omega
    subst this
    simp [rep,rc_len])]
def tl (d:api_Distribution) (b:List Int):Nat→List Int
  | 0 => rep ((b.length+1:Nat):Int) 0
  | k+1 => setI (tl d b k) (gr b k:Int) (IntKind.i64.wrap (ix (tl d b k) (gr b k:Int)+ix d.Counts (k:Int)))
theorem tl_len (d:api_Distribution) (b:List Int):∀ k,(tl d b k).length=b.length+1
  | 0 => by simp [tl,rep]
  | k+1 => by simp only [tl]; rw [setI_len,tl_len d b k]
theorem Tally_eq (d:api_Distribution) (b:List Int) (h:Sm d) (hb:Bd b ((d.Counts.length:Int) - 1)):boundary_Tally d b=some (tl d b d.Counts.length,0):=by
  have h1:=h.lo; have h2:=h.hi; have h3:=hb.lo; have h4:=hb.hi
  unfold boundary_Tally boundary_Tally_j1
  rw [dValid d h]
  simp only [Option.bind,Bool.not_true,cond_false]
  rw [greatest_eq d h]
  simp only []
  rw [Check_eq b _ hb (by omega) (by omega)]
  simp only []
  rw [show ((0:Int) != 0)=false by simp,cond_false,wrap64 (n:=(b.length:Int)+1) (by omega) (by omega),req_pos (by omega)]
  have key:∀ (n k:Nat),d.Counts.length - k=n→k≤d.Counts.length→iter (boundary_Tally_l2 d b) ((k:Int),tl d b k)=some (tl d b d.Counts.length):=by
    intro n
    induction n with
    | zero =>
      intro k hn hk
      have:k=d.Counts.length:=by omega
      subst this
      exact iter_inr (by simp [boundary_Tally_l2])
    | succ n ih =>
      intro k hn hk
      have:=gr_le b k
      have:boundary_Tally_l2 d b ((k:Int),tl d b k)=some (.inl (((k+1:Nat):Int),tl d b (k+1))):=by
        simp only [boundary_Tally_l2]
        rw [show decide ((k:Int)<(d.Counts.length:Int))=true by simp; omega,cond_true,req_pos (by omega),Grade_eq b k (by omega)]
        simp only [Option.bind]
        rw [req_pos (by rw [tl_len]; omega),i64_add1 k (by omega)]
        rfl
      rw [iter_inl this,ih (k+1) (by omega) (by omega)]
  have:=key _ 0 rfl (by omega)
  simp only [tl] at this
  rw [show ((b.length:Int)+1)=((b.length+1:Nat):Int) by omega,show ((0:Nat):Int)=0 from rfl] at *
  rw [this]
theorem same_eq (a b:List Int) (h:a.length≤1000):law35_same a b=some (decide (a=b)):=by
  unfold law35_same law35_same_j1
  by_cases hl:a.length=b.length
  · rw [show ((a.length:Int) != (b.length:Int))=false by simp [hl],cond_false]
    have key:∀ (n k:Nat),a.length - k=n→k≤a.length→iter (law35_same_l2 a b) (k:Int)=some (if a.drop k=b.drop k then .inl () else .inr false):=by
      intro n
      induction n with
      | zero =>
        intro k hn hk
        have:k=a.length:=by omega
        subst this
        rw [iter_inr (r:=.inl ()) (by simp [law35_same_l2]),if_pos (by rw [List.drop_length,hl,List.drop_length])]
      | succ n ih =>
        intro k hn hk
        have hk1:k<a.length:=by omega
        have hk2:k<b.length:=by omega
        have he:(a.drop k=b.drop k)=(a[k]=b[k]∧a.drop (k+1)=b.drop (k+1)):=by
          rw [List.drop_eq_getElem_cons hk1,List.drop_eq_getElem_cons hk2,List.cons.injEq]
        by_cases e:a[k]=b[k]
        · rw [iter_inl (s':=((k+1:Nat):Int)) (by
            simp only [law35_same_l2]
            rw [show decide ((k:Int)<(a.length:Int))=true by simp; omega,cond_true,req_pos (by omega),ix_nat _ _ hk1,ix_nat _ _ hk2,e,i64_add1 k (by omega),bne_self_eq_false,cond_false]),ih (k+1) (by omega) (by omega)]
          by_cases e2:a.drop (k+1)=b.drop (k+1)
          · rw [if_pos e2,if_pos (he ▸ ⟨e,e2⟩)]
          · rw [if_neg e2,if_neg (fun x => e2 (he ▸ x).2)]
        · rw [iter_inr (r:=.inr false) (by
            simp only [law35_same_l2]
            rw [show decide ((k:Int)<(a.length:Int))=true by simp; omega,cond_true,req_pos (by omega),ix_nat _ _ hk1,ix_nat _ _ hk2,bne_iff_ne.2 e,cond_true]),if_neg (fun x => e (he ▸ x).1)]
    have:=key _ 0 rfl (by omega)
    rw [show ((0:Nat):Int)=0 from rfl] at this
    rw [this]
    simp only [List.drop_zero]
    by_cases e:a=b
    · simp [e]
    · simp [e]
  · rw [show ((a.length:Int) != (b.length:Int))=true by simp; omega,cond_true]
    have:a ≠ b:=fun e => hl (by rw [e])
    simp [this]
instance (n:Int):Decidable (I64 n):=by unfold I64; infer_instance
theorem cs_eq (part all:Int) (share:api_Ratio) (h:I64 part) (h2:I64 all):boundary_compareShare part all share=some (cmpR (newOf part all).1 share):=by
  unfold boundary_compareShare
  rw [New_eq _ _ h h2]
  simp only [Option.bind]
  rw [Compare_eq]
theorem sm4:Sm ⟨[1,1,1,1]⟩:=⟨by decide,by decide,by decide⟩
theorem check4 (share:api_Ratio) (hv:vR share=true) (h0:0≤share.Num) (h1:share.Num≤share.Den):boundary_check ⟨[1,1,1,1]⟩ share=some 0:=by
  unfold boundary_check
  rw [dValid _ sm4,Valid_eq,hv]
  simp only [Option.bind]
  rw [req_pos (by simp),dCount _ sm4,show count ⟨[1,1,1,1]⟩=4 by decide]
  simp only [Option.getD,Bool.not_true,Bool.or_self,cond_false]
  rw [show ((4:Int)==0)=false by decide,cond_false,show (decide (share.Num<(0:Int))||decide (share.Den<share.Num))=false by simp; omega,cond_false]
theorem RC4:RC ⟨[1,1,1,1]⟩=[4,3,2,1,0]:=by decide
theorem l2_step (share:api_Ratio) (b:Nat) (h0:0<b) (h1:b<5) (c:Int) (hc:cmpR (newOf (ix [(4:Int),3,2,1,0] b) 4).1 share=c) (hi:I64 (ix [(4:Int),3,2,1,0] b)):boundary_Share_l2 share [4,3,2,1,0] b=bif decide (0≤c) then some (.inr (.inr (b,0))) else some (.inl (IntKind.i64.wrap ((b:Int) - 1))):=by
  simp only [boundary_Share_l2]
  rw [show decide ((0:Int)<(b:Int))=true by simp; omega,cond_true,req_pos (by simp; omega),show ix [(4:Int),3,2,1,0] (0:Int)=4 by decide,cs_eq _ _ _ hi (by decide),hc]
  rfl
theorem share4a:boundary_Share ⟨[1,1,1,1]⟩ ⟨1,2⟩=some (2,0):=by
  unfold boundary_Share
  rw [check4 _ (by decide) (by decide) (by decide)]
  simp only [Option.bind]
  rw [show ((0:Int) != 0)=false by simp,cond_false,reach_eq _ sm4,RC4]
  simp only []
  rw [show IntKind.i64.wrap ((([4,3,2,1,0]:List Int).length:Int) - 1)=((4:Nat):Int) by decide]
  rw [iter_inl (l2_step ⟨1,2⟩ 4 (by decide) (by decide) (-1) (by decide) (by decide)),show IntKind.i64.wrap (((4:Nat):Int) - 1)=((3:Nat):Int) by decide]
  rw [iter_inl (l2_step ⟨1,2⟩ 3 (by decide) (by decide) (-1) (by decide) (by decide)),show IntKind.i64.wrap (((3:Nat):Int) - 1)=((2:Nat):Int) by decide]
  rw [iter_inr (l2_step ⟨1,2⟩ 2 (by decide) (by decide) 0 (by decide) (by decide))]
  rfl
theorem share4b:boundary_Share ⟨[1,1,1,1]⟩ ⟨0,1⟩=some (4,0):=by
  unfold boundary_Share
  rw [check4 _ (by decide) (by decide) (by decide)]
  simp only [Option.bind]
  rw [show ((0:Int) != 0)=false by simp,cond_false,reach_eq _ sm4,RC4]
  simp only []
  rw [show IntKind.i64.wrap ((([4,3,2,1,0]:List Int).length:Int) - 1)=((4:Nat):Int) by decide]
  rw [iter_inr (l2_step ⟨0,1⟩ 4 (by decide) (by decide) 0 (by decide) (by decide))]
  rfl
theorem bd31:Bd [3,1] 3:=⟨by decide,by decide,by decide,by
  intro i j hi hj hij
  simp at hi hj
  rcases (show (i=0∧j=0) ∨ (i=0∧j=1) ∨ (i=1∧j=1) by omega) with ⟨rfl,rfl⟩ | ⟨rfl,rfl⟩ | ⟨rfl,rfl⟩ <;> simp⟩
theorem sane_eq:law35_sane=some true:=by
  unfold law35_sane
  rw [share4a,share4b,show (4:Int)=((4:Nat):Int) from rfl,Interp_eq 70 40 4 (by decide) (by decide) (by decide) (by decide) (by decide),Tally_eq _ _ sm4 bd31,show interp 70 40 4=[70,62,55,47,40] by decide,show tl ⟨[1,1,1,1]⟩ [3,1] ([1,1,1,1]:List Int).length=[1,2,1] by decide]
  simp only [Option.bind]
  rw [same_eq _ _ (by decide),same_eq _ _ (by decide),Grade_eq _ _ (by decide),Check_eq _ _ bd31 (by decide) (by decide)]
  rw [req_pos (by simp)]
  decide
theorem interp_len (hi lo:Int) (n:Nat):(interp hi lo n).length=n+1:=by simp [interp]
theorem sbt {α β:Type} (x:α) (f:α→Option β):(some x).bind f=f x:=rfl
def pt (p:Int × Int):api_Point:=⟨⟨p.1,1⟩,⟨p.2,1⟩⟩
def cv (ps:List (Int × Int)):api_Curve:=⟨ps.map pt⟩
structure CO (ps:List (Int × Int)):Prop where
  l0:2≤ps.length
  l1:ps.length≤10
  up:∀ i (h:i+1<ps.length),ps[i].1<ps[i+1].1∧ps[i].2<ps[i+1].2
  b:∀ p ∈ ps,-100≤p.1∧p.1≤100∧-100≤p.2∧p.2≤100
structure CI (ps:List (Int × Int)) (x y:Int):Prop where
  l0:1≤ps.length
  last:ps[ps.length - 1]?=some (x,y)
  up:∀ i (h:i+1<ps.length),ps[i].1<ps[i+1].1∧ps[i].2<ps[i+1].2
  b:∀ p ∈ ps,-4≤p.1∧p.1≤x∧-4≤p.2∧p.2≤y
theorem CI.snoc {ps:List (Int × Int)} {x y x' y':Int} (h:CI ps x y) (hx:x<x') (hy:y<y'):CI (ps ++ [(x',y')]) x' y':=by
  have l0:=h.l0
  refine ⟨by simp,by simp,fun i hi => ?_,fun p hp => ?_⟩
  · simp only [List.length_append,List.length_cons,List.length_nil] at hi
    by_cases h1:i+1<ps.length
    · rw [List.getElem_append_left (by omega),List.getElem_append_left h1]
      exact h.up i h1
    · have e:i=ps.length - 1:=by omega
      subst e
      have hl:=h.last
      rw [List.getElem?_eq_getElem (by omega)] at hl
      have hl:=Option.some.inj hl
      rw [List.getElem_append_left (by omega),hl,List.getElem_append_right (by omega)]
      simp
      exact ⟨hx,hy⟩
  · rcases List.mem_append.1 hp with hp | hp
    · have:=h.b p hp; omega
    · simp at hp; subst hp
      have hm:(x,y) ∈ ps:=by
        have:=h.last
        exact List.mem_of_getElem? this
      have:=h.b _ hm
      simp at this ⊢
      omega
theorem curve_loop:∀ (n:Nat) (ps:List (Int × Int)) (x y:Int) (d:mark_Dice),DOK d→CI ps x y→x≤100 - 3*n→y≤100 - 4*n→x≤100→y≤100→ps.length+n≤10→n≤8 →
    ∃ qs d' x' y',iter mark_Dice_Curve_l2 (x,y,(n:Int),d.L,d.At,ps.map pt)=some (d'.L,d'.At,qs.map pt)∧DOK d'∧CI qs x' y'∧x'≤100∧y'≤100∧qs.length=ps.length+n:=by
  intro n
  induction n with
  | zero =>
    intro ps x y d hd hc h1 h2 h3 h4 h5 h6
    exact ⟨ps,d,x,y,iter_inr (by simp [mark_Dice_Curve_l2]),hd,hc,h3,h4,by omega⟩
  | succ n ih =>
    intro ps x y d hd hc h1 h2 h3 h4 h5 h6
    have hxl:-4≤x∧-4≤y:=by
      have hm:(x,y) ∈ ps:=List.mem_of_getElem? hc.last
      have:=hc.b _ hm
      simp at this; omega
    obtain ⟨a,d1,e1,k1,a0,a1⟩:=dNext d 3 hd (by omega)
    have a1:=a1 (by omega)
    obtain ⟨b,d2,e2,k2,b0,b1⟩:=dNext d1 4 k1 (by omega)
    have b1:=b1 (by omega)
    have hs:mark_Dice_Curve_l2 (x,y,((n+1:Nat):Int),d.L,d.At,ps.map pt)=some (.inl (x+1+a,y+1+b,(n:Int),d2.L,d2.At,(ps ++ [(x+1+a,y+1+b)]).map pt)):=by
      simp only [mark_Dice_Curve_l2]
      rw [show decide ((0:Int)<((n+1:Nat):Int))=true by simp <;> omega,cond_true,show mark_Dice.mk d.L d.At=d from rfl,e1,sbt]
      dsimp only
      rw [e2,sbt]
      dsimp only
      rw [req_pos (by simp; omega)]
      unfold bindV
      rw [wrap64 (n:=x+1) (by omega) (by omega),wrap64 (n:=y+1) (by omega) (by omega),wrap64 (n:=x+1+a) (by omega) (by omega),wrap64 (n:=y+1+b) (by omega) (by omega),wrap64 (n:=((n+1:Nat):Int) - 1) (by omega) (by omega)]
      rw [List.map_append,show (((n+1:Nat):Int) - 1)=(n:Int) by omega]
      rfl
    rw [iter_inl hs]
    obtain ⟨qs,d',x',y',g1,g2,g3,g4,g5,g6⟩:=ih (ps ++ [(x+1+a,y+1+b)]) (x+1+a) (y+1+b) d2 k2 (hc.snoc (by omega) (by omega)) (by omega) (by omega) (by omega) (by omega) (by simp; omega) (by omega)
    exact ⟨qs,d',x',y',g1,g2,g3,g4,g5,by simp at g6; omega⟩
theorem dCurve (d:mark_Dice) (hd:DOK d):∃ ps d',mark_Dice_Curve d=some (cv ps,d')∧DOK d'∧CO ps:=by
  unfold mark_Dice_Curve mark_Dice_Curve_j1
  obtain ⟨x,d1,e1,k1,x0,x1⟩:=dNext d 9 hd (by omega)
  have x1:=x1 (by omega)
  obtain ⟨y,d2,e2,k2,y0,y1⟩:=dNext d1 9 k1 (by omega)
  have y1:=y1 (by omega)
  obtain ⟨n,d3,e3,k3,n0,n1⟩:=dNext d2 4 k2 (by omega)
  have n1:=n1 (by omega)
  rw [e1,sbt]
  dsimp only
  rw [e2,sbt]
  dsimp only
  rw [e3,sbt]
  dsimp only
  rw [wrap64 (n:=(1:Int)+n) (by omega) (by omega),show decide ((0:Int)<1+n)=true by simp; omega,cond_true]
  obtain ⟨a,d4,e4,k4,a0,a1⟩:=dNext d3 3 k3 (by omega)
  have a1:=a1 (by omega)
  obtain ⟨b,d5,e5,k5,b0,b1⟩:=dNext d4 4 k4 (by omega)
  have b1:=b1 (by omega)
  rw [e4,sbt]
  dsimp only
  rw [e5,sbt]
  dsimp only
  unfold bindV
  dsimp only
  rw [req_pos (by simp)]
  rw [wrap64 (n:=x - 4) (by omega) (by omega),wrap64 (n:=y - 4) (by omega) (by omega),wrap64 (n:=x - 4+1) (by omega) (by omega),wrap64 (n:=y - 4+1) (by omega) (by omega),wrap64 (n:=x - 4+1+a) (by omega) (by omega),wrap64 (n:=y - 4+1+b) (by omega) (by omega),wrap64 (n:=(1:Int)+n - 1) (by omega) (by omega)]
  have c1:CI [(x - 4,y - 4)] (x - 4) (y - 4):=⟨by simp,by simp,fun i h => absurd h (by simp),fun p hp => by simp at hp; subst hp; simp; omega⟩
  have c2:=c1.snoc (show x - 4<x - 4+1+a by omega) (show y - 4<y - 4+1+b by omega)
  obtain ⟨k,hk⟩:∃ k:Nat,(1:Int)+n - 1=k:=⟨n.toNat,by omega⟩
  obtain ⟨qs,d',x',y',g1,g2,g3,g4,g5,g6⟩:=curve_loop k _ _ _ d5 k5 c2 (by omega) (by omega) (by omega) (by omega) (by simp; omega) (by omega)
  rw [hk]
  have g1':iter mark_Dice_Curve_l2 (x - 4+1+a,y - 4+1+b,(k:Int),d5.L,d5.At,[(api_Point.mk (api_Ratio.mk (x - 4) (1:Int)) (api_Ratio.mk (y - 4) (1:Int)))] ++ [(api_Point.mk (api_Ratio.mk (x - 4+1+a) (1:Int)) (api_Ratio.mk (y - 4+1+b) (1:Int)))])=_:=g1
  rw [g1',sbt]
  simp at g6
  exact ⟨qs,d',rfl,g2,by omega,by omega,g3.up,fun p hp => by have:=g3.b p hp; omega⟩
theorem shr1 (x:Nat):bShr .u64 (x:Int) 1=((x / 2:Nat):Int):=by
  unfold bShr
  rw [show (2:Int) ^ (min (Int.toNat 1) (IntKind.bits .u64))=2 by decide,Int.fdiv_eq_ediv_of_nonneg _ (by omega)]
  omega
theorem rep_len (n:Nat) (x:Int):(rep (n:Int) x).length=n:=by simp [rep]
def fx (R:List Int) (x:Int):Nat:=R.findIdx (fun c => decide (x≤c))
theorem l3_ok (b:List Int) (top:Nat) (R:List Int) (hR:R.length=top+1) (ht:top≤200) (v:Nat) (hv:v<b.length):∀ (n j:Nat) (W:List Int),fx R b[v] - j=n→j≤fx R b[v]→W.length=b.length→(∀ hw:v<W.length,W[v]=j) →
    ∃ W':List Int,iter (boundary_Transfer_l3 b (top:Int) R (v:Int)) W=some W'∧W'.length=b.length∧(∀ i (hi:i<W'.length) (hi2:i<W.length),i ≠ v→W'[i]=W[i])∧∀ hw:v<W'.length,W'[v]=(fx R b[v]:Int):=by
  have hfl:fx R b[v]≤top+1:=by rw [← hR]; exact List.findIdx_le_length
  intro n
  induction n with
  | zero =>
    intro j W h1 h2 h3 h4
    have hj:j=fx R b[v]:=by omega
    have hw:v<W.length:=by omega
    refine ⟨W,iter_inr ?_,h3,fun _ _ _ _ => rfl,fun _ => by rw [h4 hw,hj]⟩
    simp only [boundary_Transfer_l3]
    rw [ix_nat W v hw,h4 hw,req_pos ⟨by omega,fun _ => by omega,fun hh => by
      have:(j:Int)≤(top:Int):=by simpa using hh
      omega⟩]
    by_cases hc:j≤top
    · have hjl:j<R.length:=by omega
      have:b[v]≤R[j]:=by
        have:=List.findIdx_getElem (w:=by show fx R b[v]<R.length; omega) (p:=fun c => decide (b[v]≤c)) (xs:=R)
        have h5:decide (b[v]≤R[fx R b[v]]'(by omega))=true:=this
        simp only [← hj] at h5
        simpa using h5
      rw [ix_nat b v hv,ix_nat R j hjl,show decide (R[j]<b[v])=false by simp only [decide_eq_false_iff_not]; omega,Bool.and_false,cond_false]
    · rw [show decide ((j:Int)≤(top:Int))=false by simp only [decide_eq_false_iff_not]; omega,Bool.false_and,cond_false]
  | succ n ih =>
    intro j W h1 h2 h3 h4
    have hw:v<W.length:=by omega
    have hjl:j<R.length:=by omega
    have hlt:R[j]<b[v]:=by
      have:j<R.findIdx (fun c => decide (b[v]≤c)):=by show j<fx R b[v]; omega
      have:=List.not_of_lt_findIdx this
      simp at this; exact this
    have hs:boundary_Transfer_l3 b (top:Int) R (v:Int) W=some (.inl (setI W (v:Int) ((j+1:Nat):Int))):=by
      simp only [boundary_Transfer_l3]
      rw [ix_nat W v hw,h4 hw,req_pos ⟨by omega,fun _ => by omega,fun _ => by omega⟩,ix_nat b v hv,ix_nat R j hjl,show decide ((j:Int)≤(top:Int))=true by simp only [decide_eq_true_eq]; omega,show decide (R[j]<b[v])=true by simpa using hlt,Bool.and_self,cond_true,req_pos (by omega),i64_add1 j (by omega)]
    rw [iter_inl hs]
    obtain ⟨W',g1,g2,g3,g4⟩:=ih (j+1) (setI W (v:Int) ((j+1:Nat):Int)) (by omega) (by omega) (by rw [setI_len]; exact h3) (fun hw => by rw [setI_get,if_pos rfl])
    refine ⟨W',g1,g2,fun i hi hi2 hne => ?_,g4⟩
    rw [g3 i hi (by rw [setI_len]; exact hi2) hne,setI_get,if_neg (fun e => hne e.symm)]
theorem l4_ok (b:List Int) (top:Nat) (R:List Int) (hR:R.length=top+1) (ht:top≤200) (hb:b.length≤1000):∀ (n v:Nat) (W:List Int),b.length - v=n→v≤b.length→W.length=b.length→(∀ i (hi:i<W.length) (hb:i<b.length),i<v→W[i]=(fx R b[i]:Int))→(∀ i (hi:i<W.length),v≤i→W[i]=0) →
    iter (boundary_Transfer_l4 b (top:Int) R) ((v:Int),W)=some (b.map fun x => (fx R x:Int)):=by
  intro n
  induction n with
  | zero =>
    intro v W h1 h2 h3 h4 h5
    have:v=b.length:=by omega
    subst this
    have hW:W=b.map fun x => (fx R x:Int):=by
      refine List.ext_getElem (by simp [h3]) (fun i hi hi2 => ?_)
      rw [List.getElem_map]
      exact h4 i hi (by omega) (by omega)
    rw [← hW]
    exact iter_inr (by simp [boundary_Transfer_l4])
  | succ n ih =>
    intro v W h1 h2 h3 h4 h5
    have hv:v<b.length:=by omega
    obtain ⟨W',g1,g2,g3,g4⟩:=l3_ok b top R hR ht v hv _ 0 W rfl (by omega) h3 (fun hw => h5 v hw (Nat.le_refl _))
    have hs:boundary_Transfer_l4 b (top:Int) R ((v:Int),W)=some (.inl (((v+1:Nat):Int),W')):=by
      simp only [boundary_Transfer_l4,boundary_Transfer_j2]
      rw [show decide ((v:Int)<(b.length:Int))=true by simp; exact hv,cond_true,req_pos (by omega),g1,sbt,i64_add1 v (by omega)]
    rw [iter_inl hs]
    refine ih (v+1) W' (by omega) (by omega) g2 (fun i hi hi2 hlt => ?_) (fun i hi hle => ?_)
    · by_cases e:i=v
      · subst e; exact g4 hi
      · rw [g3 i hi (by omega) e]; exact h4 i (by omega) hi2 (by omega)
    · rw [g3 i hi (by omega) (by omega)]; exact h5 i (by omega) (by omega)
def nr (Y:Nat→Int) (N D:Int):Nat→Nat
  | 0 => 0
  | k+1 => if Y k<Y (nr Y N D k)∧N*(2*Y 0)<(Y k+Y (nr Y N D k))*D then k else nr Y N D k
theorem nr_le (Y:Nat→Int) (N D:Int):∀ k,nr Y N D k≤k - 1
  | 0 => by simp [nr]
  | k+1 => by
    have:=nr_le Y N D k
    simp only [nr]
    split <;> omega
def sh (ref:api_Distribution) (x:Int):api_Ratio:=(newOf (rc ref x.toNat) (rc ref 0)).1
def nn (d ref:api_Distribution) (x:Int):Nat:=nr (rc d) (sh ref x).Num (sh ref x).Den (d.Counts.length+1)
def og (d ref:api_Distribution) (b:List Int):Nat→Int
  | 0 => nn d ref (b.getD 0 0)
  | v+1 => min (nn d ref (b.getD (v+1) 0):Int) (og d ref b v)
def OG (d ref:api_Distribution) (b:List Int):List Int:=(List.range b.length).map (og d ref b)
theorem setI_setI (w:List Int) (v:Int) (x z:Int):setI (setI w v x) v z=setI w v z:=by simp [setI,List.set_set]
theorem gsb {α β:Type} (x:α) (f:α→Option β):(some x).bind f=f x:=rfl
theorem g_nn:∀ (l:List Int),(∀ c ∈ l,0≤c)→0≤sumI l
  | [],_ => by simp [sumI]
  | a :: l,h => by
    have h0:=h a (by simp)
    have h1:=g_nn l (fun c hc => h c (List.mem_cons_of_mem _ hc))
    simp only [sumI]; omega
theorem g_le:∀ (l:List Int),(∀ c ∈ l,0≤c)→∀ x ∈ l,x≤sumI l
  | [],_,x,hx => by cases hx
  | a :: l,h,x,hx => by
    have h0:=h a (by simp)
    have h1:=g_nn l (fun c hc => h c (List.mem_cons_of_mem _ hc))
    simp only [sumI]
    rcases List.mem_cons.1 hx with rfl | hx
    · omega
    · have:=g_le l (fun c hc => h c (List.mem_cons_of_mem _ hc)) x hx; omega
structure Gd (d:api_Distribution):Prop where
  lo:1≤d.Counts.length
  hi:d.Counts.length≤201
  c:∀ c ∈ d.Counts,0≤c
  s:sumI d.Counts≤1048576
theorem Gd.take {d:api_Distribution} (h:Gd d) (k:Nat):0≤sumI (d.Counts.take k)∧sumI (d.Counts.take k)≤1048576:=by
  refine ⟨g_nn _ fun c hc => h.c c (List.mem_of_mem_take hc),?_⟩
  have h1:=h.s
  have h2:=g_nn (d.Counts.drop k) fun c hc => h.c c (List.mem_of_mem_drop hc)
  have h3:=sumI_append (d.Counts.take k) (d.Counts.drop k)
  rw [List.take_append_drop] at h3
  omega
theorem Gd.cb {d:api_Distribution} (h:Gd d) (c:Int) (hc:c ∈ d.Counts):0≤c∧c≤1048576:=by
  have h1:=h.s
  have h2:=g_le _ h.c c hc
  exact ⟨h.c c hc,by omega⟩
open Classical in
noncomputable def vD (d:api_Distribution):Bool:=decide (Gd d)
theorem vD_t {d:api_Distribution} (h:Gd d):vD d=true:=by unfold vD; simp [h]
theorem vD_f {d:api_Distribution} (h:¬ Gd d):vD d=false:=by unfold vD; simp [h]
theorem vD_iff (d:api_Distribution):vD d=true ↔ Gd d:=by unfold vD; simp
theorem val1 (d:api_Distribution) (hl:d.Counts.length≤201):∀ (n k:Nat),d.Counts.length - k=n→k≤d.Counts.length→(0≤sumI (d.Counts.take k)∧sumI (d.Counts.take k)≤1048576*k) →
    ((∀ c ∈ d.Counts.drop k,0≤c∧c≤1048576)→iter (distribution_Valid_l2 d) (sumI (d.Counts.take k),(k:Int))=some (.inl (sumI d.Counts))) ∧
    ((∃ c ∈ d.Counts.drop k,¬ (0≤c∧c≤1048576))→iter (distribution_Valid_l2 d) (sumI (d.Counts.take k),(k:Int))=some (.inr false)):=by
  intro n
  induction n with
  | zero =>
    intro k hn hk hb
    have:k=d.Counts.length:=by omega
    subst this
    refine ⟨fun _ => ?_,fun ⟨c,hc,_⟩ => by rw [List.drop_length] at hc; cases hc⟩
    refine iter_inr ?_
    simp only [distribution_Valid_l2]
    rw [show decide ((d.Counts.length:Int)<(d.Counts.length:Int))=false by simp,cond_false,List.take_length]
  | succ n ih =>
    intro k hn hk hb
    have hk':k<d.Counts.length:=by omega
    rw [List.drop_eq_getElem_cons hk']
    by_cases hc:0≤d.Counts[k]∧d.Counts[k]≤1048576
    · have e:distribution_Valid_l2 d (sumI (d.Counts.take k),(k:Int))=some (.inl (sumI (d.Counts.take (k+1)),((k+1:Nat):Int))):=by
        simp only [distribution_Valid_l2,ix_nat d.Counts k hk']
        rw [show decide ((k:Int)<(d.Counts.length:Int))=true by simp; omega,cond_true,req_pos (by omega),show ((decide (d.Counts[k]<(0:Int)))||(decide ((1048576:Int)<d.Counts[k])))=false by simp; omega,cond_false,i64_add1 k (by omega),wrap64 (by omega) (by omega),sumI_take_succ _ _ hk']
      rw [iter_inl e]
      obtain ⟨i1,i2⟩:=ih (k+1) (by omega) (by omega) (by rw [sumI_take_succ _ _ hk']; omega)
      refine ⟨fun h => i1 fun c hc => h c (List.mem_cons_of_mem _ hc),fun ⟨c,h1,h2⟩ => i2 ⟨c,?_,h2⟩⟩
      rcases List.mem_cons.1 h1 with rfl | h1
      · exact absurd hc h2
      · exact h1
    · have e:distribution_Valid_l2 d (sumI (d.Counts.take k),(k:Int))=some (.inr (.inr false)):=by
        simp only [distribution_Valid_l2,ix_nat d.Counts k hk']
        rw [show decide ((k:Int)<(d.Counts.length:Int))=true by simp; omega,cond_true,req_pos (by omega),show ((decide (d.Counts[k]<(0:Int)))||(decide ((1048576:Int)<d.Counts[k])))=true by simp; omega,cond_true]
      exact ⟨fun h => absurd (h d.Counts[k] List.mem_cons_self) hc,fun _ => iter_inr e⟩
theorem val2 (d:api_Distribution) (hl:d.Counts.length≤201):∀ (n k:Nat),d.Counts.length - k=n→k≤d.Counts.length→(0≤sumI (d.Counts.take k)∧sumI (d.Counts.take k)≤1048576) →
    (((∀ c ∈ d.Counts.drop k,0≤c)∧sumI d.Counts≤1048576)→iter (ref32_Valid_l2 d) (sumI (d.Counts.take k),(k:Int))=some (.inl ())) ∧
    (¬ ((∀ c ∈ d.Counts.drop k,0≤c)∧sumI d.Counts≤1048576)→iter (ref32_Valid_l2 d) (sumI (d.Counts.take k),(k:Int))=some (.inr false)):=by
  intro n
  induction n with
  | zero =>
    intro k hn hk hb
    have:k=d.Counts.length:=by omega
    subst this
    rw [List.take_length] at hb ⊢
    refine ⟨fun _ => ?_,fun h => absurd ⟨fun c hc => (by rw [List.drop_length] at hc; cases hc),hb.2⟩ h⟩
    refine iter_inr ?_
    simp only [ref32_Valid_l2]
    rw [show decide ((d.Counts.length:Int)<(d.Counts.length:Int))=false by simp,cond_false]
  | succ n ih =>
    intro k hn hk hb
    have hk':k<d.Counts.length:=by omega
    have hsum:sumI d.Counts=sumI (d.Counts.take k)+(d.Counts[k]+sumI (d.Counts.drop (k+1))):=by
      have:=sumI_append (d.Counts.take k) (d.Counts.drop k)
      rw [List.take_append_drop,List.drop_eq_getElem_cons hk'] at this
      exact this
    rw [List.drop_eq_getElem_cons hk']
    by_cases hc:0≤d.Counts[k]∧sumI (d.Counts.take k)+d.Counts[k]≤1048576
    · have e:ref32_Valid_l2 d (sumI (d.Counts.take k),(k:Int))=some (.inl (sumI (d.Counts.take (k+1)),((k+1:Nat):Int))):=by
        simp only [ref32_Valid_l2,ix_nat d.Counts k hk']
        rw [show decide ((k:Int)<(d.Counts.length:Int))=true by simp; omega,cond_true,req_pos ⟨by omega,fun _ => by omega⟩,wrap64 (n:=1048576 - sumI (d.Counts.take k)) (by omega) (by omega),show ((decide (d.Counts[k]<(0:Int)))||(decide (1048576 - sumI (d.Counts.take k)<d.Counts[k])))=false by simp; omega,cond_false,req_pos (by omega),i64_add1 k (by omega),wrap64 (by omega) (by omega),sumI_take_succ _ _ hk']
      rw [iter_inl e]
      obtain ⟨i1,i2⟩:=ih (k+1) (by omega) (by omega) (by rw [sumI_take_succ _ _ hk']; omega)
      refine ⟨fun h => i1 ⟨fun c hc => h.1 c (List.mem_cons_of_mem _ hc),h.2⟩,fun h => i2 fun h' => h ⟨fun c h1 => ?_,h'.2⟩⟩
      rcases List.mem_cons.1 h1 with rfl | h1
      · exact hc.1
      · exact h'.1 c h1
    · have e:ref32_Valid_l2 d (sumI (d.Counts.take k),(k:Int))=some (.inr (.inr false)):=by
        simp only [ref32_Valid_l2,ix_nat d.Counts k hk']
        rw [show decide ((k:Int)<(d.Counts.length:Int))=true by simp; omega,cond_true,req_pos ⟨by omega,fun _ => by omega⟩,wrap64 (n:=1048576 - sumI (d.Counts.take k)) (by omega) (by omega),show ((decide (d.Counts[k]<(0:Int)))||(decide (1048576 - sumI (d.Counts.take k)<d.Counts[k])))=true by simp; omega,cond_true]
      refine ⟨fun h => ?_,fun _ => iter_inr e⟩
      exfalso
      apply hc
      have h1:=h.1 d.Counts[k] List.mem_cons_self
      have h2:=g_nn (d.Counts.drop (k+1)) fun c hc => h.1 c (List.mem_cons_of_mem _ hc)
      have h3:=h.2
      exact ⟨h1,by omega⟩
theorem gValid (d:api_Distribution):distribution_Valid d=some (vD d):=by
  unfold distribution_Valid
  by_cases hl:1≤d.Counts.length∧d.Counts.length≤201
  · rw [show ((decide ((d.Counts.length:Int)<(1:Int)))||(decide ((201:Int)<(d.Counts.length:Int))))=false by simp; omega,cond_false]
    obtain ⟨i1,i2⟩:=val1 d hl.2 _ 0 rfl (by omega) (by simp [sumI])
    have z:((0:Int),(0:Int))=(sumI (d.Counts.take 0),((0:Nat):Int)):=by simp [sumI]
    rw [z]
    by_cases hc:∀ c ∈ d.Counts.drop 0,0≤c∧c≤1048576
    · rw [i1 hc,gsb]
      show distribution_Valid_j1 _=_
      unfold distribution_Valid_j1
      rw [List.drop_zero] at hc
      by_cases hs:sumI d.Counts≤1048576
      · rw [vD_t ⟨hl.1,hl.2,fun c h => (hc c h).1,hs⟩,show decide (sumI d.Counts≤(1048576:Int))=true by simpa using hs]
      · rw [vD_f fun h => hs h.s,show decide (sumI d.Counts≤(1048576:Int))=false by simpa using hs]
    · have hc':∃ c ∈ d.Counts.drop 0,¬ (0≤c∧c≤1048576):=by
        refine Classical.byContradiction fun h => hc fun c h1 => Classical.byContradiction fun h2 => h ⟨c,h1,h2⟩
      rw [i2 hc',gsb]
      show some false=_
      rw [vD_f fun h => hc fun c h1 => h.cb c (by simpa using h1)]
  · rw [show ((decide ((d.Counts.length:Int)<(1:Int)))||(decide ((201:Int)<(d.Counts.length:Int))))=true by simp; omega,cond_true,vD_f fun h => hl ⟨h.lo,h.hi⟩]
theorem gValidR (d:api_Distribution):ref32_Valid d=some (vD d):=by
  unfold ref32_Valid
  by_cases hl:1≤d.Counts.length∧d.Counts.length≤201
  · rw [show ((decide ((d.Counts.length:Int)<(1:Int)))||(decide ((201:Int)<(d.Counts.length:Int))))=false by simp; omega,cond_false]
    obtain ⟨i1,i2⟩:=val2 d hl.2 _ 0 rfl (by omega) (by simp [sumI])
    have z:((0:Int),(0:Int))=(sumI (d.Counts.take 0),((0:Nat):Int)):=by simp [sumI]
    rw [z]
    by_cases hc:(∀ c ∈ d.Counts.drop 0,0≤c)∧sumI d.Counts≤1048576
    · rw [i1 hc,gsb]
      show some true=_
      rw [List.drop_zero] at hc
      rw [vD_t ⟨hl.1,hl.2,hc.1,hc.2⟩]
    · rw [i2 hc,gsb]
      show some false=_
      rw [vD_f fun h => hc ⟨fun c h1 => h.c c (by simpa using h1),h.s⟩]
  · rw [show ((decide ((d.Counts.length:Int)<(1:Int)))||(decide ((201:Int)<(d.Counts.length:Int))))=true by simp; omega,cond_true,vD_f fun h => hl ⟨h.lo,h.hi⟩]
noncomputable def bl (d:api_Distribution) (s:Int):Int:=if vD d=true then sumI (d.Counts.take s.toNat) else 0
noncomputable def cn (d:api_Distribution):Int:=if vD d=true then sumI d.Counts else 0
theorem bl_b (d:api_Distribution) (s:Int):0≤bl d s∧bl d s≤1048576:=by
  unfold bl
  split
  · rename_i h; exact ((vD_iff d).1 h).take _
  · omega
theorem bl_len (d:api_Distribution) (s:Int) (h:(d.Counts.length:Int)≤s):bl d s=cn d:=by
  unfold bl cn
  rw [List.take_of_length_le (by omega)]
theorem cn_b (d:api_Distribution):0≤cn d∧cn d≤1048576:=by rw [← bl_len d _ (Int.le_refl _)]; exact bl_b d _
theorem gBelow (d:api_Distribution) (s:Int):distribution_Below d s=some (bl d s):=by
  unfold distribution_Below
  rw [gValid,gsb]
  by_cases hv:vD d=true
  · have h:=(vD_iff d).1 hv
    have hi:=h.hi
    rw [hv,Bool.not_true,cond_false]
    unfold bl
    rw [if_pos hv]
    have key:∀ (n k:Nat),d.Counts.length - k=n→k≤d.Counts.length→k≤s.toNat→iter (distribution_Below_l2 d s) (sumI (d.Counts.take k),(k:Int))=some (sumI (d.Counts.take s.toNat)):=by
      intro n
      induction n with
      | zero =>
        intro k hn hk hs
        have:k=d.Counts.length:=by omega
        subst this
        refine iter_inr ?_
        simp only [distribution_Below_l2]
        rw [show decide ((d.Counts.length:Int)<(d.Counts.length:Int))=false by simp,Bool.false_and,cond_false,List.take_of_length_le (Nat.le_refl _),List.take_of_length_le hs]
      | succ n ih =>
        intro k hn hk hs
        have hk':k<d.Counts.length:=by omega
        by_cases hc:k<s.toNat
        · have t1:=h.take (k+1)
          have t0:=h.take k
          have e:distribution_Below_l2 d s (sumI (d.Counts.take k),(k:Int))=some (.inl (sumI (d.Counts.take (k+1)),((k+1:Nat):Int))):=by
            have ts:=sumI_take_succ _ _ hk'
            simp only [distribution_Below_l2,ix_nat d.Counts k hk']
            rw [show (decide ((k:Int)<(d.Counts.length:Int))&&decide ((k:Int)<s))=true by simp; omega,cond_true,req_pos (by omega),i64_add1 k (by omega),← ts,wrap64 (by omega) (by omega)]
          rw [iter_inl e]
          exact ih (k+1) (by omega) (by omega) (by omega)
        · have:k=s.toNat:=by omega
          refine iter_inr ?_
          simp only [distribution_Below_l2]
          rw [show decide ((k:Int)<s)=false by simp; omega,Bool.and_false,cond_false,this]
    have:=key _ 0 rfl (by omega) (by omega)
    rw [List.take_zero] at this
    rw [show ((0:Int),(0:Int))=(sumI [],((0:Nat):Int)) from rfl,this,gsb]
    rfl
  · have hv:vD d=false:=by simpa using hv
    rw [hv,Bool.not_false,cond_true]
    unfold bl
    rw [hv,if_neg (by decide)]
theorem gBelowR (d:api_Distribution) (s:Int):ref32_Below d s=some (bl d s):=by
  unfold ref32_Below
  by_cases hv:vD d=true
  · have h:=(vD_iff d).1 hv
    have hi:=h.hi
    unfold bl
    rw [if_pos hv]
    have key:∀ (n k:Nat),d.Counts.length - k=n→k≤d.Counts.length→k≤s.toNat→iter (ref32_Below_l2 d s) (sumI (d.Counts.take k),(k:Int))=some (sumI (d.Counts.take s.toNat)):=by
      intro n
      induction n with
      | zero =>
        intro k hn hk hs
        have:k=d.Counts.length:=by omega
        subst this
        refine iter_inr ?_
        simp only [ref32_Below_l2]
        rw [gValidR,show decide ((d.Counts.length:Int)<(d.Counts.length:Int))=false by simp,Bool.false_and,Bool.false_and,cond_false,req_pos (fun h => by cases h),List.take_of_length_le (Nat.le_refl _),List.take_of_length_le hs]
      | succ n ih =>
        intro k hn hk hs
        have hk':k<d.Counts.length:=by omega
        by_cases hc:k<s.toNat
        · have t1:=h.take (k+1)
          have t0:=h.take k
          have e:ref32_Below_l2 d s (sumI (d.Counts.take k),(k:Int))=some (.inl (sumI (d.Counts.take (k+1)),((k+1:Nat):Int))):=by
            have ts:=sumI_take_succ _ _ hk'
            simp only [ref32_Below_l2,ix_nat d.Counts k hk']
            rw [gValidR,hv,Option.getD_some,Bool.and_true,Option.isSome_some]
            simp only [implies_true,req_true]
            rw [show (decide ((k:Int)<(d.Counts.length:Int))&&decide ((k:Int)<s))=true by simp; omega,cond_true,req_pos (by omega),i64_add1 k (by omega),← ts,wrap64 (by omega) (by omega)]
          rw [iter_inl e]
          exact ih (k+1) (by omega) (by omega) (by omega)
        · have:k=s.toNat:=by omega
          refine iter_inr ?_
          simp only [ref32_Below_l2]
          rw [show decide ((k:Int)<s)=false by simp; omega,Bool.and_false,Bool.false_and,cond_false,req_pos (fun h => by cases h),this]
    have:=key _ 0 rfl (by omega) (by omega)
    rw [List.take_zero] at this
    rw [show ((0:Int),(0:Int))=(sumI [],((0:Nat):Int)) from rfl,this,gsb]
    rfl
  · have hv:vD d=false:=by simpa using hv
    unfold bl
    rw [hv,if_neg (by decide),iter_inr (r:=(0:Int)),gsb]
    · rfl
    · simp only [ref32_Below_l2]
      rw [gValidR,hv,Option.getD_some,Bool.and_false,cond_false,Option.isSome_some]
      simp only [implies_true,req_true]
theorem gCount (d:api_Distribution):distribution_Count d=some (cn d):=by
  unfold distribution_Count
  rw [gBelow,bl_len d _ (Int.le_refl _)]; rfl
theorem gCountR (d:api_Distribution):ref32_Count d=some (cn d):=by
  unfold ref32_Count
  rw [gBelowR,bl_len d _ (Int.le_refl _)]; rfl
theorem cn_pos {d:api_Distribution} (h:Gd d):cn d=sumI d.Counts:=by unfold cn; rw [vD_t h,if_pos rfl]
theorem gOutside (x:api_Ratio):ref32_Outside x=some ((decide (x.Num<(0:Int)))||(decide (x.Den<x.Num))):=rfl

theorem chk_dn (b:List Int) (hb:b.length≤1000):∀ (n k:Nat),b.length - k=n→1≤k→(k≤b.length ∨ b.length=0) →
    ∃ z,iter (boundary_Check_l2 b) (k:Int)=some z∧(z=.inl ()→∀ i (h:i+1<b.length),k≤i+1→b[i+1]≤b[i]):=by
  intro n
  induction n with
  | zero =>
    intro k hn h1 hk
    refine ⟨.inl (),iter_inr ?_,fun _ i h hi => by omega⟩
    simp only [boundary_Check_l2]
    rw [show decide ((k:Int)<(b.length:Int))=false by simp; omega,cond_false]
  | succ n ih =>
    intro k hn h1 hk
    have hk':k<b.length:=by omega
    obtain ⟨j,rfl⟩:∃ j,k=j+1:=⟨k - 1,by omega⟩
    have e:boundary_Check_l2 b ((j+1:Nat):Int)=bif decide (b[j]<b[j+1]) then some (.inr (.inr 43)) else some (.inl ((j+1+1:Nat):Int)):=by
      simp only [boundary_Check_l2]
      rw [show decide (((j+1:Nat):Int)<(b.length:Int))=true by simp; omega,cond_true,show IntKind.i64.wrap (((j+1:Nat):Int) - 1)=(j:Int) by rw [wrap64 (by omega) (by omega)]; omega,req_pos (by omega),ix_nat b j (by omega),ix_nat b (j+1) hk',i64_add1 (j+1) (by omega)]
    rcases bcases (decide (b[j]<b[j+1])) with h | h
    · rw [h] at e
      exact ⟨_,iter_inr e,fun h => by cases h⟩
    · rw [h] at e
      obtain ⟨z,i1,i2⟩:=ih (j+1+1) (by omega) (by omega) (by omega)
      refine ⟨z,by rw [← i1]; exact iter_inl e,fun hz i hi hik => ?_⟩
      rcases Nat.lt_or_ge (j+1) (i+1) with g | g
      · exact i2 hz i hi (by omega)
      · have:i=j:=by omega
        subst this
        simpa using h
theorem dn_all (b:List Int) (h:∀ i (h:i+1<b.length),b[i+1]≤b[i]):∀ (n i j:Nat) (hi:i<b.length) (hj:j<b.length),j - i=n→i≤j→b[j]≤b[i]:=by
  intro n
  induction n with
  | zero => intro i j hi hj hn hij; have:i=j:=by omega
            subst this; omega
  | succ n ih =>
    intro i j hi hj hn hij
    obtain ⟨k,rfl⟩:∃ k,j=k+1:=⟨j - 1,by omega⟩
    have h1:=h k hj
    have h2:=ih i k hi (by omega) (by omega) (by omega)
    omega
theorem chkT (b:List Int) (m:Int) (hb:b.length≤1000):∃ e,boundary_Check b m=some e∧ref35_Check b m=some e∧(e=0→Bd b m∧0≤m∧m≤200):=by
  unfold boundary_Check ref35_Check boundary_isScore
  rw [gsb]
  by_cases hm:0≤m∧m≤200
  · rw [show (!(decide ((0:Int)≤m)&&decide (m≤(200:Int))))=false by simp; omega,cond_false,show ((decide (m<(0:Int)))||(decide ((200:Int)<m)))=false by simp; omega,cond_false]
    by_cases hl:1≤b.length∧b.length≤9
    · rw [show ((decide ((b.length:Int)<(1:Int)))||(decide ((9:Int)<(b.length:Int))))=false by simp; omega,cond_false,show (((b.length:Int)==(0:Int))||(decide ((9:Int)<(b.length:Int))))=false by
        have h0:b ≠ []:=fun e => by rw [e] at hl; simp at hl
        simp [h0]; omega,cond_false]
      have s1:=iter_scan b (boundary_Check_l4 b m) (fun x => (decide (x<(0:Int)))||(decide (IntKind.i64.wrap (m+1)<x))) (fun _ => (.inr 2:Unit ⊕ Int)) (.inl ()) (fun k hk => by
        simp only [boundary_Check_l4,ix_nat b k hk]
        rw [show decide ((k:Int)<(b.length:Int))=true by simp; omega,cond_true,req_pos (by omega),i64_add1 k (by omega)]
        rcases bcases ((decide (b[k]<(0:Int)))||(decide (IntKind.i64.wrap (m+1)<b[k]))) with h | h <;> rw [h] <;> rfl) (by simp [boundary_Check_l4])
      have s2:=iter_scan b (ref35_Check_l4 b m) (fun x => (decide (x<(0:Int)))||(decide (IntKind.i64.wrap (m+1)<x))) (fun _ => (.inr 2:Unit ⊕ Int)) (.inl ()) (fun k hk => by
        simp only [ref35_Check_l4,ix_nat b k hk]
        rw [show decide ((k:Int)<(b.length:Int))=true by simp; omega,cond_true,req_pos ⟨by omega,fun _ => by omega⟩,i64_add1 k (by omega)]
        rcases bcases ((decide (b[k]<(0:Int)))||(decide (IntKind.i64.wrap (m+1)<b[k]))) with h | h <;> rw [h] <;> rfl) (by simp [ref35_Check_l4])
      rw [find_any] at s1 s2
      rw [s1,s2,gsb,gsb]
      rcases bcases (b.any (fun x => (decide (x<(0:Int)))||(decide (IntKind.i64.wrap (m+1)<x)))) with ha | ha
      · rw [if_pos ha]
        exact ⟨2,rfl,rfl,fun h => by cases h⟩
      · rw [if_neg (by rw [ha]; decide)]
        show ∃ e,boundary_Check_j3 b=some e∧ref35_Check_j3 b=some e∧_
        unfold boundary_Check_j3 ref35_Check_j3
        obtain ⟨z,i1,i2⟩:=chk_dn b hb _ 1 rfl (by omega) (by omega)
        have i1':iter (boundary_Check_l2 b) (1:Int)=some z:=i1
        rw [show ref35_Check_l2 b=boundary_Check_l2 b from rfl,i1',gsb,gsb]
        rcases z with u | z
        · refine ⟨0,rfl,rfl,fun _ => ⟨⟨hl.1,hl.2,fun x hx => ?_,fun i j hi hj hij => dn_all b (fun i h => i2 rfl i h (by omega)) _ i j hi hj rfl hij⟩,hm⟩⟩
          have:=List.any_eq_false.1 ha x hx
          rw [wrap64 (by omega) (by omega)] at this
          simp at this; omega
        · refine ⟨z,rfl,rfl,fun h => ?_⟩
          exfalso
          subst h
          -- the loop leaves by 43 only
          have key:∀ (n k:Nat),b.length - k=n→1≤k→∀ w,iter (boundary_Check_l2 b) (k:Int)=some (.inr w)→w=43:=by
            intro n
            induction n with
            | zero =>
              intro k hn hk w hw
              rw [iter_inr (r:=.inl ()) (by
                simp only [boundary_Check_l2]
                rw [show decide ((k:Int)<(b.length:Int))=false by simp; omega,cond_false])] at hw
              cases hw
            | succ n ih =>
              intro k hn hk w hw
              have hk':k<b.length:=by omega
              obtain ⟨j,rfl⟩:∃ j,k=j+1:=⟨k - 1,by omega⟩
              have e:boundary_Check_l2 b ((j+1:Nat):Int)=bif decide (b[j]<b[j+1]) then some (.inr (.inr 43)) else some (.inl ((j+1+1:Nat):Int)):=by
                simp only [boundary_Check_l2]
                rw [show decide (((j+1:Nat):Int)<(b.length:Int))=true by simp; omega,cond_true,show IntKind.i64.wrap (((j+1:Nat):Int) - 1)=(j:Int) by rw [wrap64 (by omega) (by omega)]; omega,req_pos (by omega),ix_nat b j (by omega),ix_nat b (j+1) hk',i64_add1 (j+1) (by omega)]
              rcases bcases (decide (b[j]<b[j+1])) with h | h
              · rw [h] at e
                rw [iter_inr e] at hw
                cases hw; rfl
              · rw [h] at e
                rw [iter_inl e] at hw
                exact ih _ (by omega) (by omega) w hw
          have:=key _ 1 rfl (by omega) 0 i1
          cases this
    · rw [show ((decide ((b.length:Int)<(1:Int)))||(decide ((9:Int)<(b.length:Int))))=true by simp; omega,cond_true,show (((b.length:Int)==(0:Int))||(decide ((9:Int)<(b.length:Int))))=true by
        rcases Nat.eq_zero_or_pos b.length with h0 | h0
        · simp [h0]
        · have:9<b.length:=by omega
          simp; right; omega,cond_true]
      exact ⟨3,rfl,rfl,fun h => by cases h⟩
  · rw [show (!(decide ((0:Int)≤m)&&decide (m≤(200:Int))))=true by simp; omega,cond_true,show ((decide (m<(0:Int)))||(decide ((200:Int)<m)))=true by simp; omega,cond_true]
    exact ⟨2,rfl,rfl,fun h => by cases h⟩
theorem grR (b:List Int) (m:Int):ref35_Grade b m=boundary_Grade b m:=by
  unfold ref35_Grade boundary_Grade
  rfl
theorem gTally_loop (d:api_Distribution) (b:List Int) (hd:d.Counts.length≤1000) (hb:b.length≤1000):∀ (n k:Nat) (w:List Int),d.Counts.length - k=n→k≤d.Counts.length→w.length=b.length+1 →
    ∃ w',iter (boundary_Tally_l2 d b) ((k:Int),w)=some w'∧iter (ref35_Tally_l2 d b) ((k:Int),w)=some w'∧w'.length=b.length+1:=by
  intro n
  induction n with
  | zero =>
    intro k w hn hk hw
    refine ⟨w,iter_inr ?_,iter_inr ?_,hw⟩
    · simp only [boundary_Tally_l2]
      rw [show decide ((k:Int)<(d.Counts.length:Int))=false by simp; omega,cond_false]
    · simp only [ref35_Tally_l2]
      rw [show decide ((k:Int)<(d.Counts.length:Int))=false by simp; omega,cond_false]
  | succ n ih =>
    intro k w hn hk hw
    have g:=gr_le b (k:Int)
    obtain ⟨w',i1,i2,i3⟩:=ih (k+1) (setI w (gr b (k:Int):Int) (IntKind.i64.wrap ((ix w (gr b (k:Int):Int))+(ix d.Counts (k:Int))))) (by omega) (by omega) (by rw [setI_len]; exact hw)
    refine ⟨w',?_,?_,i3⟩
    · rw [← i1]
      refine iter_inl ?_
      simp only [boundary_Tally_l2]
      rw [show decide ((k:Int)<(d.Counts.length:Int))=true by simp; omega,cond_true,req_pos (by omega),Grade_eq _ _ hb,gsb,req_pos (by omega),i64_add1 k (by omega)]
    · rw [← i2]
      refine iter_inl ?_
      simp only [ref35_Tally_l2]
      rw [show decide ((k:Int)<(d.Counts.length:Int))=true by simp; omega,cond_true,grR,Grade_eq _ _ hb,gsb,req_pos (by omega),i64_add1 k (by omega)]
theorem gTally (d:api_Distribution) (b:List Int) (hd:d.Counts.length≤1000) (hb:b.length≤900):∃ r,boundary_Tally d b=some r∧ref35_Tally d b=some r∧r.1.length≤1000:=by
  unfold boundary_Tally ref35_Tally boundary_greatest
  rw [gValid,gValidR,gsb,gsb]
  rcases bcases (vD d) with h | h <;> rw [h]
  · rw [Bool.not_true,cond_false,gsb,Bool.not_true,cond_false]
    obtain ⟨e,c1,c2,c3⟩:=chkT b (IntKind.i64.wrap ((d.Counts.length:Int) - (1:Int))) (by omega)
    rw [c1,c2,gsb,gsb]
    rcases bcases (e != (0:Int)) with he | he <;> rw [he]
    · exact ⟨([],e),rfl,rfl,by simp⟩
    · rw [cond_false,cond_false,wrap64 (n:=(b.length:Int)+1) (by omega) (by omega),req_pos (by omega),req_pos (by omega)]
      obtain ⟨w,i1,i2,i3⟩:=gTally_loop d b hd (by omega) _ 0 (rep ((b.length:Int)+1) (0:Int)) rfl (by omega) (by simp [rep] <;> omega)
      have i1':iter (boundary_Tally_l2 d b) ((0:Int),(rep ((b.length:Int)+1) (0:Int)))=some w:=i1
      have i2':iter (ref35_Tally_l2 d b) ((0:Int),(rep ((b.length:Int)+1) (0:Int)))=some w:=i2
      rw [i1',i2',gsb,gsb]
      exact ⟨(w,0),rfl,rfl,by show w.length≤1000; omega⟩
  · exact ⟨([],1),rfl,rfl,by simp⟩
theorem Gd.rc {d:api_Distribution} (h:Gd d) (k:Nat):0≤rc d k∧rc d k≤1048576:=by
  have h1:=h.s
  have h2:=g_nn (d.Counts.take k) fun c hc => h.c c (List.mem_of_mem_take hc)
  have h4:=g_nn (d.Counts.drop k) fun c hc => h.c c (List.mem_of_mem_drop hc)
  have h3:=sumI_append (d.Counts.take k) (d.Counts.drop k)
  rw [List.take_append_drop] at h3
  unfold LS.rc
  omega
theorem rcn {d:api_Distribution} (h:Gd d):rc d 0=cn d:=by rw [cn_pos h]; simp [rc]
theorem rc_bl {d:api_Distribution} (h:Gd d) (b:Int):cn d - bl d b=rc d b.toNat:=by
  rw [cn_pos h]
  unfold bl rc
  rw [vD_t h,if_pos rfl]
  have h3:=sumI_append (d.Counts.take b.toNat) (d.Counts.drop b.toNat)
  rw [List.take_append_drop] at h3
  omega
theorem rc_antiG {d:api_Distribution} (h:Gd d) (i j:Nat) (hij:i≤j):rc d j≤rc d i:=by
  induction hij with
  | refl => exact Int.le_refl _
  | @step m hm ih =>
    show rc d (m+1)≤rc d i
    rcases Nat.lt_or_ge m d.Counts.length with hlt | hge
    · have:=rc_succ d m hlt
      have:=h.c _ (List.getElem_mem hlt)
      omega
    · have e:rc d (m+1)=rc d m:=by unfold rc; rw [List.drop_eq_nil_of_le (by omega),List.drop_eq_nil_of_le (by omega)]
      omega
theorem reachG (d:api_Distribution) (h:Gd d):boundary_reaching d=some (RC d):=by
  have h1:=h.lo; have h2:=h.hi
  unfold boundary_reaching boundary_reaching_j1 boundary_greatest
  rw [wrap64 (n:=(d.Counts.length:Int)+1) (by omega) (by omega),req_pos (by omega),gsb,wrap64 (n:=(d.Counts.length:Int) - 1) (by omega) (by omega)]
  have key:∀ (k:Nat) (w:List Int),k≤d.Counts.length→w.length=d.Counts.length+1→(∀ j (hj:j<w.length),k≤j→w[j]=rc d j)→iter (boundary_reaching_l2 d) ((k:Int) - 1,w)=some (RC d):=by
    intro k
    induction k with
    | zero =>
      intro w hk hl hw
      have:boundary_reaching_l2 d (((0:Nat):Int) - 1,w)=some (.inr w):=by simp [boundary_reaching_l2]
      rw [iter_inr this]
      congr 1
      apply List.ext_getElem (by simp [hl,RC])
      intro j h1 h2
      rw [hw j h1 (by omega)]
      simp [RC]
    | succ k ih =>
      intro w hk hl hw
      have hr:=h.rc k
      have e1:ix w ((k+1:Nat):Int)=rc d (k+1):=by rw [ix_nat _ _ (by omega)]; exact hw _ _ (by omega)
      have e2:ix d.Counts (k:Int)=d.Counts[k]:=ix_nat _ _ (by omega)
      have e3:=rc_succ d k (by omega)
      have:boundary_reaching_l2 d (((k+1:Nat):Int) - 1,w)=some (.inl ((k:Int) - 1,setI w k (rc d k))):=by
        simp only [boundary_reaching_l2,bindV]
        rw [show ((k+1:Nat):Int) - 1=(k:Int) by omega]
        rw [show decide ((0:Int)≤(k:Int))=true by simp,cond_true,i64_add1 k (by omega),req_pos (by omega),e1,e2,wrap64 (n:=(k:Int) - 1) (by omega) (by omega),wrap64 (n:=rc d (k+1)+d.Counts[k]) (by omega) (by omega)]
        rw [show rc d (k+1)+d.Counts[k]=rc d k by omega]
      rw [iter_inl this]
      apply ih _ (by omega) (by rw [setI_len]; exact hl)
      intro j hj hjk
      rw [setI_get]
      by_cases e:k=j
      · rw [if_pos e,e]
      · rw [if_neg e]; exact hw j _ (by omega)
  rw [key d.Counts.length _ (by omega) (by simp [rep] <;> omega) (by
    intro j hj hk
    simp [rep] at hj
    have:j=d.Counts.length:=by omega
    subst this
    simp [rep,rc_len])]
  rfl
theorem reachedG (d:api_Distribution) (h:Gd d) (b:Int):ref35_reached d b=some (rc d b.toNat):=by
  unfold ref35_reached
  have:=h.rc b.toNat
  rw [gCountR,gsb,gBelowR,gsb,rc_bl h,wrap64 (by omega) (by omega)]
theorem nearG (d:api_Distribution) (share:api_Ratio) (h:Gd d) (hc:0<rc d 0) (hv:vR share=true) :
    boundary_nearest d share=some (nr (rc d) share.Num share.Den (d.Counts.length+1):Int)∧iter (ref35_Nearest_l3 d share) ((0:Int),(1:Int))=some (nr (rc d) share.Num share.Den (d.Counts.length+1):Int):=by
  have h1:=h.lo; have h2:=h.hi
  have hl:=RC_len d
  have hd:=(vR_iff share).1 hv
  have r3:=h.rc 0
  constructor
  · unfold boundary_nearest boundary_nearest_j1
    rw [reachG d h,gsb]
    have key:∀ (n k:Nat),d.Counts.length+1 - k=n→k≤d.Counts.length+1→iter (boundary_nearest_l3 share (RC d)) ((nr (rc d) share.Num share.Den k:Int),(k:Int))=some (nr (rc d) share.Num share.Den (d.Counts.length+1):Int):=by
      intro n
      induction n with
      | zero =>
        intro k hn hk
        have:k=d.Counts.length+1:=by omega
        subst this
        exact iter_inr (by
          simp only [boundary_nearest_l3]
          rw [show decide (((d.Counts.length+1:Nat):Int)<((RC d).length:Int))=false by simp [hl],cond_false])
      | succ n ih =>
        intro k hn hk
        have hb:=nr_le (rc d) share.Num share.Den k
        have hk':k≤d.Counts.length:=by omega
        have step:boundary_nearest_l3 share (RC d) ((nr (rc d) share.Num share.Den k:Int),(k:Int))=some (.inl ((nr (rc d) share.Num share.Den (k+1):Int),((k+1:Nat):Int))):=by
          simp only [boundary_nearest_l3,boundary_nearest_j2,nr]
          generalize nr (rc d) share.Num share.Den k=b at *
          have r1:=h.rc k; have r2:=h.rc b
          rw [show decide ((k:Int)<((RC d).length:Int))=true by simp [hl]; omega,cond_true,req_pos (by omega),RC_ix d k hk',RC_ix d b (by omega),show ix (RC d) (0:Int)=rc d 0 from RC_ix d 0 (by omega),wrap64 (n:=rc d k+rc d b) (by omega) (by omega),wrap64 (n:=2*rc d 0) (by omega) (by omega),cs_eq _ _ _ ⟨by omega,by omega⟩ ⟨by omega,by omega⟩]
          obtain ⟨r,er,vr,qr,dr⟩:=newOf_ok (rc d k+rc d b) (2*rc d 0) (by omega) (by omega) (by omega) (by omega)
          rw [er]
          simp only [Option.getD,Option.isSome]
          rw [cmpR_new r share _ _ share.Num share.Den vr hv qr rfl dr (by omega) (by omega) (by omega)]
          rw [req_pos (by rw [hl]; simp; omega),i64_add1 k (by omega)]
          by_cases c1:rc d k<rc d b
          · by_cases c2:share.Num*(2*rc d 0)<(rc d k+rc d b)*share.Den
            · rw [if_pos ⟨c1,c2⟩,show decide (rc d k<rc d b)=true by simpa using c1,show decide ((0:Int)<cmpI ((rc d k+rc d b)*share.Den) (share.Num*(2*rc d 0)))=true by simp only [decide_eq_true_eq]; exact (cmpI_pos _ _).2 c2]; rfl
            · rw [if_neg (fun x => c2 x.2),show decide ((0:Int)<cmpI ((rc d k+rc d b)*share.Den) (share.Num*(2*rc d 0)))=false by simp only [decide_eq_false_iff_not]; exact fun x => c2 ((cmpI_pos _ _).1 x),Bool.and_false]; rfl
          · rw [if_neg (fun x => c1 x.1),show decide (rc d k<rc d b)=false by simpa using c1,Bool.false_and]; rfl
        rw [iter_inl step,ih (k+1) (by omega) (by omega)]
    have:=key _ 0 rfl (by omega)
    rw [show ((nr (rc d) share.Num share.Den 0:Nat):Int)=0 from rfl,show ((0:Nat):Int)=0 from rfl] at this
    rw [this]; rfl
  · have key:∀ (n k:Nat),d.Counts.length+1 - k=n→k≤d.Counts.length+1→iter (ref35_Nearest_l3 d share) ((nr (rc d) share.Num share.Den k:Int),(k:Int))=some (nr (rc d) share.Num share.Den (d.Counts.length+1):Int):=by
      intro n
      induction n with
      | zero =>
        intro k hn hk
        have:k=d.Counts.length+1:=by omega
        subst this
        exact iter_inr (by
          simp only [ref35_Nearest_l3]
          rw [show decide (((d.Counts.length+1:Nat):Int)≤(d.Counts.length:Int))=false by simp; omega,cond_false])
      | succ n ih =>
        intro k hn hk
        have hk':k≤d.Counts.length:=by omega
        have step:ref35_Nearest_l3 d share ((nr (rc d) share.Num share.Den k:Int),(k:Int))=some (.inl ((nr (rc d) share.Num share.Den (k+1):Int),((k+1:Nat):Int))):=by
          simp only [ref35_Nearest_l3,ref35_Nearest_j2,nr]
          generalize nr (rc d) share.Num share.Den k=b at *
          have r1:=h.rc k; have r2:=h.rc b
          rw [show decide ((k:Int)≤(d.Counts.length:Int))=true by simp; omega,cond_true,reachedG d h,gsb,reachedG d h,gsb,gCountR,gsb,← rcn h,Int.toNat_natCast,Int.toNat_natCast,wrap64 (n:=rc d b+rc d k) (by omega) (by omega),wrap64 (n:=2*rc d 0) (by omega) (by omega),NewR_eq _ _ ⟨by omega,by omega⟩ ⟨by omega,by omega⟩]
          obtain ⟨r,er,vr,qr,dr⟩:=newOf_ok (rc d b+rc d k) (2*rc d 0) (by omega) (by omega) (by omega) (by omega)
          rw [er,gsb]
          try dsimp only
          rw [LessR_eq,cmpR_anti share r,cmpR_new r share _ _ share.Num share.Den vr hv qr rfl dr (by omega) (by omega) (by omega),i64_add1 k (by omega),Int.add_comm (rc d b) (rc d k)]
          simp only [Option.isSome_some,implies_true,req_true,Option.getD_some]
          by_cases c1:rc d k<rc d b
          · by_cases c2:share.Num*(2*rc d 0)<(rc d k+rc d b)*share.Den
            · have:=(cmpI_pos _ _).2 c2
              rw [if_pos ⟨c1,c2⟩,show decide (rc d k<rc d b)=true by simpa using c1,show decide (-cmpI ((rc d k+rc d b)*share.Den) (share.Num*(2*rc d 0))<0)=true by simp only [decide_eq_true_eq]; omega]; rfl
            · have:¬ 0<cmpI ((rc d k+rc d b)*share.Den) (share.Num*(2*rc d 0)):=fun x => c2 ((cmpI_pos _ _).1 x)
              rw [if_neg (fun x => c2 x.2),show decide (-cmpI ((rc d k+rc d b)*share.Den) (share.Num*(2*rc d 0))<0)=false by simp only [decide_eq_false_iff_not]; omega,Bool.and_false]; rfl
          · rw [if_neg (fun x => c1 x.1),show decide (rc d k<rc d b)=false by simpa using c1,Bool.false_and]; rfl
        rw [iter_inl step,ih (k+1) (by omega) (by omega)]
    have h1:=key _ 1 rfl (by omega)
    have z:nr (rc d) share.Num share.Den 1=0:=by
      have:=nr_le (rc d) share.Num share.Den 1; omega
    rw [z] at h1
    exact h1
noncomputable def er2 (d:api_Distribution) (x:api_Ratio):Int:=if vD d=true∧vR x=true then (if cn d=0 then 10 else if x.Num<0 ∨ x.Den<x.Num then 2 else 0) else 1
theorem bchk (d:api_Distribution) (x:api_Ratio):boundary_check d x=some (er2 d x)∧ref35_wrong d x=some (er2 d x):=by
  unfold boundary_check ref35_wrong er2
  rw [gValid,gValidR,gsb,gsb,Valid_eq,ValidR_eq]
  simp only [Option.isSome_some,implies_true,req_true,Option.getD_some]
  by_cases hv:vD d=true∧vR x=true
  · rw [hv.1,hv.2,if_pos ⟨rfl,rfl⟩,show ((!true)||(!true))=false from rfl,cond_false,cond_false,gCount,gCountR,gsb,gsb]
    by_cases h0:cn d=0
    · rw [if_pos h0,h0]; exact ⟨rfl,rfl⟩
    · rw [if_neg h0,show (cn d==0)=false by simpa using h0,cond_false,cond_false,gOutside,gsb]
      by_cases ho:x.Num<0 ∨ x.Den<x.Num
      · rw [if_pos ho,show ((decide (x.Num<(0:Int)))||(decide (x.Den<x.Num)))=true by simpa using ho]; exact ⟨rfl,rfl⟩
      · rw [if_neg ho,show ((decide (x.Num<(0:Int)))||(decide (x.Den<x.Num)))=false by simp; omega]; exact ⟨rfl,rfl⟩
  · rw [if_neg hv]
    have:((!(vD d))||(!(vR x)))=true:=by
      rcases bcases (vD d) with a | a <;> rcases bcases (vR x) with b | b <;> simp_all
    rw [this]; exact ⟨rfl,rfl⟩
theorem er2_0 {d:api_Distribution} {x:api_Ratio} (h:er2 d x=0):Gd d∧vR x=true∧0<rc d 0∧0≤x.Num∧x.Num≤x.Den:=by
  unfold er2 at h
  split at h
  · rename_i hv
    have hg:=(vD_iff d).1 hv.1
    have:=cn_b d
    split at h
    · omega
    · split at h
      · omega
      · exact ⟨hg,hv.2,by rw [rcn hg]; omega,by omega,by omega⟩
  · omega
theorem gNearest (d:api_Distribution) (x:api_Ratio):∃ r,boundary_Nearest d x=some r∧ref35_Nearest d x=some r∧(er2 d x=0→r=(((nr (rc d) x.Num x.Den (d.Counts.length+1):Nat):Int),0)):=by
  unfold boundary_Nearest ref35_Nearest
  rw [(bchk d x).1,(bchk d x).2,gsb,gsb]
  by_cases h:er2 d x=0
  · obtain ⟨h1,h2,h3,_⟩:=er2_0 h
    obtain ⟨n1,n2⟩:=nearG d x h1 h3 h2
    rw [h,show ((0:Int) != 0)=false by decide,cond_false,cond_false,n1,n2,gsb,gsb]
    exact ⟨_,rfl,rfl,fun _ => rfl⟩
  · rw [show (er2 d x != 0)=true by simpa using h,cond_true,cond_true]
    exact ⟨_,rfl,rfl,fun g => absurd g h⟩
theorem reaches_eq (n m:Int) (x:api_Ratio) (hn:I64 n) (hm:I64 m):ref32_Reaches n m x=some (decide ((0:Int)≤cmpR (newOf n m).1 x)):=by
  unfold ref32_Reaches
  rw [NewR_eq _ _ hn hm,gsb]
  try dsimp only
  rw [LessR_eq,gsb]
  congr 1
  rw [Bool.eq_iff_iff]
  simp
theorem gShare (d:api_Distribution) (x:api_Ratio):∃ r,boundary_Share d x=some r∧ref35_Share d x=some r:=by
  unfold boundary_Share ref35_Share
  rw [(bchk d x).1,(bchk d x).2,gsb,gsb]
  by_cases h:er2 d x=0
  · obtain ⟨hg,hv,hc,x0,x1⟩:=er2_0 h
    have h1:=hg.lo; have h2:=hg.hi
    have hl:=RC_len d
    have r0:=hg.rc 0
    have hx:=(vR_iff x).1 hv
    rw [h,show ((0:Int) != 0)=false by decide,cond_false,cond_false,reachG d hg,gsb,hl,show IntKind.i64.wrap (((d.Counts.length+1:Nat):Int) - 1)=(d.Counts.length:Int) by rw [wrap64 (by omega) (by omega)]; omega]
    have key:∀ b:Nat,b≤d.Counts.length→∃ q:Int,(iter (boundary_Share_l2 x (RC d)) (b:Int)).bind (fun x_ => match x_ with | .inl () => boundary_Share_j1 | .inr t_ => some t_)=some (q,0)∧iter (ref35_Share_l2 d x) (b:Int)=some q:=by
      intro b
      induction b with
      | zero =>
        intro hb
        refine ⟨0,?_,?_⟩
        · rw [show iter (boundary_Share_l2 x (RC d)) ((0:Nat):Int)=some (.inl ()) from iter_inr (by simp [boundary_Share_l2])]
          rfl
        · refine iter_inr ?_
          simp only [ref35_Share_l2]
          rw [reachedG d hg,gsb,gCountR,gsb,← rcn hg,reaches_eq _ _ _ ⟨by simp; omega,by simp; omega⟩ ⟨by omega,by omega⟩,gsb]
          obtain ⟨r,er,vr,qr,dr⟩:=newOf_ok (rc d 0) (rc d 0) (by omega) (by omega) (by omega) (by omega)
          have hrn:r.Num=r.Den:=by
            have:r.Num*rc d 0=r.Den*rc d 0:=by rw [qr,Int.mul_comm]
            exact Int.eq_of_mul_eq_mul_right (by omega) this
          have hge:0≤cmpR r x:=by
            unfold cmpR
            rw [if_pos ⟨vr,hv⟩,cmpI_ge,hrn,Int.mul_comm r.Den x.Den]
            exact Int.mul_le_mul_of_nonneg_right x1 (by omega)
          rw [show ((0:Nat):Int).toNat=0 from rfl,er,show decide ((0:Int)≤cmpR r x)=true by simpa using hge]
          rfl
      | succ b ih =>
        intro hb
        have rb:=hg.rc (b+1)
        obtain ⟨r,er,vr,qr,dr⟩:=newOf_ok (rc d (b+1)) (rc d 0) (by omega) (by omega) (by omega) (by omega)
        have e1:boundary_Share_l2 x (RC d) ((b+1:Nat):Int)=bif decide ((0:Int)≤cmpR r x) then some (.inr (.inr (((b+1:Nat):Int),(0:Int)))) else some (.inl (b:Int)):=by
          simp only [boundary_Share_l2]
          rw [show decide ((0:Int)<((b+1:Nat):Int))=true by simp only [decide_eq_true_eq]; omega,cond_true,req_pos (by rw [hl]; omega),RC_ix d (b+1) hb,show ix (RC d) (0:Int)=rc d 0 from RC_ix d 0 (by omega),cs_eq _ _ _ ⟨by omega,by omega⟩ ⟨by omega,by omega⟩,er,gsb]
          try dsimp only
          rw [show ((b+1:Nat):Int) - 1=(b:Int) by omega,wrap64 (n:=(b:Int)) (by omega) (by omega)]
        have e2:ref35_Share_l2 d x ((b+1:Nat):Int)=bif !(decide ((0:Int)≤cmpR r x)) then some (.inl (b:Int)) else some (.inr ((b+1:Nat):Int)):=by
          simp only [ref35_Share_l2]
          rw [reachedG d hg,gsb,gCountR,gsb,← rcn hg,Int.toNat_natCast,reaches_eq _ _ _ ⟨by omega,by omega⟩ ⟨by omega,by omega⟩,gsb,er]
          try dsimp only
          rw [show ((b+1:Nat):Int) - 1=(b:Int) by omega,wrap64 (n:=(b:Int)) (by omega) (by omega)]
        rcases bcases (decide ((0:Int)≤cmpR r x)) with hd | hd
        · rw [hd] at e1 e2
          refine ⟨((b+1:Nat):Int),?_,iter_inr e2⟩
          rw [iter_inr e1]; rfl
        · rw [hd] at e1 e2
          obtain ⟨q,i1,i2⟩:=ih (by omega)
          exact ⟨q,by rw [iter_inl e1]; exact i1,by rw [iter_inl e2]; exact i2⟩
    obtain ⟨q,i1,i2⟩:=key d.Counts.length (by omega)
    rw [i2,gsb]
    exact ⟨(q,0),i1,rfl⟩
  · rw [show (er2 d x != 0)=true by simpa using h,cond_true,cond_true]
    exact ⟨_,rfl,rfl⟩
theorem sh_ok {ref:api_Distribution} (hr:Gd ref) (hc:0<rc ref 0) (x:Int):∃ r,newOf (rc ref x.toNat) (rc ref 0)=(r,0)∧sh ref x=r∧vR r=true∧0≤r.Num∧r.Num≤r.Den:=by
  have r1:=hr.rc x.toNat; have r3:=hr.rc 0
  have ra:=rc_antiG hr 0 x.toNat (by omega)
  obtain ⟨r,er,vr,qr,dr⟩:=newOf_ok (rc ref x.toNat) (rc ref 0) (by omega) (by omega) (by omega) (by omega)
  refine ⟨r,er,by simp [sh,er],vr,?_,?_⟩
  · rcases Int.lt_or_le r.Num 0 with g | g
    · have h1:=Int.mul_nonneg r1.1 (show 0≤r.Den by omega)
      have h2:=Int.mul_lt_mul_of_pos_right g hc
      omega
    · exact g
  · have h1:=Int.mul_le_mul_of_nonneg_right ra (show 0≤r.Den by omega)
    rw [← qr,Int.mul_comm (rc ref 0) r.Den] at h1
    exact Int.le_of_mul_le_mul_right h1 hc
theorem gRef (d ref:api_Distribution) (b:List Int) (hb0:b.length≤900):∃ r,boundary_Reference d ref b=some r∧ref35_Reference d ref b=some r∧r.1.length≤1000:=by
  unfold boundary_Reference ref35_Reference boundary_greatest
  rw [gValid,gValidR,gsb,gsb,gValid,gValidR,gCount,gCountR,gsb,gsb,gCount,gCountR,gsb]
  simp only [Option.isSome_some,implies_true,req_true,Option.getD_some]
  rcases bcases ((!(vD d))||(!(vD ref))) with h | h <;> rw [h]
  · exact ⟨([],1),rfl,rfl,by simp⟩
  · simp only [Bool.or_eq_false_iff,Bool.not_eq_false'] at h
    have hd:=(vD_iff d).1 h.1; have hr:=(vD_iff ref).1 h.2
    rw [cond_false,cond_false]
    rcases bcases ((cn d==(0:Int))||(cn ref==(0:Int))) with h0 | h0 <;> rw [h0]
    · exact ⟨([],10),rfl,rfl,by simp⟩
    · rw [cond_false,cond_false]
      have cb:=cn_b d; have cb2:=cn_b ref
      simp only [Bool.or_eq_false_iff,beq_eq_false_iff_ne] at h0
      have hc:0<rc d 0:=by rw [rcn hd]; omega
      have hcr:0<rc ref 0:=by rw [rcn hr]; omega
      have l1:=hr.lo; have l2:=hr.hi
      rw [wrap64 (n:=(ref.Counts.length:Int) - 1) (by omega) (by omega)]
      obtain ⟨e,c1,c2,c3⟩:=chkT b ((ref.Counts.length:Int) - 1) (by omega)
      rw [c1,c2,gsb,gsb]
      by_cases he:e=0
      · subst he
        obtain ⟨hb,_⟩:=c3 rfl
        rw [show ((0:Int) != 0)=false by decide,cond_false,cond_false,reachG ref hr,gsb,req_pos (by omega)]
        have hl:=RC_len ref
        have nnd:∀ x:Int,er2 d (sh ref x)=0:=fun x => by
          obtain ⟨r,er,es,vr,r0,r1⟩:=sh_ok hr hcr x
          rw [es]
          unfold er2
          rw [if_pos ⟨h.1,vr⟩,if_neg h0.1,if_neg (by omega)]
        have nnp:∀ x:Int,boundary_nearest d (sh ref x)=some (nn d ref x:Int):=fun x => by
          obtain ⟨g1,g2,g3,_⟩:=er2_0 (nnd x)
          exact (nearG d _ g1 g3 g2).1
        have nnr:∀ x:Int,ref35_Nearest d (sh ref x)=some (((nn d ref x:Nat):Int),0):=fun x => by
          obtain ⟨r,_,n2,n3⟩:=gNearest d (sh ref x)
          rw [n2,n3 (nnd x)]; rfl
        have pr:iter (boundary_Reference_l3 d b (RC ref)) ((0:Int),rep (b.length:Int) (0:Int))=some (.inl (OG d ref b)):=by
          rw [iter_fill b.length (boundary_Reference_l3 d b (RC ref)) (og d ref b) (fun w => .inl w) ?_ ?_]
          · rfl
          · intro k w hk hlw hw
            simp only [boundary_Reference_l3,boundary_Reference_j2,bindV]
            have eb:ix b (k:Int)=b[k]:=ix_nat _ _ hk
            have ebd:b.getD k 0=b[k]:=by simp [List.getD,hk]
            have hr1:=hb.r _ (List.getElem_mem hk)
            have ey:ix (RC ref) b[k]=rc ref b[k].toNat:=by
              have:=RC_ix ref b[k].toNat (by omega)
              rwa [show ((b[k].toNat:Nat):Int)=b[k] by omega] at this
            have r1:=hr.rc b[k].toNat; have r3:=hr.rc 0
            obtain ⟨r,er,esh,vr,_,_⟩:=sh_ok hr hcr b[k]
            have hb9:=hb.hi
            rw [show decide ((k:Int)<(b.length:Int))=true by simp; omega,cond_true,req_pos (by omega),eb,req_pos (by omega),ey,show ix (RC ref) (0:Int)=rc ref 0 from RC_ix ref 0 (by omega),New_eq _ _ ⟨by omega,by omega⟩ ⟨by omega,by omega⟩,er,gsb]
            try dsimp only
            rw [show ((0:Int) != 0)=false by simp,cond_false,← esh,nnp,gsb]
            rw [req_pos (by omega),i64_add1 k (by omega)]
            cases k with
            | zero =>
              rw [show decide ((0:Int)<((0:Nat):Int))=false by simp,cond_false]
              simp only [og,ebd]
            | succ k =>
              rw [show decide ((0:Int)<((k+1:Nat):Int))=true from decide_eq_true (by omega),cond_true,show IntKind.i64.wrap (((k+1:Nat):Int) - 1)=(k:Int) by rw [wrap64 (by omega) (by omega)]; omega]
              rw [req_pos (by omega),setI_setI]
              have x1:ix (setI w ((k+1:Nat):Int) (nn d ref b[k+1]:Int)) ((k+1:Nat):Int)=nn d ref b[k+1]:=by
                rw [ix_nat _ _ (by rw [setI_len]; omega),setI_get,if_pos rfl]
              have x2:ix (setI w ((k+1:Nat):Int) (nn d ref b[k+1]:Int)) (k:Int)=og d ref b k:=by
                rw [ix_nat _ _ (by rw [setI_len]; omega),setI_get,if_neg (by omega)]
                exact hw k (by omega) (by omega)
              rw [x1,x2]
              simp only [og,ebd,imin]
              rw [show (if og d ref b k<(nn d ref b[k+1]:Int) then og d ref b k else (nn d ref b[k+1]:Int))=min (nn d ref b[k+1]:Int) (og d ref b k) by split <;> omega]
          · intro w hlw
            simp [boundary_Reference_l3]
        have rr:∀ (n k:Nat),b.length - k=n→k≤b.length→iter (ref35_Reference_l3 d ref b) ((k:Int),(List.range k).map (og d ref b))=some (OG d ref b):=by
          intro n
          induction n with
          | zero =>
            intro k hn hk
            have:k=b.length:=by omega
            subst this
            refine iter_inr ?_
            simp only [ref35_Reference_l3]
            rw [show decide ((b.length:Int)<(b.length:Int))=false by simp,cond_false]
            rfl
          | succ n ih =>
            intro k hn hk
            have hk':k<b.length:=by omega
            rw [← ih (k+1) (by omega) (by omega)]
            refine iter_inl ?_
            have ebd:b.getD k 0=b[k]:=by simp [List.getD,hk']
            have hr1:=hb.r _ (List.getElem_mem hk')
            have r1:=hr.rc b[k].toNat; have r3:=hr.rc 0
            obtain ⟨r,er,esh,vr,_,_⟩:=sh_ok hr hcr b[k]
            simp only [ref35_Reference_l3,ref35_Reference_j2]
            rw [show decide ((k:Int)<(b.length:Int))=true by simp; omega,cond_true,req_pos (by omega),ix_nat b k hk',reachedG ref hr,gsb,gCountR,gsb,← rcn hr,NewR_eq _ _ ⟨by omega,by omega⟩ ⟨by omega,by omega⟩,er,gsb]
            try dsimp only
            rw [← esh,nnr,gsb]
            try dsimp only
            rw [List.range_succ,List.map_append]
            cases k with
            | zero =>
              rw [show decide ((0:Int)<((0:Nat):Int))=false by simp,cond_false,req_pos (by simp),i64_add1 0 (by omega)]
              simp only [List.map_cons,List.map_nil,og,ebd]
            | succ k =>
              rw [show decide ((0:Int)<((k+1:Nat):Int))=true from decide_eq_true (by omega),cond_true,show IntKind.i64.wrap (((k+1:Nat):Int) - 1)=(k:Int) by rw [wrap64 (by omega) (by omega)]; omega,req_pos (by simp; omega),req_pos (by simp; omega),i64_add1 (k+1) (by omega),ix_nat _ k (by simp)]
              simp only [List.getElem_map,List.getElem_range,List.map_cons,List.map_nil,og,ebd,imin]
              rw [show (if og d ref b k<(nn d ref b[k+1]:Int) then og d ref b k else (nn d ref b[k+1]:Int))=min (nn d ref b[k+1]:Int) (og d ref b k) by split <;> omega]
        have rr0:iter (ref35_Reference_l3 d ref b) ((0:Int),([]:List Int))=some (OG d ref b):=rr _ 0 rfl (by omega)
        rw [pr,rr0,gsb,gsb]
        exact ⟨(OG d ref b,0),rfl,rfl,by simp [OG]; omega⟩
      · rw [show (e != 0)=true by simpa using he,cond_true,cond_true]
        exact ⟨([],e),rfl,rfl,by simp⟩
theorem gInterp (high low steps:Int):∃ r,boundary_Interpolate high low steps=some r∧ref35_Interpolate high low steps=some r∧r.1.length≤1000:=by
  by_cases hc:0≤low∧low≤high∧high≤200∧1≤steps∧steps≤8
  · obtain ⟨h0,h1,h2,h3,h4⟩:=hc
    obtain ⟨n,rfl⟩:∃ n:Nat,steps=n:=⟨steps.toNat,by omega⟩
    refine ⟨(interp high low n,0),Interp_eq high low n h0 h1 h2 (by omega) (by omega),?_,by show (interp high low n).length≤1000; rw [interp_len]; omega⟩
    unfold ref35_Interpolate
    rw [show (((((decide (low<(0:Int)))||(decide (high<low)))||(decide ((200:Int)<high)))||(decide ((n:Int)<(1:Int))))||(decide ((8:Int)<n)))=false by
      simp; omega,cond_false]
    have key:∀ (m k:Nat),n+1 - k=m→k≤n+1→iter (ref35_Interpolate_l2 high low n) ((k:Int),(List.range k).map (fun (v:Nat) => high - ((v:Int)*(high - low)+n - 1) / n))=some (interp high low n):=by
      intro m
      induction m with
      | zero =>
        intro k hm hk
        have:k=n+1:=by omega
        subst this
        refine iter_inr ?_
        simp only [ref35_Interpolate_l2]
        rw [show decide (((n+1:Nat):Int)≤(n:Int))=false by simp; omega,cond_false]
        rfl
      | succ m ih =>
        intro k hm' hk
        rw [← ih (k+1) (by omega) (by omega)]
        refine iter_inl ?_
        have hm:(k:Int)*(high - low)≤8*200:=Int.mul_le_mul (by omega) (by omega) (by omega) (by omega)
        have hm0:0≤(k:Int)*(high - low):=Int.mul_nonneg (by omega) (by omega)
        have hq:=Int.ediv_le_self (b:=(n:Int)) (a:=(k:Int)*(high - low)+n - 1) (by omega)
        have hq0:0≤((k:Int)*(high - low)+n - 1) / (n:Int):=Int.ediv_nonneg (by omega) (by omega)
        simp only [ref35_Interpolate_l2,bindV]
        rw [show decide ((k:Int)≤(n:Int))=true by simp; omega,cond_true,req_pos (by simp; omega)]
        rw [wrap64 (n:=high - low) (by omega) (by omega),wrap64 (n:=(k:Int)*(high - low)) (by omega) (by omega),wrap64 (n:=(k:Int)*(high - low)+n) (by omega) (by omega),wrap64 (n:=(k:Int)*(high - low)+n - 1) (by omega) (by omega),Int.tdiv_eq_ediv_of_nonneg (by omega),wrap64 (n:=((k:Int)*(high - low)+n - 1) / n) (by omega) (by omega),wrap64 (n:=high - _) (by omega) (by omega),i64_add1 k (by omega),List.range_succ,List.map_append]
        rfl
    have k0:iter (ref35_Interpolate_l2 high low n) ((0:Int),([]:List Int))=some (interp high low n):=key _ 0 rfl (by omega)
    rw [k0]; rfl
  · unfold boundary_Interpolate ref35_Interpolate
    rw [show (((((decide (low<(0:Int)))||(decide (high<low)))||(decide ((200:Int)<high)))||(decide (steps<(1:Int))))||(decide ((8:Int)<steps)))=true by
      simp; omega,cond_true,cond_true]
    exact ⟨([],2),rfl,rfl,by simp⟩

def Ok6 (p:api_Ratio × Int):Prop:=p=(⟨0,0⟩,6) ∨ (p.2=0∧vR p.1=true)
theorem red6 (neg:Bool) (n d:Nat) (hd:0<d):Ok6 (redOf neg n d):=by
  by_cases h:(redOf neg n d).2=0
  · right
    refine ⟨h,?_⟩
    have:redOf neg n d=((redOf neg n d).1,0):=by rw [← h]
    exact (redOf_val neg n d hd _ this).1
  · left
    unfold redOf fitOf at h ⊢
    split
    · rename_i hh; rw [if_pos hh] at h; exact absurd rfl h
    · rfl
theorem den_pos {a:api_Ratio} (h:vR a=true):0<a.Den.natAbs:=by
  have:=(vR_iff a).1 h; omega
theorem add6 {a b:api_Ratio} (ha:vR a=true) (hb:vR b=true):Ok6 (addOf2 a b):=by
  unfold addOf2
  rw [if_pos ⟨ha,hb⟩]
  exact red6 _ _ _ (Nat.mul_pos (den_pos ha) (den_pos hb))
theorem sub6 {a b:api_Ratio} (ha:vR a=true) (hb:vR b=true):Ok6 (subOf a b):=by
  unfold subOf
  rw [if_pos ⟨ha,hb⟩]
  exact add6 ha (neg_v hb)
theorem mul6 {a b:api_Ratio} (ha:vR a=true) (hb:vR b=true):Ok6 (mulOf a b):=by
  unfold mulOf
  rw [if_pos ⟨ha,hb⟩]
  exact red6 _ _ _ (Nat.mul_pos (den_pos ha) (den_pos hb))
theorem div6 {a b:api_Ratio} (ha:vR a=true) (hb:vR b=true) (h0:b.Num ≠ 0):Ok6 (divOf a b):=by
  unfold divOf
  rw [if_pos ⟨ha,hb⟩,if_neg h0]
  exact red6 _ _ _ (Nat.mul_pos (den_pos ha) (by omega))
theorem sub_ne {a b x:api_Ratio} (ha:vR a=true) (hb:vR b=true) (hlt:cmpR a b<0) (h:subOf b a=(x,0)):x.Num ≠ 0:=by
  unfold subOf at h
  rw [if_pos ⟨hb,ha⟩] at h
  obtain ⟨_,v2,v3⟩:=addOf2_val hb (neg_v ha) h
  intro h0
  rw [h0,Int.zero_mul] at v2
  have hne:b.Num*a.Den+-a.Num*b.Den=0:=by
    rcases Int.mul_eq_zero.1 v2.symm with g | g
    · exact g
    · omega
  have:cmpR a b=0:=by
    unfold cmpR
    rw [if_pos ⟨ha,hb⟩,cmpI_zero]
    have:-a.Num*b.Den=-(a.Num*b.Den):=Int.neg_mul _ _
    omega
  omega
def lt (a b:api_Ratio):Bool:=decide (cmpR a b<0)
def bad (l:List api_Point) (k:Nat):Bool:=(!(vR (ix l (k:Int)).X)||!(vR (ix l (k:Int)).Y))||(decide (0<k)&&(!(lt (ix l ((k - 1:Nat):Int)).X (ix l (k:Int)).X)||!(lt (ix l ((k - 1:Nat):Int)).Y (ix l (k:Int)).Y)))
theorem LessP (a b:api_Ratio):ratio_Less a b=some (lt a b):=by rw [Less_eq,less_same]; rfl
theorem LessRR (a b:api_Ratio):ref01_Less a b=some (lt a b):=LessR_eq a b
theorem asc_step (l:List api_Point) (hl:l.length≤1000) (k:Nat) (hk:k<l.length):conversion_ascending_l2 l (k:Int)=bif bad l k then some (.inr (.inr false)) else some (.inl ((k+1:Nat):Int)):=by
  simp only [conversion_ascending_l2]
  rw [show decide ((k:Int)<(l.length:Int))=true by simp; omega,cond_true,req_pos (by omega),Valid_eq,gsb,Valid_eq,LessP,LessP,i64_add1 k (by omega)]
  simp only [Option.isSome_some,implies_true,req_true,Option.getD_some,and_true,true_and]
  cases k with
  | zero =>
    rw [show decide ((0:Int)<((0:Nat):Int))=false by simp]
    simp only [bad,Bool.false_and,cond_false,Bool.or_false,show decide (0<0)=false from rfl]
    rcases bcases (!(vR (ix l ((0:Nat):Int)).X)||!(vR (ix l ((0:Nat):Int)).Y)) with h | h <;> rw [h]
    · rfl
    · rw [cond_false,req_pos ⟨fun h => (nomatch h),fun h => (nomatch h)⟩,cond_false]
  | succ j =>
    have e:IntKind.i64.wrap (((j+1:Nat):Int) - 1)=(j:Int):=by rw [wrap64 (by omega) (by omega)]; omega
    rw [e,show decide ((0:Int)<((j+1:Nat):Int))=true from decide_eq_true (by omega)]
    simp only [bad,Bool.true_and,Nat.add_sub_cancel,show decide (0<j+1)=true by simp]
    rcases bcases (!(vR (ix l ((j+1:Nat):Int)).X)||!(vR (ix l ((j+1:Nat):Int)).Y)) with h | h <;> rw [h]
    · rfl
    · rw [cond_false,req_pos ⟨fun _ => by omega,fun _ => by omega⟩,Bool.false_or]
theorem ris_step (l:List api_Point) (hl:l.length≤1000) (k:Nat) (hk:k<l.length):ref33_rising_l2 l (k:Int)=bif bad l k then some (.inr (.inr false)) else some (.inl ((k+1:Nat):Int)):=by
  simp only [ref33_rising_l2]
  rw [show decide ((k:Int)<(l.length:Int))=true by simp; omega,cond_true,req_pos (by omega),ValidR_eq,gsb,ValidR_eq,LessRR,LessRR,i64_add1 k (by omega)]
  simp only [Option.isSome_some,implies_true,Option.getD_some,and_true,true_and]
  cases k with
  | zero =>
    rw [show decide ((0:Int)<((0:Nat):Int))=false by simp]
    simp only [bad,Bool.false_and,Bool.and_false,Bool.or_false,show decide (0<0)=false from rfl]
    rw [req_pos (by refine ⟨fun _ => by omega,?_⟩; simp)]
  | succ j =>
    have e:IntKind.i64.wrap (((j+1:Nat):Int) - 1)=(j:Int):=by rw [wrap64 (by omega) (by omega)]; omega
    rw [e,show decide ((0:Int)<((j+1:Nat):Int))=true from decide_eq_true (by omega)]
    simp only [bad,Bool.true_and,Nat.add_sub_cancel,show decide (0<j+1)=true by simp]
    rw [req_pos ⟨fun _ => by omega,fun _ => by omega,fun _ => by omega,fun _ => by omega,fun _ => by omega⟩]
theorem asc_loop (l:List api_Point) (hl:l.length≤1000):∀ (n k:Nat),l.length - k=n→k≤l.length →
    ∃ z,iter (conversion_ascending_l2 l) (k:Int)=some z∧iter (ref33_rising_l2 l) (k:Int)=some z∧((z=.inr false) ∨ (z=.inl ()∧∀ j,k≤j→j<l.length→bad l j=false)):=by
  intro n
  induction n with
  | zero =>
    intro k hn hk
    refine ⟨.inl (),iter_inr ?_,iter_inr ?_,.inr ⟨rfl,fun j h1 h2 => by omega⟩⟩
    · simp only [conversion_ascending_l2]
      rw [show decide ((k:Int)<(l.length:Int))=false by simp; omega,cond_false]
    · simp only [ref33_rising_l2]
      rw [show decide ((k:Int)<(l.length:Int))=false by simp; omega,cond_false]
  | succ n ih =>
    intro k hn hk
    have hk':k<l.length:=by omega
    have e1:=asc_step l hl k hk'
    have e2:=ris_step l hl k hk'
    rcases bcases (bad l k) with h | h
    · rw [h] at e1 e2
      exact ⟨_,iter_inr e1,iter_inr e2,.inl rfl⟩
    · rw [h] at e1 e2
      obtain ⟨z,i1,i2,i3⟩:=ih (k+1) (by omega) (by omega)
      refine ⟨z,by rw [← i1]; exact iter_inl e1,by rw [← i2]; exact iter_inl e2,?_⟩
      rcases i3 with i3 | ⟨i3,i4⟩
      · exact .inl i3
      · refine .inr ⟨i3,fun j h1 h2 => ?_⟩
        rcases Nat.lt_or_ge k j with g | g
        · exact i4 j (by omega) h2
        · have:j=k:=by omega
          subst this; exact h
theorem gCV (c:api_Curve) (hl:c.Points.length≤400):∃ v,conversion_Valid c=some v∧ref33_Valid c=some v∧(v=true→2≤c.Points.length∧∀ j,j<c.Points.length→bad c.Points j=false):=by
  unfold conversion_Valid ref33_Valid conversion_ascending ref33_rising
  obtain ⟨z,i1,i2,i3⟩:=asc_loop c.Points (by omega) _ 0 rfl (by omega)
  have i1':iter (conversion_ascending_l2 c.Points) (0:Int)=some z:=i1
  have i2':iter (ref33_rising_l2 c.Points) (0:Int)=some z:=i2
  rw [i1',i2',gsb,gsb,show decide ((c.Points.length:Int)≤(410:Int))=true by simp; omega]
  rcases i3 with rfl | ⟨rfl,i4⟩
  · refine ⟨false,?_,?_,fun h => by cases h⟩
    · simp [req]
    · simp [req]
  · refine ⟨decide ((2:Int)≤(c.Points.length:Int)),?_,?_,fun h => ⟨by have:=of_decide_eq_true h; omega,fun j hj => i4 j (by omega) hj⟩⟩
    · show req (_→(some true).isSome=true) (some (_&&(some true).getD default))=_
      simp [req]
    · show req (_→(ref33_rising_j1 c.Points).isSome=true) (some (_&&(ref33_rising_j1 c.Points).getD default))=_
      unfold ref33_rising_j1
      simp [req]
theorem bad_v {l:List api_Point} {k:Nat} (h:bad l k=false):vR (ix l (k:Int)).X=true∧vR (ix l (k:Int)).Y=true:=by
  unfold bad at h
  simp only [Bool.or_eq_false_iff,Bool.not_eq_false'] at h
  exact h.1
theorem bad_lt {l:List api_Point} {k:Nat} (h:bad l (k+1)=false):cmpR (ix l (k:Int)).X (ix l ((k+1:Nat):Int)).X<0:=by
  unfold bad at h
  rw [show decide (0<k+1)=true by simp,Bool.true_and,Nat.add_sub_cancel] at h
  simp only [Bool.or_eq_false_iff,Bool.not_eq_false',lt,decide_eq_true_eq] at h
  exact h.2.1
theorem place (l:List api_Point) (x:api_Ratio) (hl:l.length≤1000) (h2:2≤l.length) (hv:vR x=true) (hb:∀ j,j<l.length→bad l j=false) :
    ∃ s:Nat,s+1<l.length∧sort_Search_conversion_eval_f1 ((l.length:Int) - 2) x l=some (s:Int)∧iter (ref33_value_l2 l x) (0:Int)=some (s:Int):=by
  let P:Nat→Prop:=fun k => cmpR x (ix l ((k+1:Nat):Int)).X≤0
  have f1:∀ k:Nat,k+1<l.length→conversion_eval_f1 (k:Int) x l=some (decide (P k)):=fun k hk => by
    unfold conversion_eval_f1
    rw [i64_add1 k (by omega),req_pos (by omega),Compare_eq,gsb]
  have mono:∀ (n i j:Nat),j - i=n→i≤j→j+1<l.length→P i→P j:=by
    intro n
    induction n with
    | zero => intro i j h1 h2 h3 hp; have:i=j:=by omega
              subst this; exact hp
    | succ n ih =>
      intro i j h1 h2 h3 hp
      obtain ⟨k,rfl⟩:∃ k,j=k+1:=⟨j - 1,by omega⟩
      have hk:=ih i k (by omega) (by omega) (by omega) hp
      have hlt:=bad_lt (hb (k+1+1) h3)
      exact cmpR_trans hv (bad_v (hb (k+1) (by omega))).1 (bad_v (hb (k+1+1) h3)).1 hk (by omega)
  have key:∀ (n i j:Nat),j - i=n→i≤j→j+2≤l.length→(0<i→¬ P (i - 1))→(j+2<l.length→P j) →
      ∃ s:Nat,iter (sort_Search_conversion_eval_f1_l2 x l) ((i:Int),(j:Int))=some (s:Int)∧s+1<l.length∧(0<s→¬ P (s - 1))∧(s+2<l.length→P s):=by
    intro n
    induction n using Nat.strongRecOn with
    | _ n ih =>
      intro i j hn hij hj hlo hhi
      by_cases hlt:i<j
      · have hh:sort_Search_conversion_eval_f1_l2 x l ((i:Int),(j:Int))=bif (!(decide (P ((i+j) / 2)))) then some (.inl ((((i+j) / 2+1:Nat):Int),(j:Int))) else some (.inl ((i:Int),(((i+j) / 2:Nat):Int))):=by
          simp only [sort_Search_conversion_eval_f1_l2]
          rw [show decide ((i:Int)<(j:Int))=true by simp; exact hlt,cond_true]
          unfold bindV
          rw [wrap64 (n:=(i:Int)+(j:Int)) (by omega) (by omega),← Int.natCast_add,wrapU_nat (i+j) (by omega),shr1,wrap64 (n:=(((i+j) / 2:Nat):Int)) (by omega) (by omega)]
          dsimp only
          rw [f1 ((i+j) / 2) (by omega),gsb,i64_add1 ((i+j) / 2) (by omega)]
        rcases bcases (decide (P ((i+j) / 2))) with hc | hc
        · rw [hc] at hh
          rw [iter_inl (s':=((i:Int),(((i+j) / 2:Nat):Int))) (by rw [hh]; rfl)]
          exact ih _ (by omega) i ((i+j) / 2) rfl (by omega) (by omega) hlo (fun _ => by simpa using hc)
        · rw [hc] at hh
          rw [iter_inl (s':=((((i+j) / 2+1:Nat):Int),(j:Int))) (by rw [hh]; rfl)]
          exact ih _ (by omega) ((i+j) / 2+1) j rfl (by omega) hj (fun _ => by rw [Nat.add_sub_cancel]; simpa using hc) hhi
      · have e:i=j:=by omega
        subst e
        refine ⟨i,iter_inr ?_,by omega,hlo,hhi⟩
        simp [sort_Search_conversion_eval_f1_l2]
  obtain ⟨s,k1,k2,k3,k4⟩:=key _ 0 (l.length - 2) rfl (by omega) (by omega) (fun h => by omega) (fun h => by omega)
  have nP:∀ i,i<s→¬ P i:=fun i hi hp => k3 (by omega) (mono _ i (s - 1) rfl (by omega) (by omega) hp)
  have st:∀ i:Nat,i+1<l.length→ref33_value_l2 l x (i:Int)=bif (decide (i+2<l.length)&&!(decide (P i))) then some (.inl ((i+1:Nat):Int)) else some (.inr (i:Int)):=fun i hi => by
    simp only [ref33_value_l2]
    rw [i64_add1 i (by omega),show IntKind.i64.wrap ((i:Int)+2)=((i+2:Nat):Int) by rw [wrap64 (by omega) (by omega)]; omega,LessRR]
    simp only [Option.isSome_some,implies_true,and_true,Option.getD_some]
    rw [req_pos (fun _ => by omega),show decide (((i+2:Nat):Int)<(l.length:Int))=decide (i+2<l.length) from decide_eq_decide.2 (by omega)]
    have:lt (ix l ((i+1:Nat):Int)).X x=!(decide (P i)):=by
      show decide (cmpR _ x<0)=!(decide (cmpR x _≤0))
      rw [cmpR_anti,Bool.eq_iff_iff]
      simp
    rw [this]
  have rl:∀ (n i:Nat),s - i=n→i≤s→iter (ref33_value_l2 l x) (i:Int)=some (s:Int):=by
    intro n
    induction n with
    | zero =>
      intro i h1 h2
      have:i=s:=by omega
      subst this
      refine iter_inr ?_
      rw [st i k2]
      by_cases g:i+2<l.length
      · rw [show decide (P i)=true by simpa using k4 g,Bool.not_true,Bool.and_false,cond_false]
      · rw [show decide (i+2<l.length)=false by simpa using g,Bool.false_and,cond_false]
    | succ n ih =>
      intro i h1 h2
      rw [← ih (i+1) (by omega) (by omega)]
      refine iter_inl ?_
      rw [st i (by omega),show decide (i+2<l.length)=true by simp; omega,show decide (P i)=false by simpa using nP i (by omega),Bool.not_false,Bool.and_self,cond_true]
  refine ⟨s,k2,?_,rl _ 0 rfl (by omega)⟩
  unfold sort_Search_conversion_eval_f1
  have k1':iter (sort_Search_conversion_eval_f1_l2 x l) ((0:Int),((l.length - 2:Nat):Int))=some (s:Int):=k1
  rw [show (l.length:Int) - 2=((l.length - 2:Nat):Int) by omega,k1']
  rfl
theorem doS (a b:api_Ratio) (e:Int):conversion_steps_do_ratio_Sub ⟨e⟩ a b=some (if e=0 then ((subOf a b).1,⟨(subOf a b).2⟩) else (⟨0,0⟩,⟨e⟩)):=by
  unfold conversion_steps_do_ratio_Sub
  by_cases h:e=0
  · subst h
    rw [show ((conversion_steps.mk 0).e != 0)=false from rfl,cond_false,Sub_eq,gsb,if_pos rfl]
  · rw [show ((conversion_steps.mk e).e != 0)=true by simpa using h,cond_true,if_neg h]
theorem doM (a b:api_Ratio) (e:Int):conversion_steps_do_ratio_Mul ⟨e⟩ a b=some (if e=0 then ((mulOf a b).1,⟨(mulOf a b).2⟩) else (⟨0,0⟩,⟨e⟩)):=by
  unfold conversion_steps_do_ratio_Mul
  by_cases h:e=0
  · subst h
    rw [show ((conversion_steps.mk 0).e != 0)=false from rfl,cond_false,Mul_eq,gsb,if_pos rfl]
  · rw [show ((conversion_steps.mk e).e != 0)=true by simpa using h,cond_true,if_neg h]
theorem doA (a b:api_Ratio) (e:Int):conversion_steps_do_ratio_Add ⟨e⟩ a b=some (if e=0 then ((addOf2 a b).1,⟨(addOf2 a b).2⟩) else (⟨0,0⟩,⟨e⟩)):=by
  unfold conversion_steps_do_ratio_Add
  by_cases h:e=0
  · subst h
    rw [show ((conversion_steps.mk 0).e != 0)=false from rfl,cond_false,Add_eq,gsb,if_pos rfl]
  · rw [show ((conversion_steps.mk e).e != 0)=true by simpa using h,cond_true,if_neg h]
theorem doD (a b:api_Ratio) (e:Int):conversion_steps_do_ratio_Div ⟨e⟩ a b=some (if e=0 then ((divOf a b).1,⟨(divOf a b).2⟩) else (⟨0,0⟩,⟨e⟩)):=by
  unfold conversion_steps_do_ratio_Div
  by_cases h:e=0
  · subst h
    rw [show ((conversion_steps.mk 0).e != 0)=false from rfl,cond_false,Div_eq,gsb,if_pos rfl]
  · rw [show ((conversion_steps.mk e).e != 0)=true by simpa using h,cond_true,if_neg h]
theorem veta (x:api_Ratio):api_Ratio.mk x.Num x.Den=x:=rfl
theorem ok6 {p:api_Ratio × Int} (h:Ok6 p):p=(⟨0,0⟩,6) ∨ ∃ r,p=(r,0)∧vR r=true:=by
  rcases h with h | ⟨h,g⟩
  · exact .inl h
  · exact .inr ⟨p.1,by rw [← h],g⟩
theorem gval (l:List api_Point) (x:api_Ratio) (hl:l.length≤1000) (h2:2≤l.length) (hv:vR x=true) (hb:∀ j,j<l.length→bad l j=false) :
    ∃ v e w,conversion_eval l x=some (v,e)∧ref33_value l x=some (w,decide (e=0))∧(e=0 ∨ e=6)∧(e=0→v=w):=by
  obtain ⟨s,hs,p1,p2⟩:=place l x hl h2 hv hb
  have vp:=bad_v (hb s (by omega))
  have vq:=bad_v (hb (s+1) hs)
  have hlt:=bad_lt (hb (s+1) hs)
  have HA:(0≤((s+1:Nat):Int)∧((s+1:Nat):Int)<(l.length:Int))∧(0≤(s:Int)∧(s:Int)<(l.length:Int)):=by omega
  have HC:(0≤(s:Int)∧(s:Int)<(l.length:Int))∧(0≤((s+1:Nat):Int)∧((s+1:Nat):Int)<(l.length:Int)):=by omega
  have HB:0≤(s:Int)∧(s:Int)<(l.length:Int):=by omega
  unfold conversion_eval ref33_value ref33_value_j1 ref33_slope
  rw [p2,gsb,show IntKind.i64.wrap (IntKind.i64.wrap ((l.length:Int) - 1) - 1)=(l.length:Int) - 2 by rw [wrap64 (n:=(l.length:Int) - 1) (by omega) (by omega),wrap64 (by omega) (by omega)]; omega,p1,gsb]
  rw [show IntKind.i64.wrap ((1:Int)+(s:Int))=((s+1:Nat):Int) by rw [wrap64 (by omega) (by omega)]; omega,show IntKind.i64.wrap (((s+1:Nat):Int) - 1)=(s:Int) by rw [wrap64 (by omega) (by omega)]; omega,i64_add1 s (by omega)]
  simp only [bindV,req_pos HA,req_pos HB,req_pos HC,veta]
  clear HA HB HC p1 p2
  generalize ix l (s:Int)=p at *
  generalize ix l ((s+1:Nat):Int)=q at *
  unfold conversion_steps_slope
  simp only [show (api_Point.mk p.X p.Y)=p from rfl,show (api_Point.mk q.X q.Y)=q from rfl,SubR_eq,DivR_eq,MulR_eq,AddR_eq,doS]
  rcases ok6 (sub6 vq.2 vp.2) with h1 | ⟨A1,h1,g1⟩
  · refine ⟨⟨0,0⟩,6,⟨0,0⟩,?_,?_,.inr rfl,fun h => by cases h⟩
    · simp [h1,doS,doD,doM,doA]
    · rcases ok6 (sub6 vq.1 vp.1) with h2 | ⟨A2,h2,g2⟩ <;> rcases ok6 (sub6 hv vp.1) with h4 | ⟨A4,h4,g4⟩ <;> simp [h1,h2,h4]
  rcases ok6 (sub6 vq.1 vp.1) with h2 | ⟨A2,h2,g2⟩
  · refine ⟨⟨0,0⟩,6,⟨0,0⟩,?_,?_,.inr rfl,fun h => by cases h⟩
    · simp [h1,h2,doS,doD,doM,doA]
    · rcases ok6 (sub6 hv vp.1) with h4 | ⟨A4,h4,g4⟩ <;> simp [h1,h2,h4]
  have hne:A2.Num ≠ 0:=sub_ne vp.1 vq.1 hlt h2
  rcases ok6 (div6 g1 g2 hne) with h3 | ⟨A3,h3,g3⟩
  · refine ⟨⟨0,0⟩,6,⟨0,0⟩,?_,?_,.inr rfl,fun h => by cases h⟩
    · simp [h1,h2,h3,doS,doD,doM,doA]
    · rcases ok6 (sub6 hv vp.1) with h4 | ⟨A4,h4,g4⟩ <;> simp [h1,h2,h3,h4]
  rcases ok6 (sub6 hv vp.1) with h4 | ⟨A4,h4,g4⟩
  · refine ⟨⟨0,0⟩,6,⟨0,0⟩,?_,?_,.inr rfl,fun h => by cases h⟩
    · simp [h1,h2,h3,h4,doS,doD,doM,doA]
    · simp [h1,h2,h3,h4]
  rcases ok6 (mul6 g4 g3) with h5 | ⟨A5,h5,g5⟩
  · refine ⟨⟨0,0⟩,6,⟨0,0⟩,?_,?_,.inr rfl,fun h => by cases h⟩
    · simp [h1,h2,h3,h4,h5,doS,doD,doM,doA]
    · simp [h1,h2,h3,h4,h5]
  rcases ok6 (add6 vp.2 g5) with h6 | ⟨A6,h6,g6⟩
  · refine ⟨⟨0,0⟩,6,⟨0,0⟩,?_,?_,.inr rfl,fun h => by cases h⟩
    · simp [h1,h2,h3,h4,h5,h6,doS,doD,doM,doA]
    · simp [h1,h2,h3,h4,h5,h6]
  · refine ⟨A6,0,A6,?_,?_,.inl rfl,fun _ => rfl⟩
    · simp [h1,h2,h3,h4,h5,h6,doS,doD,doM,doA]
    · simp [h1,h2,h3,h4,h5,h6]
theorem gConv (c:api_Curve) (m:Int) (hl:c.Points.length≤400) (m0:0≤m) (m1:m≤200):∃ r,conversion_Convert c m 200=some r∧ref33_Convert c m 200=some r:=by
  unfold conversion_Convert ref33_Convert conversion_whole
  rw [show ((((decide (m<(0:Int)))||(decide ((200:Int)<m)))||(decide ((200:Int)<(0:Int))))||(decide ((200:Int)<(200:Int))))=false by simp; omega,cond_false,cond_false,gsb]
  have hv:vR ⟨m,1⟩=true:=v_one m (by omega) (by omega)
  unfold conversion_Eval ref33_Eval
  obtain ⟨v,v1,v2,v3⟩:=gCV c hl
  rw [v1,v2,gsb,gsb,Valid_eq,ValidR_eq,hv]
  simp only [Option.isSome_some,implies_true,req_true,Option.getD_some,Bool.not_true,Bool.or_false]
  cases v with
  | false => exact ⟨(0,1),rfl,rfl⟩
  | true =>
    obtain ⟨h2,hb⟩:=v3 rfl
    obtain ⟨v,e,w,e1,e2,e3,e4⟩:=gval c.Points ⟨m,1⟩ (by omega) h2 hv hb
    rw [Bool.not_true,cond_false,cond_false,e1,e2,gsb,gsb]
    try dsimp only
    rcases e3 with rfl | rfl
    · obtain rfl:=e4 rfl
      rw [show ((0:Int) != 0)=false by decide,cond_false,Round_eq,gsb]
      refine ⟨_,rfl,?_⟩
      show (bif (!(decide ((0:Int)=0))) then some ((⟨0,0⟩:api_Ratio),(6:Int)) else some (v,(0:Int))).bind _=_
      rw [show (!(decide ((0:Int)=0)))=false by decide,cond_false,gsb]
      try dsimp only
      rw [show ((0:Int) != 0)=false by decide,cond_false,RoundR_eq,gsb]
      congr 2
      unfold imin imax
      (repeat' split) <;> omega
    · exact ⟨(0,6),rfl,rfl⟩
noncomputable def cvr (c:api_Curve) (m:Nat):Int × Int:=(conversion_Convert c (m:Int) 200).getD (0,0)
theorem cvr_eq (c:api_Curve) (hl:c.Points.length≤400) (m:Nat) (hm:m≤200):conversion_Convert c (m:Int) 200=some (cvr c m)∧ref33_Convert c (m:Int) 200=some (cvr c m):=by
  obtain ⟨r,r1,r2⟩:=gConv c (m:Int) hl (by omega) (by omega)
  unfold cvr
  rw [r1]
  exact ⟨rfl,r2⟩
theorem l67 (c:api_Curve) (hl:c.Points.length≤400) (top:Nat) (ht:top≤200):∀ (n k:Nat) (W:List Int),top+1 - k=n→k≤top+1→W.length=top+1→(∀ i (hi:i<W.length),i<k→W[i]=(cvr c i).1) →
    (∃ R:List Int,iter (boundary_Transfer_l6 c (top:Int)) ((k:Int),W)=some (.inl R)∧iter (ref35_Transfer_l7 c (top:Int)) ((k:Int),(List.range k).map fun i => (cvr c i).1)=some (.inl R)∧R.length=top+1) ∨
    (∃ e:Int,iter (boundary_Transfer_l6 c (top:Int)) ((k:Int),W)=some (.inr ([],e))∧iter (ref35_Transfer_l7 c (top:Int)) ((k:Int),(List.range k).map fun i => (cvr c i).1)=some (.inr ([],e))):=by
  intro n
  induction n with
  | zero =>
    intro k W h1 h2 h3 h4
    have:k=top+1:=by omega
    subst this
    refine .inl ⟨W,iter_inr ?_,iter_inr ?_,h3⟩
    · simp only [boundary_Transfer_l6]
      rw [i64_add1 top (by omega),rep_len,show decide (((top+1:Nat):Int)<((top+1:Nat):Int))=false by simp,cond_false]
    · simp only [ref35_Transfer_l7]
      rw [show decide (((top+1:Nat):Int)≤(top:Int))=false by simp; omega,cond_false]
      congr 3
      refine List.ext_getElem (by simp [h3]) fun i hi hi2 => ?_
      rw [h4 i hi2 (by omega)]
      simp
  | succ n ih =>
    intro k W h1 h2 h3 h4
    obtain ⟨c1,c2⟩:=cvr_eq c hl k (by omega)
    have s1:boundary_Transfer_l6 c (top:Int) ((k:Int),W)=bif ((cvr c k).2 != 0) then some (.inr (.inr ([],(cvr c k).2))) else some (.inl (((k+1:Nat):Int),setI W (k:Int) (cvr c k).1)):=by
      simp only [boundary_Transfer_l6]
      rw [i64_add1 top (by omega),rep_len,show decide ((k:Int)<((top+1:Nat):Int))=true by simp only [decide_eq_true_eq]; omega,cond_true,c1,gsb,i64_add1 k (by omega),req_pos (by omega)]
    have s2:ref35_Transfer_l7 c (top:Int) ((k:Int),(List.range k).map fun i => (cvr c i).1)=bif ((cvr c k).2 != 0) then some (.inr (.inr ([],(cvr c k).2))) else some (.inl (((k+1:Nat):Int),(List.range (k+1)).map fun i => (cvr c i).1)):=by
      simp only [ref35_Transfer_l7]
      rw [show decide ((k:Int)≤(top:Int))=true by simp only [decide_eq_true_eq]; omega,cond_true,c2,gsb,i64_add1 k (by omega),req_pos (by simp; omega),List.range_succ,List.map_append]
      rfl
    rcases bcases ((cvr c k).2 != 0) with h | h
    · rw [h] at s1 s2
      exact .inr ⟨_,iter_inr s1,iter_inr s2⟩
    · rw [h] at s1 s2
      rw [iter_inl s1,iter_inl s2]
      refine ih (k+1) _ (by omega) (by omega) (by rw [setI_len]; exact h3) (fun i hi hik => ?_)
      rw [setI_get]
      split
      · rename_i e; subst e; rfl
      · exact h4 i (by rw [setI_len] at hi; exact hi) (by omega)
theorem rl4 (b:List Int) (top:Nat) (R:List Int) (hR:R.length=top+1) (ht:top≤200) (v:Nat) (hv:v<b.length):∀ (n j:Nat),fx R b[v] - j=n→j≤fx R b[v]→iter (ref35_Transfer_l4 b (top:Int) R (v:Int)) (j:Int)=some (fx R b[v]:Int):=by
  have hfl:fx R b[v]≤top+1:=by rw [← hR]; exact List.findIdx_le_length
  intro n
  induction n with
  | zero =>
    intro j h1 h2
    have hj:j=fx R b[v]:=by omega
    rw [← hj]
    refine iter_inr ?_
    simp only [ref35_Transfer_l4]
    rw [req_pos ⟨fun hh => by
      have:(j:Int)≤(top:Int):=by simpa using hh
      omega,fun _ => by omega⟩]
    by_cases hc:j≤top
    · have hjl:j<R.length:=by omega
      have:b[v]≤R[j]:=by
        have:=List.findIdx_getElem (w:=by show fx R b[v]<R.length; omega) (p:=fun c => decide (b[v]≤c)) (xs:=R)
        have h5:decide (b[v]≤R[fx R b[v]]'(by omega))=true:=this
        simp only [← hj] at h5
        simpa using h5
      rw [ix_nat b v hv,ix_nat R j hjl,show decide (R[j]<b[v])=false by simp only [decide_eq_false_iff_not]; omega,Bool.and_false,cond_false]
    · rw [show decide ((j:Int)≤(top:Int))=false by simp only [decide_eq_false_iff_not]; omega,Bool.false_and,cond_false]
  | succ n ih =>
    intro j h1 h2
    have hjl:j<R.length:=by omega
    have hlt:R[j]<b[v]:=by
      have:j<R.findIdx (fun c => decide (b[v]≤c)):=by show j<fx R b[v]; omega
      have:=List.not_of_lt_findIdx this
      simp at this; exact this
    rw [← ih (j+1) (by omega) (by omega)]
    refine iter_inl ?_
    simp only [ref35_Transfer_l4]
    rw [req_pos ⟨fun _ => by omega,fun _ => by omega⟩,ix_nat b v hv,ix_nat R j hjl,show decide ((j:Int)≤(top:Int))=true by simp only [decide_eq_true_eq]; omega,show decide (R[j]<b[v])=true by simpa using hlt,Bool.and_self,cond_true,i64_add1 j (by omega)]
theorem rl5 (b:List Int) (top:Nat) (R:List Int) (hR:R.length=top+1) (ht:top≤200) (hb:b.length≤1000):∀ (n k:Nat),b.length - k=n→k≤b.length→iter (ref35_Transfer_l5 b (top:Int) R) ((k:Int),(b.take k).map fun x => (fx R x:Int))=some (b.map fun x => (fx R x:Int)):=by
  intro n
  induction n with
  | zero =>
    intro k h1 h2
    have:k=b.length:=by omega
    subst this
    refine iter_inr ?_
    simp only [ref35_Transfer_l5]
    rw [show decide ((b.length:Int)<(b.length:Int))=false by simp,cond_false,List.take_length]
  | succ n ih =>
    intro k h1 h2
    have hk:k<b.length:=by omega
    rw [← ih (k+1) (by omega) (by omega)]
    refine iter_inl ?_
    have r:=rl4 b top R hR ht k hk _ 0 rfl (by omega)
    have r':iter (ref35_Transfer_l4 b (top:Int) R (k:Int)) (0:Int)=some (fx R b[k]:Int):=r
    simp only [ref35_Transfer_l5,ref35_Transfer_j3,ref35_Transfer_j2]
    rw [show decide ((k:Int)<(b.length:Int))=true by simp; omega,cond_true,r',gsb,req_pos (by simp; omega),i64_add1 k (by omega),List.take_succ_eq_append_getElem hk,List.map_append]
    rfl
theorem gTransfer (b:List Int) (c:api_Curve) (most:Int) (hb:b.length≤900) (hl:c.Points.length≤400):∃ r,boundary_Transfer b c most=some r∧ref35_Transfer b c most=some r∧r.1.length≤1000:=by
  unfold boundary_Transfer ref35_Transfer boundary_isScore
  rw [gsb]
  by_cases hm:0≤most∧most≤200
  · rw [show (!(decide ((0:Int)≤most)&&decide (most≤(200:Int))))=false by simp; omega,cond_false,show ((decide (most<(0:Int)))||(decide ((200:Int)<most)))=false by simp; omega,cond_false]
    obtain ⟨e,c1,c2,c3⟩:=chkT b 200 (by omega)
    rw [c1,c2,gsb,gsb]
    rcases bcases (e != (0:Int)) with he | he <;> rw [he]
    · exact ⟨([],e),rfl,rfl,by simp⟩
    · obtain ⟨top,rfl⟩:∃ top:Nat,most=top:=⟨most.toNat,by omega⟩
      rw [cond_false,cond_false,i64_add1 top (by omega),req_pos (by omega)]
      rcases l67 c hl top (by omega) _ 0 (rep ((top+1:Nat):Int) 0) rfl (by omega) (by rw [rep_len]) (fun i _ hi => absurd hi (by omega)) with ⟨R,i1,i2,i3⟩ | ⟨e,i1,i2⟩
      · have i1':iter (boundary_Transfer_l6 c (top:Int)) ((0:Int),(rep ((top+1:Nat):Int) (0:Int)))=some (.inl R):=i1
        have i2':iter (ref35_Transfer_l7 c (top:Int)) ((0:Int),([]:List Int))=some (.inl R):=i2
        rw [i1',i2',gsb,gsb]
        show ∃ r,boundary_Transfer_j5 b (top:Int) R=some r∧ref35_Transfer_j6 b (top:Int) R=some r∧_
        unfold boundary_Transfer_j5 boundary_Transfer_j1 ref35_Transfer_j6 ref35_Transfer_j1
        have h4:=l4_ok b top R i3 (by omega) (by omega) _ 0 (rep (b.length:Int) 0) rfl (by omega) (by rw [rep_len]) (fun i _ _ hi => absurd hi (by omega)) (fun i hi _ => by simp [rep])
        have h4':iter (boundary_Transfer_l4 b (top:Int) R) ((0:Int),(rep (b.length:Int) (0:Int)))=some (b.map fun x => (fx R x:Int)):=h4
        have h5:=rl5 b top R i3 (by omega) (by omega) _ 0 rfl (by omega)
        have h5':iter (ref35_Transfer_l5 b (top:Int) R) ((0:Int),([]:List Int))=some (b.map fun x => (fx R x:Int)):=h5
        rw [req_pos (by omega),h4',h5',gsb]
        exact ⟨_,rfl,rfl,by simp; omega⟩
      · have i1':iter (boundary_Transfer_l6 c (top:Int)) ((0:Int),(rep ((top+1:Nat):Int) (0:Int)))=some (.inr ([],e)):=i1
        have i2':iter (ref35_Transfer_l7 c (top:Int)) ((0:Int),([]:List Int))=some (.inr ([],e)):=i2
        rw [i1',i2',gsb,gsb]
        exact ⟨([],e),rfl,rfl,by simp⟩
  · rw [show (!(decide ((0:Int)≤most)&&decide (most≤(200:Int))))=true by simp; omega,cond_true,show ((decide (most<(0:Int)))||(decide ((200:Int)<most)))=true by simp; omega,cond_true]
    exact ⟨([],2),rfl,rfl,by simp⟩
theorem same1 (a:List Int) (h:a.length≤1000):law35_same a a=some true:=by rw [same_eq a a h]; simp
theorem nself (n:Int):(n != n)=false:=by simp
theorem ix3 {α:Type} [Inhabited α] (P:α→Prop) (a b c:α) (ha:P a) (hb:P b) (hc:P c) (v:Nat) (h:v<3):P (ix [a,b,c] (v:Int)):=by
  match v,h with
  | 0,_ => exact ha
  | 1,_ => exact hb
  | 2,_ => exact hc
theorem ix2 {α:Type} [Inhabited α] (P:α→Prop) (a b:α) (ha:P a) (hb:P b) (v:Nat) (h:v<2):P (ix [a,b] (v:Int)):=by
  match v,h with
  | 0,_ => exact ha
  | 1,_ => exact hb
theorem pure_BoundaryExact (t raw:List Int) (x:api_Distribution) (share:api_Ratio) (curve:api_Curve) (m most:Int):law35_BoundaryExact t raw x share curve m most=some true:=by
  unfold law35_BoundaryExact
  rw [light_eq,gsb]
  rcases bcases ((((!(decide ((t.length:Int)≤600)))||(decide ((20:Int)<(raw.length:Int))))||(decide ((40:Int)<(x.Counts.length:Int))))||(decide ((20:Int)<(curve.Points.length:Int)))) with h | h <;> rw [h]
  · rw [cond_true,sane_eq]; rfl
  · simp only [Bool.or_eq_false_iff,Bool.not_eq_false',decide_eq_true_eq,decide_eq_false_iff_not] at h
    obtain ⟨⟨⟨ht,hraw⟩,hx⟩,hcu⟩:=h
    rw [cond_false]
    obtain ⟨d0,r0,k0⟩:=dRoll t (by omega)
    rw [r0,gsb]
    obtain ⟨a,d1,r1,k1,sa,la,_⟩:=dDist d0 9 false k0 (by omega) (by omega)
    rw [r1,gsb]
    try dsimp only
    obtain ⟨r,d2,r2,k2,sr,lr,_⟩:=dDist d1 9 false k1 (by omega) (by omega)
    rw [r2,gsb]
    try dsimp only
    have r_lo:=sr.lo
    rw [wrap64 (n:=(r.Counts.length:Int) - 1) (by omega) (by omega)]
    obtain ⟨good,d3,r3,k3,hg⟩:=dBounds d2 ((r.Counts.length:Int) - 1) k2 (by omega) (by omega)
    have g_hi:=hg.hi
    rw [r3,gsb]
    try dsimp only
    rw [req_pos (by omega)]
    obtain ⟨n12,d4,r4,k4,_,_⟩:=dNext d3 12 k3 (by omega)
    rw [r4,gsb]
    try dsimp only
    rw [req_pos (by simp; omega)]
    have hB:∀ v:Nat,v<3→(ix [good,(good ++ [(IntKind.i64.wrap (n12 - (1:Int)))]),raw] (v:Int)).length≤900:=fun v hv => ix3 (fun z:List Int => z.length≤900) _ _ _ (by omega) (by simp; omega) (by omega) v hv
    have hD:∀ v:Nat,v<3→(ix [a,r,x] (v:Int)).Counts.length≤1000:=fun v hv => ix3 (fun z:api_Distribution => z.Counts.length≤1000) _ _ _ (by omega) (by omega) (by omega) v hv
    -- tallies and references
    have l11:∀ (v:Nat),v<3→∀ (n j:Nat),3 - j=n→j≤3→iter (law35_BoundaryExact_l11 raw x a r good n12 (v:Int)) (j:Int)=some (.inl ()):=by
      intro v hv n
      induction n with
      | zero =>
        intro j hm hj
        have:j=3:=by omega
        subst this
        exact iter_inr (by simp [law35_BoundaryExact_l11])
      | succ n ih =>
        intro j hm hj
        rw [← ih (j+1) (by omega) (by omega)]
        refine iter_inl ?_
        simp only [law35_BoundaryExact_l11]
        rw [show decide ((j:Int)<(3:Int))=true by simp; omega,cond_true,req_pos (by omega)]
        obtain ⟨⟨p,pe⟩,p1,p2,p3⟩:=gTally (ix [a,r,x] (j:Int)) (ix [good,(good ++ [(IntKind.i64.wrap (n12 - (1:Int)))]),raw] (v:Int)) (hD j (by omega)) (hB v hv)
        obtain ⟨⟨q,qe⟩,q1,q2,q3⟩:=gRef (ix [a,r,x] (j:Int)) r (ix [good,(good ++ [(IntKind.i64.wrap (n12 - (1:Int)))]),raw] (v:Int)) (hB v hv)
        rw [p1,gsb]
        try dsimp only
        rw [p2,gsb]
        try dsimp only
        rw [q1,gsb]
        try dsimp only
        rw [q2,gsb]
        try dsimp only
        rw [same1 p p3,same1 q q3,gsb]
        simp only [Option.isSome_some,implies_true,req_true,Option.getD_some]
        rw [nself,nself,show ((((!true)||false)||(!true))||false)=false from rfl,cond_false,i64_add1 j (by omega)]
    -- transfers
    have l9:∀ (v:Nat),v<3→∀ (cu:api_Curve),cu.Points.length≤400→∀ (n j:Nat),2 - j=n→j≤2→iter (law35_BoundaryExact_l9 raw curve most good n12 (v:Int) cu) (j:Int)=some (.inl ()):=by
      intro v hv cu hcu2 n
      induction n with
      | zero =>
        intro j hm hj
        have:j=2:=by omega
        subst this
        exact iter_inr (by simp [law35_BoundaryExact_l9])
      | succ n ih =>
        intro j hm hj
        rw [← ih (j+1) (by omega) (by omega)]
        refine iter_inl ?_
        simp only [law35_BoundaryExact_l9]
        rw [show decide ((j:Int)<(2:Int))=true by simp; omega,cond_true,req_pos (by omega)]
        have hC:(ix [cu,curve] (j:Int)).Points.length≤400:=ix2 (fun z:api_Curve => z.Points.length≤400) _ _ hcu2 (by omega) j (by omega)
        obtain ⟨⟨p,pe⟩,p1,p2,p3⟩:=gTransfer (ix [good,(good ++ [(IntKind.i64.wrap (n12 - (1:Int)))]),raw] (v:Int)) (ix [cu,curve] (j:Int)) most (hB v hv) hC
        obtain ⟨⟨q,qe⟩,q1,q2,q3⟩:=gTransfer (ix [good,(good ++ [(IntKind.i64.wrap (n12 - (1:Int)))]),raw] (v:Int)) (ix [cu,curve] (j:Int)) 12 (hB v hv) hC
        rw [p1,gsb]
        try dsimp only
        rw [p2,gsb]
        try dsimp only
        rw [q1,gsb]
        try dsimp only
        rw [q2,gsb]
        try dsimp only
        rw [same1 p p3,same1 q q3,gsb]
        simp only [Option.isSome_some,implies_true,req_true,Option.getD_some]
        rw [nself,nself,show ((((!true)||false)||(!true))||false)=false from rfl,cond_false,i64_add1 j (by omega)]
    have l12:∀ (n v:Nat) (d:mark_Dice),DOK d→3 - v=n→v≤3→∃ d':mark_Dice,DOK d'∧iter (law35_BoundaryExact_l12 raw x curve m most a r good n12) ((v:Int),d.L,d.At)=some (.inl (d'.L,d'.At)):=by
      intro n
      induction n with
      | zero =>
        intro v d hd hm hv
        have:v=3:=by omega
        subst this
        exact ⟨d,hd,iter_inr (by simp [law35_BoundaryExact_l12])⟩
      | succ n ih =>
        intro v d hd hm hv
        have hv3:v<3:=by omega
        obtain ⟨ps,d',e',k',hc⟩:=dCurve d hd
        obtain ⟨d'',kd,ihd⟩:=ih (v+1) d' k' (by omega) (by omega)
        refine ⟨d'',kd,?_⟩
        rw [← ihd]
        refine iter_inl ?_
        simp only [law35_BoundaryExact_l12]
        rw [show decide ((v:Int)<(3:Int))=true by simp; omega,cond_true,req_pos (by omega)]
        have i11:iter (law35_BoundaryExact_l11 raw x a r good n12 (v:Int)) (0:Int)=some (.inl ()):=l11 v hv3 _ 0 rfl (by omega)
        have i9:iter (law35_BoundaryExact_l9 raw curve most good n12 (v:Int) (cv ps)) (0:Int)=some (.inl ()):=l9 v hv3 (cv ps) (by simp [cv]; have:=hc.l1; omega) _ 0 rfl (by omega)
        obtain ⟨e1,c1,c2,_⟩:=chkT (ix [good,(good ++ [(IntKind.i64.wrap (n12 - (1:Int)))]),raw] (v:Int)) most (by have:=hB v hv3; omega)
        obtain ⟨e2,c3,c4,_⟩:=chkT (ix [good,(good ++ [(IntKind.i64.wrap (n12 - (1:Int)))]),raw] (v:Int)) 9 (by have:=hB v hv3; omega)
        rw [c1,c2,gsb,gsb,c3,c4,grR,Grade_eq _ _ (by have:=hB v hv3; omega)]
        simp only [Option.isSome_some,implies_true,and_self,req_true,Option.getD_some]
        rw [nself,nself,nself]
        simp only [Bool.or_self,cond_false]
        rw [i11,gsb]
        show law35_BoundaryExact_j10 raw curve most good n12 (v:Int) d.L d.At=_
        unfold law35_BoundaryExact_j10
        rw [show mark_Dice.mk d.L d.At=d from rfl,e',gsb]
        try dsimp only
        rw [i9,gsb]
        show law35_BoundaryExact_j8 (v:Int) d'.L d'.At=_
        unfold law35_BoundaryExact_j8
        rw [i64_add1 v (by omega)]
    obtain ⟨d5,k5,i12⟩:=l12 _ 0 d4 k4 rfl (by omega)
    have i12':iter (law35_BoundaryExact_l12 raw x curve m most a r good n12) ((0:Int),d4.L,d4.At)=some (.inl (d5.L,d5.At)):=i12
    rw [i12',gsb]
    show law35_BoundaryExact_j7 x share m most a r d5.L d5.At=_
    unfold law35_BoundaryExact_j7
    have l5:∀ (v:Nat),v<3→∀ (y:Int) (n j:Nat),4 - j=n→j≤4→iter (law35_BoundaryExact_l5 x share a r (v:Int) y) (j:Int)=some (.inl ()):=by
      intro v hv y n
      induction n with
      | zero =>
        intro j hm hj
        have:j=4:=by omega
        subst this
        exact iter_inr (by simp [law35_BoundaryExact_l5])
      | succ n ih =>
        intro j hm hj
        rw [← ih (j+1) (by omega) (by omega)]
        refine iter_inl ?_
        simp only [law35_BoundaryExact_l5,bindV]
        rw [show decide ((j:Int)<(4:Int))=true by simp; omega,cond_true,req_pos (by omega)]
        simp only [veta]
        generalize (ix [share,(api_Ratio.mk (1:Int) (3:Int)),(api_Ratio.mk y (3:Int)),(api_Ratio.mk (1:Int) (2:Int))] (j:Int))=s
        obtain ⟨⟨p,pe⟩,p1,p2⟩:=gShare (ix [a,r,x] (v:Int)) s
        obtain ⟨⟨q,qe⟩,q1,q2,_⟩:=gNearest (ix [a,r,x] (v:Int)) s
        rw [p1,gsb]
        try dsimp only
        rw [p2,gsb]
        try dsimp only
        rw [q1,gsb]
        try dsimp only
        rw [q2,gsb]
        try dsimp only
        rw [nself,nself,nself,nself]
        simp only [Bool.or_self,cond_false]
        rw [i64_add1 j (by omega)]
    have l6:∀ (n v:Nat) (d:mark_Dice),DOK d→3 - v=n→v≤3→∃ d':mark_Dice,DOK d'∧iter (law35_BoundaryExact_l6 x share a r) ((v:Int),d.L,d.At)=some (.inl (d'.L,d'.At)):=by
      intro n
      induction n with
      | zero =>
        intro v d hd hm hv
        have:v=3:=by omega
        subst this
        exact ⟨d,hd,iter_inr (by simp [law35_BoundaryExact_l6])⟩
      | succ n ih =>
        intro v d hd hm hv
        have hv3:v<3:=by omega
        obtain ⟨y,d',e',k',_,_⟩:=dNext d 4 hd (by omega)
        obtain ⟨d'',kd,ihd⟩:=ih (v+1) d' k' (by omega) (by omega)
        refine ⟨d'',kd,?_⟩
        rw [← ihd]
        refine iter_inl ?_
        simp only [law35_BoundaryExact_l6]
        have i5:iter (law35_BoundaryExact_l5 x share a r (v:Int) y) (0:Int)=some (.inl ()):=l5 v hv3 y _ 0 rfl (by omega)
        rw [show decide ((v:Int)<(3:Int))=true by simp; omega,cond_true,req_pos (by omega),show mark_Dice.mk d.L d.At=d from rfl,e',gsb]
        try dsimp only
        rw [i5,gsb]
        show law35_BoundaryExact_j4 (v:Int) d'.L d'.At=_
        unfold law35_BoundaryExact_j4
        rw [i64_add1 v (by omega)]
    obtain ⟨d6,k6,i6⟩:=l6 _ 0 d5 k5 rfl (by omega)
    have i6':iter (law35_BoundaryExact_l6 x share a r) ((0:Int),d5.L,d5.At)=some (.inl (d6.L,d6.At)):=i6
    rw [i6',gsb]
    show law35_BoundaryExact_j3 m most d6.L d6.At=_
    unfold law35_BoundaryExact_j3
    rw [show mark_Dice.mk d6.L d6.At=d6 from rfl]
    obtain ⟨y1,e1,f1,g1,_,_⟩:=dNext d6 11 k6 (by omega)
    rw [f1,gsb]
    try dsimp only
    obtain ⟨y2,e2,f2,g2,_,_⟩:=dNext e1 200 g1 (by omega)
    rw [f2,gsb]
    try dsimp only
    obtain ⟨y3,e3,f3,g3,_,_⟩:=dNext e2 80 g2 (by omega)
    rw [f3,gsb]
    try dsimp only
    obtain ⟨y4,e4,f4,g4,_,_⟩:=dNext e3 9 g3 (by omega)
    rw [f4,gsb]
    try dsimp only
    have l2:∀ (n v:Nat),3 - v=n→v≤3→iter (law35_BoundaryExact_l2 m most y1 y2 y3 y4) (v:Int)=some (.inl ()):=by
      intro n
      induction n with
      | zero =>
        intro v hm hv
        have:v=3:=by omega
        subst this
        exact iter_inr (by simp [law35_BoundaryExact_l2])
      | succ n ih =>
        intro v hm hv
        rw [← ih (v+1) (by omega) (by omega)]
        refine iter_inl ?_
        simp only [law35_BoundaryExact_l2,bindV]
        rw [show decide ((v:Int)<(3:Int))=true by simp; omega,cond_true,req_pos (by omega)]
        generalize (ix (ix [[m,most,y1],[y2,y3,(IntKind.i64.wrap ((1:Int)+y4))],[(70:Int),(40:Int),(3:Int)]] (v:Int)) (0:Int))=u0
        generalize (ix (ix [[m,most,y1],[y2,y3,(IntKind.i64.wrap ((1:Int)+y4))],[(70:Int),(40:Int),(3:Int)]] (v:Int)) (1:Int))=u1
        generalize (ix (ix [[m,most,y1],[y2,y3,(IntKind.i64.wrap ((1:Int)+y4))],[(70:Int),(40:Int),(3:Int)]] (v:Int)) (2:Int))=u2
        obtain ⟨⟨p,pe⟩,p1,p2,p3⟩:=gInterp u0 u1 u2
        rw [p1,gsb]
        try dsimp only
        rw [p2,gsb]
        try dsimp only
        rw [same1 p p3,gsb,nself,show ((!true)||false)=false from rfl,cond_false,i64_add1 v (by omega)]
    have i2':iter (law35_BoundaryExact_l2 m most y1 y2 y3 y4) (0:Int)=some (.inl ()):=l2 _ 0 rfl (by omega)
    rw [i2',gsb]
    show law35_BoundaryExact_j1=_
    unfold law35_BoundaryExact_j1
    rw [sane_eq]; rfl
end Go.LS
