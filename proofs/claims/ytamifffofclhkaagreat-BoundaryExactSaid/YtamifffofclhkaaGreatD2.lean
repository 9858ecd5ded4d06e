/-
  Plain functions that the program's functions compute. No condition: definitions, printed by dec.py.
-/
import Derived.Test.YtamifffofclhkaaGreatD1
namespace Go.LS
set_option linter.all false
set_option linter.unusedSimpArgs false
set_option linter.unusedVariables false
set_option maxRecDepth 20000

/-- (awardingbody ratio.wide).compare -/
noncomputable def ratio_wide_compare (a:ratio_wide) (b:ratio_wide):Option Int :=
  (cmp_Compare_uint64 a.hi b.hi).bind fun y =>
  bif (y != (0:Int)) then
    some y
  else
    (cmp_Compare_uint64 a.lo b.lo).bind fun y1 =>
    some y1
/-- awardingbody ratio.Compare -/
noncomputable def ratio_Compare (a:api_Ratio) (b:api_Ratio):Option Int :=
  (ratio_Valid a).bind fun y =>
  req (((!(!y))=true→(ratio_Valid b).isSome=true)) <|
  bif ((!y)||(!((ratio_Valid b).getD default))) then
    some (0:Int)
  else
    (ratio_signedProduct a.Num (IntKind.u64.wrap b.Den)).bind fun y1 =>
    (ratio_signedProduct b.Num (IntKind.u64.wrap a.Den)).bind fun y2 =>
    bif (y1.neg&&y2.neg) then
      (ratio_wide_compare y2.abs y1.abs).bind fun y3 =>
      some y3
    else
      bif y1.neg then
        some (-1:Int)
      else
        bif y2.neg then
          some (1:Int)
        else
          (ratio_wide_compare y1.abs y2.abs).bind fun y4 =>
          some y4
/-- awardingbody boundary.compareShare -/
noncomputable def boundary_compareShare (part:Int) (all:Int) (share:api_Ratio):Option Int :=
  (ratio_New part all).bind fun (y,y1) =>
  (ratio_Compare y share).bind fun y2 =>
  some y2
/-- awardingbody boundary.nearest -/
noncomputable def boundary_nearest_j1 (best:Int):Option Int :=
  some best
noncomputable def boundary_nearest_j2 (v:Int) (best3:Int):Option ((Int × Int) ⊕ Int) :=
  some (.inl (best3,(IntKind.i64.wrap (v+(1:Int)))))
noncomputable def boundary_nearest_l3 (share:api_Ratio) (y:List Int):(Int × Int)→Option ((Int × Int) ⊕ Int) :=
  fun (best1,v) =>
    bif (decide (v<(y.length:Int))) then
      req ((0≤v∧v<(y.length:Int))) <|
      req ((0≤best1∧best1<(y.length:Int))∧((decide ((ix y v)<(ix y best1)))=true→0≤best1∧best1<(y.length:Int))∧((decide ((ix y v)<(ix y best1)))=true→0≤(0:Int)∧(0:Int)<(y.length:Int))∧((decide ((ix y v)<(ix y best1)))=true→(boundary_compareShare (IntKind.i64.wrap ((ix y v)+(ix y best1))) (IntKind.i64.wrap ((2:Int)*(ix y (0:Int)))) share).isSome=true)) <|
      bif ((decide ((ix y v)<(ix y best1)))&&(decide ((0:Int)<((boundary_compareShare (IntKind.i64.wrap ((ix y v)+(ix y best1))) (IntKind.i64.wrap ((2:Int)*(ix y (0:Int)))) share).getD default)))) then
        boundary_nearest_j2 v v
      else
        boundary_nearest_j2 v best1
    else
      some (.inr best1)
noncomputable def boundary_nearest (d:api_Distribution) (share:api_Ratio):Option Int :=
  (boundary_reaching d).bind fun y =>
  (iter (boundary_nearest_l3 share y) ((0:Int),(0:Int))).bind fun best2 =>
  boundary_nearest_j1 best2
/-- awardingbody boundary.Reference -/
noncomputable def boundary_Reference_j1 (w:List Int):Option ((List Int) × Int) :=
  some (w,(0:Int))
noncomputable def boundary_Reference_j2 (v:Int) (w3:List Int):Option ((Int × (List Int)) ⊕ ((List Int) ⊕ ((List Int) × Int))) :=
  some (.inl ((IntKind.i64.wrap (v+(1:Int))),w3))
noncomputable def boundary_Reference_l3 (d:api_Distribution) (b:List Int) (y4:List Int):(Int × (List Int))→Option ((Int × (List Int)) ⊕ ((List Int) ⊕ ((List Int) × Int))) :=
  fun (v,w1) =>
    bif (decide (v<(b.length:Int))) then
      req ((0≤v∧v<(b.length:Int))) <|
      req ((0≤(ix b v)∧(ix b v)<(y4.length:Int))∧(0≤(0:Int)∧(0:Int)<(y4.length:Int))) <|
      (ratio_New (ix y4 (ix b v)) (ix y4 (0:Int))).bind fun (y5,y6) =>
      bif (y6 != (0:Int)) then
        some (.inr (.inr (([]:List Int),y6)))
      else
        (boundary_nearest d y5).bind fun y7 =>
        req ((0≤v∧v<(w1.length:Int))) <|
        bif (decide ((0:Int)<v)) then
          req ((0≤v∧v<(w1.length:Int))∧(0≤(IntKind.i64.wrap (v-(1:Int)))∧(IntKind.i64.wrap (v-(1:Int)))<(w1.length:Int))) <|
          bindV (setI (setI w1 v y7) v (imin (ix (setI w1 v y7) v) (ix (setI w1 v y7) (IntKind.i64.wrap (v-(1:Int)))))) fun w4 =>
          boundary_Reference_j2 v w4
        else
          boundary_Reference_j2 v (setI w1 v y7)
    else
      some (.inr (.inl w1))
noncomputable def boundary_Reference (d:api_Distribution) (reference:api_Distribution) (b:List Int):Option ((List Int) × Int) :=
  (distribution_Valid d).bind fun y =>
  req (((!(!y))=true→(distribution_Valid reference).isSome=true)) <|
  bif ((!y)||(!((distribution_Valid reference).getD default))) then
    some (([]:List Int),(1:Int))
  else
    (distribution_Count d).bind fun y1 =>
    req (((!(y1==(0:Int)))=true→(distribution_Count reference).isSome=true)) <|
    bif ((y1==(0:Int))||(((distribution_Count reference).getD default)==(0:Int))) then
      some (([]:List Int),(10:Int))
    else
      (boundary_greatest reference).bind fun y2 =>
      (boundary_Check b y2).bind fun y3 =>
      bif (y3 != (0:Int)) then
        some (([]:List Int),y3)
      else
        (boundary_reaching reference).bind fun y4 =>
        req ((0≤(b.length:Int)∧(b.length:Int)*8≤140737488355328)) <|
        (iter (boundary_Reference_l3 d b y4) ((0:Int),(rep (b.length:Int) (0:Int)))).bind fun x_ =>
        match x_ with
        | .inl w2 => boundary_Reference_j1 w2
        | .inr t_ => some t_
/-- awardingbody awardingbodyref32.Below -/
noncomputable def ref32_Below_j1 (n:Int):Option Int :=
  some n
noncomputable def ref32_Below_l2 (d:api_Distribution) (score:Int):(Int × Int)→Option ((Int × Int) ⊕ Int) :=
  fun (n1,i) =>
    req ((((decide (i<(d.Counts.length:Int)))&&(decide (i<score)))=true→(ref32_Valid d).isSome=true)) <|
    bif (((decide (i<(d.Counts.length:Int)))&&(decide (i<score)))&&((ref32_Valid d).getD default)) then
      req ((0≤i∧i<(d.Counts.length:Int))) <|
      some (.inl ((IntKind.i64.wrap (n1+(ix d.Counts i))),(IntKind.i64.wrap (i+(1:Int)))))
    else
      some (.inr n1)
noncomputable def ref32_Below (d:api_Distribution) (score:Int):Option Int :=
  (iter (ref32_Below_l2 d score) ((0:Int),(0:Int))).bind fun n2 =>
  ref32_Below_j1 n2
/-- awardingbody awardingbodyref32.Count -/
noncomputable def ref32_Count (d:api_Distribution):Option Int :=
  (ref32_Below d (d.Counts.length:Int)).bind fun y =>
  some y
/-- awardingbody awardingbodyref01.Twice -/
noncomputable def ref01_Twice (a:ref01_Wide):Option ref01_Wide :=
  some (ref01_Wide.mk (bOr .u64 (bShl .u64 a.Hi (1:Int)) (bShr .u64 a.Lo (63:Int))) (bShl .u64 a.Lo (1:Int)))
/-- awardingbody awardingbodyref01.Order -/
noncomputable def ref01_Order (a:ref01_Wide) (b:ref01_Wide):Option Int :=
  bif ((decide (a.Hi<b.Hi))||((a.Hi==b.Hi)&&(decide (a.Lo<b.Lo)))) then
    some (-1:Int)
  else
    bif ((a.Hi==b.Hi)&&(a.Lo==b.Lo)) then
      some (0:Int)
    else
      some (1:Int)
/-- awardingbody awardingbodyref01.Minus -/
noncomputable def ref01_Minus (a:ref01_Wide) (b:ref01_Wide):Option ref01_Wide :=
  (bits_Sub64 a.Lo b.Lo (0:Int)).bind fun (y,y1) =>
  (bits_Sub64 a.Hi b.Hi y1).bind fun (y2,y3) =>
  some (ref01_Wide.mk y2 y)
/-- awardingbody awardingbodyref01.Divide -/
noncomputable def ref01_Divide_j1 (q:Int) (q1:Int) (r:Int) (r1:Int):Option (ref01_Wide × ref01_Wide) :=
  some ((ref01_Wide.mk q q1),(ref01_Wide.mk r r1))
noncomputable def ref01_Divide_j2 (i:Int) (q6:Int) (q7:Int) (r6:Int) (r7:Int):Option ((Int × Int × Int × Int × Int) ⊕ (Int × Int × Int × Int)) :=
  some (.inl ((IntKind.i64.wrap (i-(1:Int))),q6,q7,r6,r7))
noncomputable def ref01_Divide_j3 (b:ref01_Wide) (i:Int) (q2:Int) (q3:Int) (r2:Int) (r3:Int) (bit1:Int):Option ((Int × Int × Int × Int × Int) ⊕ (Int × Int × Int × Int)) :=
  (ref01_Twice (ref01_Wide.mk r2 r3)).bind fun y =>
  (ref01_Twice (ref01_Wide.mk q2 q3)).bind fun y1 =>
  req (((!((bShr .u64 r2 (63:Int))==(1:Int)))=true→(ref01_Order (ref01_Wide.mk y.Hi (bOr .u64 y.Lo bit1)) b).isSome=true)) <|
  bif (((bShr .u64 r2 (63:Int))==(1:Int))||(decide ((0:Int)≤((ref01_Order (ref01_Wide.mk y.Hi (bOr .u64 y.Lo bit1)) b).getD default)))) then
    (ref01_Minus (ref01_Wide.mk y.Hi (bOr .u64 y.Lo bit1)) b).bind fun y2 =>
    ref01_Divide_j2 i y1.Hi (bOr .u64 y1.Lo (1:Int)) y2.Hi y2.Lo
  else
    ref01_Divide_j2 i y1.Hi y1.Lo y.Hi (bOr .u64 y.Lo bit1)
noncomputable def ref01_Divide_l4 (a:ref01_Wide) (b:ref01_Wide):(Int × Int × Int × Int × Int)→Option ((Int × Int × Int × Int × Int) ⊕ (Int × Int × Int × Int)) :=
  fun (i,q2,q3,r2,r3) =>
    bif (decide ((0:Int)≤i)) then
      req (0≤(IntKind.u64.wrap (Int.tmod i (64:Int)))) <|
      bindV (bAnd .u64 (bShr .u64 a.Lo (IntKind.u64.wrap (Int.tmod i (64:Int)))) (1:Int)) fun bit =>
      bif (decide ((64:Int)≤i)) then
        req (0≤(IntKind.u64.wrap (IntKind.i64.wrap (i-(64:Int))))) <|
        bindV (bAnd .u64 (bShr .u64 a.Hi (IntKind.u64.wrap (IntKind.i64.wrap (i-(64:Int))))) (1:Int)) fun bit2 =>
        ref01_Divide_j3 b i q2 q3 r2 r3 bit2
      else
        ref01_Divide_j3 b i q2 q3 r2 r3 bit
    else
      some (.inr (q2,q3,r2,r3))
noncomputable def ref01_Divide (a:ref01_Wide) (b:ref01_Wide):Option (ref01_Wide × ref01_Wide) :=
  bif ((a.Hi==(0:Int))&&(b.Hi==(0:Int))) then
    req (b.Lo ≠ 0) <|
    some ((ref01_Wide.mk (0:Int) (IntKind.u64.wrap (Int.tdiv a.Lo b.Lo))),(ref01_Wide.mk (0:Int) (Int.tmod a.Lo b.Lo)))
  else
    (iter (ref01_Divide_l4 a b) ((127:Int),(0:Int),(0:Int),(0:Int),(0:Int))).bind fun (q4,q5,r4,r5) =>
    ref01_Divide_j1 q4 q5 r4 r5
/-- awardingbody awardingbodyref01.Divisor -/
noncomputable def ref01_Divisor_j1 (a1:Int) (a2:Int):Option ref01_Wide :=
  some (ref01_Wide.mk a1 a2)
noncomputable def ref01_Divisor_l2 :(Int × Int × Int × Int)→Option ((Int × Int × Int × Int) ⊕ (Int × Int)) :=
  fun (a3,a4,b1,b2) =>
    bif (!((b1==(0:Int))&&(b2==(0:Int)))) then
      (ref01_Divide (ref01_Wide.mk a3 a4) (ref01_Wide.mk b1 b2)).bind fun (y,y1) =>
      some (.inl (b1,b2,y1.Hi,y1.Lo))
    else
      some (.inr (a3,a4))
noncomputable def ref01_Divisor (a:ref01_Wide) (b:ref01_Wide):Option ref01_Wide :=
  (iter (ref01_Divisor_l2) (a.Hi,a.Lo,b.Hi,b.Lo)).bind fun (a5,a6) =>
  ref01_Divisor_j1 a5 a6
/-- awardingbody awardingbodyref01.Reduce -/
noncomputable def ref01_Reduce_j1 (y3:ref01_Wide) (out:Int):Option (api_Ratio × Int) :=
  some ((api_Ratio.mk out (IntKind.i64.wrap y3.Lo)),(0:Int))
noncomputable def ref01_Reduce (negative:Bool) (num:ref01_Wide) (den:ref01_Wide):Option (api_Ratio × Int) :=
  (ref01_Divisor num den).bind fun y =>
  (ref01_Divide num y).bind fun (y1,y2) =>
  (ref01_Divide den y).bind fun (y3,y4) =>
  bif ((((decide ((0:Int)<y1.Hi))||(decide ((0:Int)<y3.Hi)))||(decide ((1152921504606846976:Int)<y1.Lo)))||(decide ((1152921504606846976:Int)<y3.Lo))) then
    some ((api_Ratio.mk (0:Int) (0:Int)),(6:Int))
  else
    bif negative then
      ref01_Reduce_j1 y3 (IntKind.i64.wrap (0-(IntKind.i64.wrap y1.Lo)))
    else
      ref01_Reduce_j1 y3 (IntKind.i64.wrap y1.Lo)
/-- awardingbody awardingbodyref01.Size -/
noncomputable def ref01_Size (n:Int):Option Int :=
  bif (decide (n<(0:Int))) then
    bindV (IntKind.u64.wrap ((IntKind.u64.wrap (IntKind.i64.wrap (0-(IntKind.i64.wrap (n+(1:Int))))))+(1:Int))) fun v =>
    some v
  else
    some (IntKind.u64.wrap n)
/-- awardingbody awardingbodyref01.New -/
noncomputable def ref01_New (num:Int) (den:Int):Option (api_Ratio × Int) :=
  bif (den==(0:Int)) then
    some ((api_Ratio.mk (0:Int) (0:Int)),(2:Int))
  else
    (ref01_Size num).bind fun y =>
    (ref01_Size den).bind fun y1 =>
    (ref01_Reduce (!((decide (num<(0:Int)))==(decide (den<(0:Int))))) (ref01_Wide.mk (0:Int) y) (ref01_Wide.mk (0:Int) y1)).bind fun (y2,y3) =>
    some (y2,y3)
/-- awardingbody awardingbodyref35.reached -/
noncomputable def ref35_reached (d:api_Distribution) (b:Int):Option Int :=
  (ref32_Count d).bind fun y =>
  (ref32_Below d b).bind fun y1 =>
  some (IntKind.i64.wrap (y-y1))
/-- awardingbody awardingbodyref01.Valid -/
noncomputable def ref01_Valid (a:api_Ratio):Option Bool :=
  bif ((((decide (a.Den<(1:Int)))||(decide ((1152921504606846976:Int)<a.Den)))||(decide (a.Num<(-1152921504606846976:Int))))||(decide ((1152921504606846976:Int)<a.Num))) then
    some false
  else
    (ref01_Size a.Num).bind fun y =>
    (ref01_Size a.Den).bind fun y1 =>
    (ref01_Divisor (ref01_Wide.mk (0:Int) y) (ref01_Wide.mk (0:Int) y1)).bind fun y2 =>
    some ((y2.Hi==(0:Int))&&(y2.Lo==(1:Int)))
/-- awardingbody awardingbodyref32.Outside -/
noncomputable def ref32_Outside (share:api_Ratio):Option Bool :=
  some ((decide (share.Num<(0:Int)))||(decide (share.Den<share.Num)))
/-- awardingbody awardingbodyref35.wrong -/
noncomputable def ref35_wrong (d:api_Distribution) (share:api_Ratio):Option Int :=
  (ref32_Valid d).bind fun y =>
  req (((!(!y))=true→(ref01_Valid share).isSome=true)) <|
  bif ((!y)||(!((ref01_Valid share).getD default))) then
    some (1:Int)
  else
    (ref32_Count d).bind fun y1 =>
    bif (y1==(0:Int)) then
      some (10:Int)
    else
      (ref32_Outside share).bind fun y2 =>
      bif y2 then
        some (2:Int)
      else
        some (0:Int)
/-- awardingbody awardingbodyref01.Plus -/
noncomputable def ref01_Plus (a:ref01_Wide) (b:ref01_Wide):Option ref01_Wide :=
  (bits_Add64 a.Lo b.Lo (0:Int)).bind fun (y,y1) =>
  (bits_Add64 a.Hi b.Hi y1).bind fun (y2,y3) =>
  some (ref01_Wide.mk y2 y)
/-- awardingbody awardingbodyref01.total -/
noncomputable def ref01_total (x:Bool) (a:ref01_Wide) (y:Bool) (b:ref01_Wide):Option (Bool × ref01_Wide) :=
  bif (x==y) then
    (ref01_Plus a b).bind fun y1 =>
    some (x,y1)
  else
    (ref01_Order a b).bind fun y2 =>
    bif (decide ((0:Int)≤y2)) then
      (ref01_Minus a b).bind fun y3 =>
      some (x,y3)
    else
      (ref01_Minus b a).bind fun y4 =>
      some (y,y4)
/-- awardingbody awardingbodyref01.Product -/
noncomputable def ref01_Product (a:Int) (b:Int):Option ref01_Wide :=
  (bits_Mul64 a b).bind fun (y,y1) =>
  some (ref01_Wide.mk y y1)
/-- awardingbody awardingbodyref01.Compare -/
noncomputable def ref01_Compare (a:api_Ratio) (b:api_Ratio):Option Int :=
  (ref01_Valid a).bind fun y =>
  req (((!(!y))=true→(ref01_Valid b).isSome=true)) <|
  bif ((!y)||(!((ref01_Valid b).getD default))) then
    some (0:Int)
  else
    (ref01_Size a.Num).bind fun y1 =>
    (ref01_Size b.Den).bind fun y2 =>
    (ref01_Product y1 y2).bind fun y3 =>
    (ref01_Size b.Num).bind fun y4 =>
    (ref01_Size a.Den).bind fun y5 =>
    (ref01_Product y4 y5).bind fun y6 =>
    (ref01_total (decide (a.Num<(0:Int))) y3 (decide ((0:Int)<b.Num)) y6).bind fun (y7,y8) =>
    bif ((y8.Hi==(0:Int))&&(y8.Lo==(0:Int))) then
      some (0:Int)
    else
      bif y7 then
        some (-1:Int)
      else
        some (1:Int)
/-- awardingbody awardingbodyref01.Less -/
noncomputable def ref01_Less (a:api_Ratio) (b:api_Ratio):Option Bool :=
  (ref01_Compare a b).bind fun y =>
  some (decide (y<(0:Int)))
/-- awardingbody awardingbodyref35.Nearest -/
noncomputable def ref35_Nearest_j1 (best:Int):Option (Int × Int) :=
  some (best,(0:Int))
noncomputable def ref35_Nearest_j2 (b:Int) (best3:Int):Option ((Int × Int) ⊕ Int) :=
  some (.inl (best3,(IntKind.i64.wrap (b+(1:Int)))))
noncomputable def ref35_Nearest_l3 (d:api_Distribution) (share:api_Ratio):(Int × Int)→Option ((Int × Int) ⊕ Int) :=
  fun (best1,b) =>
    bif (decide (b≤(d.Counts.length:Int))) then
      (ref35_reached d best1).bind fun y1 =>
      (ref35_reached d b).bind fun y2 =>
      (ref32_Count d).bind fun y3 =>
      (ref01_New (IntKind.i64.wrap (y1+y2)) (IntKind.i64.wrap ((2:Int)*y3))).bind fun (y4,y5) =>
      req (((decide (y2<y1))=true→(ref01_Less share y4).isSome=true)) <|
      bif ((decide (y2<y1))&&((ref01_Less share y4).getD default)) then
        ref35_Nearest_j2 b b
      else
        ref35_Nearest_j2 b best1
    else
      some (.inr best1)
noncomputable def ref35_Nearest (d:api_Distribution) (share:api_Ratio):Option (Int × Int) :=
  (ref35_wrong d share).bind fun y =>
  bif (y != (0:Int)) then
    some ((0:Int),y)
  else
    (iter (ref35_Nearest_l3 d share) ((0:Int),(1:Int))).bind fun best2 =>
    ref35_Nearest_j1 best2
/-- awardingbody awardingbodyref35.Reference -/
noncomputable def ref35_Reference_j1 (out:List Int):Option ((List Int) × Int) :=
  some (out,(0:Int))
noncomputable def ref35_Reference_j2 (i:Int) (out1:List Int) (n:Int):Option ((Int × (List Int)) ⊕ (List Int)) :=
  req ((out1.length+([n]).length)*8≤140737488355328) <|
  some (.inl ((IntKind.i64.wrap (i+(1:Int))),(out1 ++ [n])))
noncomputable def ref35_Reference_l3 (d:api_Distribution) (reference:api_Distribution) (b:List Int):(Int × (List Int))→Option ((Int × (List Int)) ⊕ (List Int)) :=
  fun (i,out1) =>
    bif (decide (i<(b.length:Int))) then
      req ((0≤i∧i<(b.length:Int))) <|
      (ref35_reached reference (ix b i)).bind fun y3 =>
      (ref32_Count reference).bind fun y4 =>
      (ref01_New y3 y4).bind fun (y5,y6) =>
      (ref35_Nearest d y5).bind fun (y7,y8) =>
      bif (decide ((0:Int)<i)) then
        req ((0≤(IntKind.i64.wrap (i-(1:Int)))∧(IntKind.i64.wrap (i-(1:Int)))<(out1.length:Int))) <|
        ref35_Reference_j2 i out1 (imin y7 (ix out1 (IntKind.i64.wrap (i-(1:Int)))))
      else
        ref35_Reference_j2 i out1 y7
    else
      some (.inr out1)
noncomputable def ref35_Reference (d:api_Distribution) (reference:api_Distribution) (b:List Int):Option ((List Int) × Int) :=
  (ref32_Valid d).bind fun y =>
  req (((!(!y))=true→(ref32_Valid reference).isSome=true)) <|
  bif ((!y)||(!((ref32_Valid reference).getD default))) then
    some (([]:List Int),(1:Int))
  else
    (ref32_Count d).bind fun y1 =>
    req (((!(y1==(0:Int)))=true→(ref32_Count reference).isSome=true)) <|
    bif ((y1==(0:Int))||(((ref32_Count reference).getD default)==(0:Int))) then
      some (([]:List Int),(10:Int))
    else
      (ref35_Check b (IntKind.i64.wrap ((reference.Counts.length:Int)-(1:Int)))).bind fun y2 =>
      bif (y2 != (0:Int)) then
        some (([]:List Int),y2)
      else
        (iter (ref35_Reference_l3 d reference b) ((0:Int),([]:List Int))).bind fun out2 =>
        ref35_Reference_j1 out2
/-- awardingbody awardingbodylaw35.same -/
noncomputable def law35_same_j1 :Option Bool :=
  some true
noncomputable def law35_same_l2 (a:List Int) (b:List Int):Int→Option (Int ⊕ (Unit ⊕ Bool)) :=
  fun v =>
    bif (decide (v<(a.length:Int))) then
      req ((0≤v∧v<(a.length:Int))∧(0≤v∧v<(b.length:Int))) <|
      bif ((ix a v) != (ix b v)) then
        some (.inr (.inr false))
      else
        some (.inl (IntKind.i64.wrap (v+(1:Int))))
    else
      some (.inr (.inl ()))
noncomputable def law35_same (a:List Int) (b:List Int):Option Bool :=
  bif ((a.length:Int) != (b.length:Int)) then
    some false
  else
    (iter (law35_same_l2 a b) (0:Int)).bind fun x_ =>
    match x_ with
    | .inl () => law35_same_j1
    | .inr t_ => some t_
/-- (ptr awardingbody awardingbodymark.Dice).Next -/
noncomputable def mark_Dice_Next_j1 (d:mark_Dice) (x:Int):Option (Int × mark_Dice) :=
  some (x,(mark_Dice.mk d.L (IntKind.i64.wrap (d.At+(1:Int)))))
noncomputable def mark_Dice_Next (d:mark_Dice) (n:Int):Option (Int × mark_Dice) :=
  bif ((decide ((d.L.length:Int)≤d.At))||(decide (n<(1:Int)))) then
    some ((0:Int),d)
  else
    req ((0≤d.At∧d.At<(d.L.length:Int))∧n ≠ 0) <|
    bif (decide ((Int.tmod (ix d.L d.At) n)<(0:Int))) then
      mark_Dice_Next_j1 d (IntKind.i64.wrap ((Int.tmod (ix d.L d.At) n)+n))
    else
      mark_Dice_Next_j1 d (Int.tmod (ix d.L d.At) n)
end Go.LS
