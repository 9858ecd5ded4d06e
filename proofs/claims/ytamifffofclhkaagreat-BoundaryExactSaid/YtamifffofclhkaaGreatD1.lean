/-
  Plain functions that the program's functions compute. No condition: definitions, printed by dec.py.
-/
import Derived.Test.YtamifffofclhkaaGreatD0
namespace Go.LS
set_option linter.all false
set_option linter.unusedSimpArgs false
set_option linter.unusedVariables false
set_option maxRecDepth 20000

/-- awardingbody boundary.isScore -/
noncomputable def boundary_isScore (n:Int):Option Bool :=
  some ((decide ((0:Int)≤n))&&(decide (n≤(200:Int))))
/-- awardingbody boundary.Check -/
noncomputable def boundary_Check_j1 :Option Int :=
  some (0:Int)
noncomputable def boundary_Check_l2 (b:List Int):Int→Option (Int ⊕ (Unit ⊕ Int)) :=
  fun i =>
    bif (decide (i<(b.length:Int))) then
      req ((0≤i∧i<(b.length:Int))∧(0≤(IntKind.i64.wrap (i-(1:Int)))∧(IntKind.i64.wrap (i-(1:Int)))<(b.length:Int))) <|
      bif (decide ((ix b (IntKind.i64.wrap (i-(1:Int))))<(ix b i))) then
        some (.inr (.inr (43:Int)))
      else
        some (.inl (IntKind.i64.wrap (i+(1:Int))))
    else
      some (.inr (.inl ()))
noncomputable def boundary_Check_j3 (b:List Int):Option Int :=
  (iter (boundary_Check_l2 b) (1:Int)).bind fun x_ =>
  match x_ with
  | .inl () => boundary_Check_j1
  | .inr t_ => some t_
noncomputable def boundary_Check_l4 (b:List Int) (most:Int):Int→Option (Int ⊕ (Unit ⊕ Int)) :=
  fun v =>
    bif (decide (v<(b.length:Int))) then
      req ((0≤v∧v<(b.length:Int))) <|
      bif ((decide ((ix b v)<(0:Int)))||(decide ((IntKind.i64.wrap (most+(1:Int)))<(ix b v)))) then
        some (.inr (.inr (2:Int)))
      else
        some (.inl (IntKind.i64.wrap (v+(1:Int))))
    else
      some (.inr (.inl ()))
noncomputable def boundary_Check (b:List Int) (most:Int):Option Int :=
  (boundary_isScore most).bind fun y =>
  bif (!y) then
    some (2:Int)
  else
    bif ((decide ((b.length:Int)<(1:Int)))||(decide ((9:Int)<(b.length:Int)))) then
      some (3:Int)
    else
      (iter (boundary_Check_l4 b most) (0:Int)).bind fun x_ =>
      match x_ with
      | .inl () => boundary_Check_j3 b
      | .inr t_ => some t_
/-- awardingbody awardingbodyref35.Check -/
noncomputable def ref35_Check_j1 :Option Int :=
  some (0:Int)
noncomputable def ref35_Check_l2 (b:List Int):Int→Option (Int ⊕ (Unit ⊕ Int)) :=
  fun i =>
    bif (decide (i<(b.length:Int))) then
      req ((0≤i∧i<(b.length:Int))∧(0≤(IntKind.i64.wrap (i-(1:Int)))∧(IntKind.i64.wrap (i-(1:Int)))<(b.length:Int))) <|
      bif (decide ((ix b (IntKind.i64.wrap (i-(1:Int))))<(ix b i))) then
        some (.inr (.inr (43:Int)))
      else
        some (.inl (IntKind.i64.wrap (i+(1:Int))))
    else
      some (.inr (.inl ()))
noncomputable def ref35_Check_j3 (b:List Int):Option Int :=
  (iter (ref35_Check_l2 b) (1:Int)).bind fun x_ =>
  match x_ with
  | .inl () => ref35_Check_j1
  | .inr t_ => some t_
noncomputable def ref35_Check_l4 (b:List Int) (most:Int):Int→Option (Int ⊕ (Unit ⊕ Int)) :=
  fun i1 =>
    bif (decide (i1<(b.length:Int))) then
      req ((0≤i1∧i1<(b.length:Int))∧((!(decide ((ix b i1)<(0:Int))))=true→0≤i1∧i1<(b.length:Int))) <|
      bif ((decide ((ix b i1)<(0:Int)))||(decide ((IntKind.i64.wrap (most+(1:Int)))<(ix b i1)))) then
        some (.inr (.inr (2:Int)))
      else
        some (.inl (IntKind.i64.wrap (i1+(1:Int))))
    else
      some (.inr (.inl ()))
noncomputable def ref35_Check (b:List Int) (most:Int):Option Int :=
  bif ((decide (most<(0:Int)))||(decide ((200:Int)<most))) then
    some (2:Int)
  else
    bif (((b.length:Int)==(0:Int))||(decide ((9:Int)<(b.length:Int)))) then
      some (3:Int)
    else
      (iter (ref35_Check_l4 b most) (0:Int)).bind fun x_ =>
      match x_ with
      | .inl () => ref35_Check_j3 b
      | .inr t_ => some t_
/-- awardingbody boundary.Grade -/
noncomputable def boundary_Grade_j1 (b:List Int):Option Int :=
  some (b.length:Int)
noncomputable def boundary_Grade_l2 (b:List Int) (mark:Int):Int→Option (Int ⊕ (Unit ⊕ Int)) :=
  fun v =>
    bif (decide (v<(b.length:Int))) then
      req ((0≤v∧v<(b.length:Int))) <|
      bif (decide ((ix b v)≤mark)) then
        some (.inr (.inr v))
      else
        some (.inl (IntKind.i64.wrap (v+(1:Int))))
    else
      some (.inr (.inl ()))
noncomputable def boundary_Grade (b:List Int) (mark:Int):Option Int :=
  (iter (boundary_Grade_l2 b mark) (0:Int)).bind fun x_ =>
  match x_ with
  | .inl () => boundary_Grade_j1 b
  | .inr t_ => some t_
/-- awardingbody awardingbodyref35.Grade -/
noncomputable def ref35_Grade_j1 (b:List Int):Option Int :=
  some (b.length:Int)
noncomputable def ref35_Grade_l2 (b:List Int) (mark:Int):Int→Option (Int ⊕ (Unit ⊕ Int)) :=
  fun i =>
    bif (decide (i<(b.length:Int))) then
      req ((0≤i∧i<(b.length:Int))) <|
      bif (decide ((ix b i)≤mark)) then
        some (.inr (.inr i))
      else
        some (.inl (IntKind.i64.wrap (i+(1:Int))))
    else
      some (.inr (.inl ()))
noncomputable def ref35_Grade (b:List Int) (mark:Int):Option Int :=
  (iter (ref35_Grade_l2 b mark) (0:Int)).bind fun x_ =>
  match x_ with
  | .inl () => ref35_Grade_j1 b
  | .inr t_ => some t_
/-- awardingbody distribution.Valid -/
noncomputable def distribution_Valid_j1 (sum:Int):Option Bool :=
  some (decide (sum≤(1048576:Int)))
noncomputable def distribution_Valid_l2 (d:api_Distribution):(Int × Int)→Option ((Int × Int) ⊕ (Int ⊕ Bool)) :=
  fun (sum1,v) =>
    bif (decide (v<(d.Counts.length:Int))) then
      req ((0≤v∧v<(d.Counts.length:Int))) <|
      bif ((decide ((ix d.Counts v)<(0:Int)))||(decide ((1048576:Int)<(ix d.Counts v)))) then
        some (.inr (.inr false))
      else
        some (.inl ((IntKind.i64.wrap (sum1+(ix d.Counts v))),(IntKind.i64.wrap (v+(1:Int)))))
    else
      some (.inr (.inl sum1))
noncomputable def distribution_Valid (d:api_Distribution):Option Bool :=
  bif ((decide ((d.Counts.length:Int)<(1:Int)))||(decide ((201:Int)<(d.Counts.length:Int)))) then
    some false
  else
    (iter (distribution_Valid_l2 d) ((0:Int),(0:Int))).bind fun x_ =>
    match x_ with
    | .inl sum2 => distribution_Valid_j1 sum2
    | .inr t_ => some t_
/-- awardingbody boundary.greatest -/
noncomputable def boundary_greatest (d:api_Distribution):Option Int :=
  some (IntKind.i64.wrap ((d.Counts.length:Int)-(1:Int)))
/-- awardingbody boundary.Tally -/
noncomputable def boundary_Tally_j1 (w:List Int):Option ((List Int) × Int) :=
  some (w,(0:Int))
noncomputable def boundary_Tally_l2 (d:api_Distribution) (b:List Int):(Int × (List Int))→Option ((Int × (List Int)) ⊕ (List Int)) :=
  fun (v,w1) =>
    bif (decide (v<(d.Counts.length:Int))) then
      req ((0≤v∧v<(d.Counts.length:Int))) <|
      (boundary_Grade b v).bind fun y3 =>
      req ((0≤y3∧y3<(w1.length:Int))) <|
      some (.inl ((IntKind.i64.wrap (v+(1:Int))),(setI w1 y3 (IntKind.i64.wrap ((ix w1 y3)+(ix d.Counts v))))))
    else
      some (.inr w1)
noncomputable def boundary_Tally (d:api_Distribution) (b:List Int):Option ((List Int) × Int) :=
  (distribution_Valid d).bind fun y =>
  bif (!y) then
    some (([]:List Int),(1:Int))
  else
    (boundary_greatest d).bind fun y1 =>
    (boundary_Check b y1).bind fun y2 =>
    bif (y2 != (0:Int)) then
      some (([]:List Int),y2)
    else
      req ((0≤(IntKind.i64.wrap ((b.length:Int)+(1:Int)))∧(IntKind.i64.wrap ((b.length:Int)+(1:Int)))*8≤140737488355328)) <|
      (iter (boundary_Tally_l2 d b) ((0:Int),(rep (IntKind.i64.wrap ((b.length:Int)+(1:Int))) (0:Int)))).bind fun w2 =>
      boundary_Tally_j1 w2
/-- awardingbody awardingbodyref32.Valid -/
noncomputable def ref32_Valid_j1 :Option Bool :=
  some true
noncomputable def ref32_Valid_l2 (d:api_Distribution):(Int × Int)→Option ((Int × Int) ⊕ (Unit ⊕ Bool)) :=
  fun (n,i) =>
    bif (decide (i<(d.Counts.length:Int))) then
      req ((0≤i∧i<(d.Counts.length:Int))∧((!(decide ((ix d.Counts i)<(0:Int))))=true→0≤i∧i<(d.Counts.length:Int))) <|
      bif ((decide ((ix d.Counts i)<(0:Int)))||(decide ((IntKind.i64.wrap ((1048576:Int)-n))<(ix d.Counts i)))) then
        some (.inr (.inr false))
      else
        req ((0≤i∧i<(d.Counts.length:Int))) <|
        some (.inl ((IntKind.i64.wrap (n+(ix d.Counts i))),(IntKind.i64.wrap (i+(1:Int)))))
    else
      some (.inr (.inl ()))
noncomputable def ref32_Valid (d:api_Distribution):Option Bool :=
  bif ((decide ((d.Counts.length:Int)<(1:Int)))||(decide ((201:Int)<(d.Counts.length:Int)))) then
    some false
  else
    (iter (ref32_Valid_l2 d) ((0:Int),(0:Int))).bind fun x_ =>
    match x_ with
    | .inl () => ref32_Valid_j1
    | .inr t_ => some t_
/-- awardingbody awardingbodyref35.Tally -/
noncomputable def ref35_Tally_j1 (w:List Int):Option ((List Int) × Int) :=
  some (w,(0:Int))
noncomputable def ref35_Tally_l2 (d:api_Distribution) (b:List Int):(Int × (List Int))→Option ((Int × (List Int)) ⊕ (List Int)) :=
  fun (i,w1) =>
    bif (decide (i<(d.Counts.length:Int))) then
      (ref35_Grade b i).bind fun y2 =>
      req ((0≤y2∧y2<(w1.length:Int))∧(0≤i∧i<(d.Counts.length:Int))) <|
      some (.inl ((IntKind.i64.wrap (i+(1:Int))),(setI w1 y2 (IntKind.i64.wrap ((ix w1 y2)+(ix d.Counts i))))))
    else
      some (.inr w1)
noncomputable def ref35_Tally (d:api_Distribution) (b:List Int):Option ((List Int) × Int) :=
  (ref32_Valid d).bind fun y =>
  bif (!y) then
    some (([]:List Int),(1:Int))
  else
    (ref35_Check b (IntKind.i64.wrap ((d.Counts.length:Int)-(1:Int)))).bind fun y1 =>
    bif (y1 != (0:Int)) then
      some (([]:List Int),y1)
    else
      req ((0≤(IntKind.i64.wrap ((b.length:Int)+(1:Int)))∧(IntKind.i64.wrap ((b.length:Int)+(1:Int)))*8≤140737488355328)) <|
      (iter (ref35_Tally_l2 d b) ((0:Int),(rep (IntKind.i64.wrap ((b.length:Int)+(1:Int))) (0:Int)))).bind fun w2 =>
      ref35_Tally_j1 w2
/-- awardingbody distribution.Below -/
noncomputable def distribution_Below_j1 (sum:Int):Option Int :=
  some sum
noncomputable def distribution_Below_l2 (d:api_Distribution) (score:Int):(Int × Int)→Option ((Int × Int) ⊕ Int) :=
  fun (sum1,i) =>
    bif ((decide (i<(d.Counts.length:Int)))&&(decide (i<score))) then
      req ((0≤i∧i<(d.Counts.length:Int))) <|
      some (.inl ((IntKind.i64.wrap (sum1+(ix d.Counts i))),(IntKind.i64.wrap (i+(1:Int)))))
    else
      some (.inr sum1)
noncomputable def distribution_Below (d:api_Distribution) (score:Int):Option Int :=
  (distribution_Valid d).bind fun y =>
  bif (!y) then
    some (0:Int)
  else
    (iter (distribution_Below_l2 d score) ((0:Int),(0:Int))).bind fun sum2 =>
    distribution_Below_j1 sum2
/-- awardingbody distribution.Count -/
noncomputable def distribution_Count (d:api_Distribution):Option Int :=
  (distribution_Below d (d.Counts.length:Int)).bind fun y =>
  some y
/-- awardingbody boundary.reaching -/
noncomputable def boundary_reaching_j1 (w:List Int):Option (List Int) :=
  some w
noncomputable def boundary_reaching_l2 (d:api_Distribution):(Int × (List Int))→Option ((Int × (List Int)) ⊕ (List Int)) :=
  fun (i,w1) =>
    bif (decide ((0:Int)≤i)) then
      req ((0≤(IntKind.i64.wrap (i+(1:Int)))∧(IntKind.i64.wrap (i+(1:Int)))<(w1.length:Int))∧(0≤i∧i<(d.Counts.length:Int))∧(0≤i∧i<(w1.length:Int))) <|
      bindV (setI w1 i (IntKind.i64.wrap ((ix w1 (IntKind.i64.wrap (i+(1:Int))))+(ix d.Counts i)))) fun w3 =>
      some (.inl ((IntKind.i64.wrap (i-(1:Int))),w3))
    else
      some (.inr w1)
noncomputable def boundary_reaching (d:api_Distribution):Option (List Int) :=
  req ((0≤(IntKind.i64.wrap ((d.Counts.length:Int)+(1:Int)))∧(IntKind.i64.wrap ((d.Counts.length:Int)+(1:Int)))*8≤140737488355328)) <|
  (boundary_greatest d).bind fun y =>
  (iter (boundary_reaching_l2 d) (y,(rep (IntKind.i64.wrap ((d.Counts.length:Int)+(1:Int))) (0:Int)))).bind fun w2 =>
  boundary_reaching_j1 w2
/-- awardingbody ratio.gcd -/
noncomputable def ratio_gcd_j1 (a1:Int):Option Int :=
  some a1
noncomputable def ratio_gcd_l2 :(Int × Int)→Option ((Int × Int) ⊕ Int) :=
  fun (a2,b1) =>
    bif (b1 != (0:Int)) then
      req (b1 ≠ 0) <|
      some (.inl (b1,(Int.tmod a2 b1)))
    else
      some (.inr a2)
noncomputable def ratio_gcd (a:Int) (b:Int):Option Int :=
  (iter (ratio_gcd_l2) (a,b)).bind fun a3 =>
  ratio_gcd_j1 a3
/-- math bits.Len64 -/
noncomputable def bits_Len64_j1 (x3:Int) (n2:Int):Option Int :=
  req ((0≤(IntKind.u8.wrap x3)∧(IntKind.u8.wrap x3)<(((List.append (List.append [0,1,2,2,3,3,3,3,4,4,4,4,4,4,4,4,5,5,5,5,5,5,5,5,5,5,5,5,5,5,5,5,6,6,6,6,6,6,6,6,6,6,6,6,6,6,6,6,6,6,6,6,6,6,6,6,6,6,6,6,6,6,6,6] [7,7,7,7,7,7,7,7,7,7,7,7,7,7,7,7,7,7,7,7,7,7,7,7,7,7,7,7,7,7,7,7,7,7,7,7,7,7,7,7,7,7,7,7,7,7,7,7,7,7,7,7,7,7,7,7,7,7,7,7,7,7,7,7]) (List.append [8,8,8,8,8,8,8,8,8,8,8,8,8,8,8,8,8,8,8,8,8,8,8,8,8,8,8,8,8,8,8,8,8,8,8,8,8,8,8,8,8,8,8,8,8,8,8,8,8,8,8,8,8,8,8,8,8,8,8,8,8,8,8,8] [8,8,8,8,8,8,8,8,8,8,8,8,8,8,8,8,8,8,8,8,8,8,8,8,8,8,8,8,8,8,8,8,8,8,8,8,8,8,8,8,8,8,8,8,8,8,8,8,8,8,8,8,8,8,8,8,8,8,8,8,8,8,8,8])):Str).length:Int))) <|
  bindV (IntKind.i64.wrap (n2+(IntKind.i64.wrap (sx ((List.append (List.append [0,1,2,2,3,3,3,3,4,4,4,4,4,4,4,4,5,5,5,5,5,5,5,5,5,5,5,5,5,5,5,5,6,6,6,6,6,6,6,6,6,6,6,6,6,6,6,6,6,6,6,6,6,6,6,6,6,6,6,6,6,6,6,6] [7,7,7,7,7,7,7,7,7,7,7,7,7,7,7,7,7,7,7,7,7,7,7,7,7,7,7,7,7,7,7,7,7,7,7,7,7,7,7,7,7,7,7,7,7,7,7,7,7,7,7,7,7,7,7,7,7,7,7,7,7,7,7,7]) (List.append [8,8,8,8,8,8,8,8,8,8,8,8,8,8,8,8,8,8,8,8,8,8,8,8,8,8,8,8,8,8,8,8,8,8,8,8,8,8,8,8,8,8,8,8,8,8,8,8,8,8,8,8,8,8,8,8,8,8,8,8,8,8,8,8] [8,8,8,8,8,8,8,8,8,8,8,8,8,8,8,8,8,8,8,8,8,8,8,8,8,8,8,8,8,8,8,8,8,8,8,8,8,8,8,8,8,8,8,8,8,8,8,8,8,8,8,8,8,8,8,8,8,8,8,8,8,8,8,8])):Str) (IntKind.u8.wrap x3))))) fun n3 =>
  some n3
noncomputable def bits_Len64_j2 (x2:Int) (n1:Int):Option Int :=
  bif (decide ((256:Int)≤x2)) then
    bits_Len64_j1 (bShr .u64 x2 (8:Int)) (IntKind.i64.wrap (n1+(8:Int)))
  else
    bits_Len64_j1 x2 n1
noncomputable def bits_Len64_j3 (x1:Int) (n:Int):Option Int :=
  bif (decide ((65536:Int)≤x1)) then
    bits_Len64_j2 (bShr .u64 x1 (16:Int)) (IntKind.i64.wrap (n+(16:Int)))
  else
    bits_Len64_j2 x1 n
noncomputable def bits_Len64 (x:Int):Option Int :=
  bif (decide ((4294967296:Int)≤x)) then
    bits_Len64_j3 (bShr .u64 x (32:Int)) (32:Int)
  else
    bits_Len64_j3 x (0:Int)
/-- math bits.LeadingZeros64 -/
noncomputable def bits_LeadingZeros64 (x:Int):Option Int :=
  (bits_Len64 x).bind fun y =>
  some (IntKind.i64.wrap ((64:Int)-y))
/-- math bits.Div64 -/
noncomputable def bits_Div64_j1 (lo:Int) (y:Int) (y1:Int) (q11:Int) (un21:Int) (q01:Int):Option (Int × Int) :=
  req (0≤(IntKind.u64.wrap y1)) <|
  bindV (IntKind.u64.wrap ((IntKind.u64.wrap (q11*(4294967296:Int)))+q01)) fun quo =>
  bindV (bShr .u64 (IntKind.u64.wrap ((IntKind.u64.wrap ((IntKind.u64.wrap (un21*(4294967296:Int)))+(bAnd .u64 (bShl .u64 lo (IntKind.u64.wrap y1)) (4294967295:Int))))-(IntKind.u64.wrap (q01*(bShl .u64 y (IntKind.u64.wrap y1)))))) (IntKind.u64.wrap y1)) fun rem =>
  some (quo,rem)
noncomputable def bits_Div64_l2 (lo:Int) (y:Int) (y1:Int):(Int × Int)→Option ((Int × Int) ⊕ Int) :=
  fun (rhat2,q02) =>
    bif ((decide ((4294967296:Int)≤q02))||(decide ((IntKind.u64.wrap ((IntKind.u64.wrap ((4294967296:Int)*rhat2))+(bAnd .u64 (bShl .u64 lo (IntKind.u64.wrap y1)) (4294967295:Int))))<(IntKind.u64.wrap (q02*(bAnd .u64 (bShl .u64 y (IntKind.u64.wrap y1)) (4294967295:Int))))))) then
      bindV (IntKind.u64.wrap (rhat2+(bShr .u64 (bShl .u64 y (IntKind.u64.wrap y1)) (32:Int)))) fun rhat3 =>
      bif (decide ((4294967296:Int)≤rhat3)) then
        some (.inr (IntKind.u64.wrap (q02-(1:Int))))
      else
        some (.inl (rhat3,(IntKind.u64.wrap (q02-(1:Int)))))
    else
      some (.inr q02)
noncomputable def bits_Div64_j3 (lo:Int) (y:Int) (y1:Int) (un32:Int) (q11:Int):Option (Int × Int) :=
  bindV (IntKind.u64.wrap ((IntKind.u64.wrap ((IntKind.u64.wrap (un32*(4294967296:Int)))+(bShr .u64 (bShl .u64 lo (IntKind.u64.wrap y1)) (32:Int))))-(IntKind.u64.wrap (q11*(bShl .u64 y (IntKind.u64.wrap y1)))))) fun un21 =>
  req ((bShr .u64 (bShl .u64 y (IntKind.u64.wrap y1)) (32:Int)) ≠ 0) <|
  bindV (IntKind.u64.wrap (Int.tdiv un21 (bShr .u64 (bShl .u64 y (IntKind.u64.wrap y1)) (32:Int)))) fun q0 =>
  bindV (IntKind.u64.wrap (un21-(IntKind.u64.wrap (q0*(bShr .u64 (bShl .u64 y (IntKind.u64.wrap y1)) (32:Int)))))) fun rhat1 =>
  (iter (bits_Div64_l2 lo y y1) (rhat1,q0)).bind fun q03 =>
  bits_Div64_j1 lo y y1 q11 un21 q03
noncomputable def bits_Div64_l4 (lo:Int) (y:Int) (y1:Int):(Int × Int)→Option ((Int × Int) ⊕ Int) :=
  fun (q12,rhat4) =>
    bif ((decide ((4294967296:Int)≤q12))||(decide ((IntKind.u64.wrap ((IntKind.u64.wrap ((4294967296:Int)*rhat4))+(bShr .u64 (bShl .u64 lo (IntKind.u64.wrap y1)) (32:Int))))<(IntKind.u64.wrap (q12*(bAnd .u64 (bShl .u64 y (IntKind.u64.wrap y1)) (4294967295:Int))))))) then
      bindV (IntKind.u64.wrap (rhat4+(bShr .u64 (bShl .u64 y (IntKind.u64.wrap y1)) (32:Int)))) fun rhat5 =>
      bif (decide ((4294967296:Int)≤rhat5)) then
        some (.inr (IntKind.u64.wrap (q12-(1:Int))))
      else
        some (.inl ((IntKind.u64.wrap (q12-(1:Int))),rhat5))
    else
      some (.inr q12)
noncomputable def bits_Div64_j5 (hi:Int) (lo:Int) (y:Int):Option (Int × Int) :=
  bif (hi==(0:Int)) then
    req (y ≠ 0) <|
    some ((IntKind.u64.wrap (Int.tdiv lo y)),(Int.tmod lo y))
  else
    (bits_LeadingZeros64 y).bind fun y1 =>
    req (0≤(IntKind.u64.wrap y1)) <|
    req (0≤(IntKind.u64.wrap y1)∧0≤(IntKind.u64.wrap ((64:Int)-(IntKind.u64.wrap y1)))) <|
    bindV (bOr .u64 (bShl .u64 hi (IntKind.u64.wrap y1)) (bShr .u64 lo (IntKind.u64.wrap ((64:Int)-(IntKind.u64.wrap y1))))) fun un32 =>
    req (0≤(IntKind.u64.wrap y1)) <|
    req ((bShr .u64 (bShl .u64 y (IntKind.u64.wrap y1)) (32:Int)) ≠ 0) <|
    bindV (IntKind.u64.wrap (Int.tdiv un32 (bShr .u64 (bShl .u64 y (IntKind.u64.wrap y1)) (32:Int)))) fun q1 =>
    bindV (IntKind.u64.wrap (un32-(IntKind.u64.wrap (q1*(bShr .u64 (bShl .u64 y (IntKind.u64.wrap y1)) (32:Int)))))) fun rhat =>
    (iter (bits_Div64_l4 lo y y1) (q1,rhat)).bind fun q13 =>
    bits_Div64_j3 lo y y1 un32 q13
noncomputable def bits_Div64_j6 (hi:Int) (lo:Int) (y:Int):Option (Int × Int) :=
  bif (decide (y≤hi)) then
    none
  else
    bits_Div64_j5 hi lo y
noncomputable def bits_Div64 (hi:Int) (lo:Int) (y:Int):Option (Int × Int) :=
  bif (y==(0:Int)) then
    none
  else
    bits_Div64_j6 hi lo y
/-- math bits.Rem64 -/
noncomputable def bits_Rem64 (hi:Int) (lo:Int) (y:Int):Option Int :=
  req (y ≠ 0) <|
  (bits_Div64 (Int.tmod hi y) lo y).bind fun (y1,y2) =>
  some y2
/-- (awardingbody ratio.wide).mod -/
noncomputable def ratio_wide_mod (a:ratio_wide) (d:Int):Option Int :=
  (bits_Rem64 a.hi a.lo d).bind fun y =>
  some y
/-- awardingbody ratio.fitted -/
noncomputable def ratio_fitted_j1 (den:ratio_wide) (n:Int):Option (api_Ratio × Int) :=
  some ((api_Ratio.mk n (IntKind.i64.wrap den.lo)),(0:Int))
noncomputable def ratio_fitted (neg:Bool) (num:ratio_wide) (den:ratio_wide):Option (api_Ratio × Int) :=
  bif ((((num.hi != (0:Int))||(den.hi != (0:Int)))||(decide ((1152921504606846976:Int)<num.lo)))||(decide ((1152921504606846976:Int)<den.lo))) then
    some ((api_Ratio.mk (0:Int) (0:Int)),(6:Int))
  else
    bif neg then
      ratio_fitted_j1 den (IntKind.i64.wrap (0-(IntKind.i64.wrap num.lo)))
    else
      ratio_fitted_j1 den (IntKind.i64.wrap num.lo)
/-- (awardingbody ratio.wide).over -/
noncomputable def ratio_wide_over (a:ratio_wide) (d:Int):Option ratio_wide :=
  req (d ≠ 0) <|
  (bits_Div64 (Int.tmod a.hi d) a.lo d).bind fun (y,y1) =>
  some (ratio_wide.mk (IntKind.u64.wrap (Int.tdiv a.hi d)) y)
/-- awardingbody ratio.reduced -/
noncomputable def ratio_reduced (num:ratio_signed) (den:Int):Option (api_Ratio × Int) :=
  (ratio_wide_mod num.abs den).bind fun y =>
  (ratio_gcd y den).bind fun y1 =>
  (ratio_wide_over num.abs y1).bind fun y2 =>
  req (y1 ≠ 0) <|
  (ratio_fitted num.neg y2 (ratio_wide.mk (0:Int) (IntKind.u64.wrap (Int.tdiv den y1)))).bind fun (y3,y4) =>
  some (y3,y4)
/-- awardingbody ratio.magnitude -/
noncomputable def ratio_magnitude (n:Int):Option Int :=
  bif (decide (n<(0:Int))) then
    some (IntKind.u64.wrap (0-(IntKind.u64.wrap n)))
  else
    some (IntKind.u64.wrap n)
/-- awardingbody ratio.New -/
noncomputable def ratio_New (num:Int) (den:Int):Option (api_Ratio × Int) :=
  bif (den==(0:Int)) then
    some ((api_Ratio.mk (0:Int) (0:Int)),(2:Int))
  else
    (ratio_magnitude num).bind fun y =>
    (ratio_magnitude den).bind fun y1 =>
    (ratio_reduced (ratio_signed.mk (!((decide (num<(0:Int)))==(decide (den<(0:Int))))) (ratio_wide.mk (0:Int) y)) y1).bind fun (y2,y3) =>
    some (y2,y3)
/-- awardingbody ratio.Valid -/
noncomputable def ratio_Valid (a:api_Ratio):Option Bool :=
  bif ((((decide (a.Den<(1:Int)))||(decide ((1152921504606846976:Int)<a.Den)))||(decide (a.Num<(-1152921504606846976:Int))))||(decide ((1152921504606846976:Int)<a.Num))) then
    some false
  else
    (ratio_magnitude a.Num).bind fun y =>
    (ratio_gcd y (IntKind.u64.wrap a.Den)).bind fun y1 =>
    some (y1==(1:Int))
/-- math bits.Mul64 -/
noncomputable def bits_Mul64 (x:Int) (y:Int):Option (Int × Int) :=
  bindV (IntKind.u64.wrap ((bAnd .u64 x (4294967295:Int))*(bAnd .u64 y (4294967295:Int)))) fun w0 =>
  bindV (IntKind.u64.wrap ((IntKind.u64.wrap ((bShr .u64 x (32:Int))*(bAnd .u64 y (4294967295:Int))))+(bShr .u64 w0 (32:Int)))) fun t =>
  bindV (IntKind.u64.wrap ((bAnd .u64 t (4294967295:Int))+(IntKind.u64.wrap ((bAnd .u64 x (4294967295:Int))*(bShr .u64 y (32:Int)))))) fun w1 =>
  bindV (IntKind.u64.wrap ((IntKind.u64.wrap ((IntKind.u64.wrap ((bShr .u64 x (32:Int))*(bShr .u64 y (32:Int))))+(bShr .u64 t (32:Int))))+(bShr .u64 w1 (32:Int)))) fun hi =>
  some (hi,(IntKind.u64.wrap (x*y)))
/-- awardingbody ratio.product -/
noncomputable def ratio_product (a:Int) (b:Int):Option ratio_wide :=
  (bits_Mul64 a b).bind fun (y,y1) =>
  some (ratio_wide.mk y y1)
/-- awardingbody ratio.signedProduct -/
noncomputable def ratio_signedProduct (num:Int) (factor:Int):Option ratio_signed :=
  (ratio_magnitude num).bind fun y =>
  (ratio_product y factor).bind fun y1 =>
  some (ratio_signed.mk (decide (num<(0:Int))) y1)
/-- cmp.isNaN[uint64] -/
noncomputable def cmp_isNaN_uint64 (x:Int):Option Bool :=
  some (x != x)
/-- cmp.Compare[uint64] -/
noncomputable def cmp_Compare_uint64 (x:Int) (y:Int):Option Int :=
  (cmp_isNaN_uint64 x).bind fun y1 =>
  (cmp_isNaN_uint64 y).bind fun y2 =>
  bif y1 then
    bif y2 then
      some (0:Int)
    else
      some (-1:Int)
  else
    bif y2 then
      some (1:Int)
    else
      bif (decide (x<y)) then
        some (-1:Int)
      else
        bif (decide (y<x)) then
          some (1:Int)
        else
          some (0:Int)
end Go.LS
