/-
  Plain functions that the program's functions compute. No condition: definitions, printed by dec.py.
-/
import Derived.Test.YtdlmgokicfoidaaDoorD1
namespace Go.LS
set_option linter.all false
set_option linter.unusedSimpArgs false
set_option linter.unusedVariables false
set_option maxRecDepth 20000

/-- awardingbody awardingbodylaw03.ExchangeLong -/
noncomputable def law03_ExchangeLong_j1 (w:List (List Str)):Option Bool :=
  (exchange_Format (api_File.mk ([76,79,78,71]:Str) (0:Int) (0:Int) w)).bind fun (y3,y4) =>
  (ref03_Format (api_File.mk ([76,79,78,71]:Str) (0:Int) (0:Int) w)).bind fun (y5,y6) =>
  (exchange_Parse y3).bind fun (y7,y8) =>
  req ((((y3==y5)&&(y4==y6))=true→(exchange_Valid (api_File.mk ([76,79,78,71]:Str) (0:Int) (0:Int) w)).isSome=true)∧(((y3==y5)&&(y4==y6))=true→(ref03_Valid (api_File.mk ([76,79,78,71]:Str) (0:Int) (0:Int) w)).isSome=true)∧((((((y3==y5)&&(y4==y6))&&(((exchange_Valid (api_File.mk ([76,79,78,71]:Str) (0:Int) (0:Int) w)).getD default)==((ref03_Valid (api_File.mk ([76,79,78,71]:Str) (0:Int) (0:Int) w)).getD default)))&&(!(y4 != (0:Int))))&&(y8==(0:Int)))=true→(law03_same y7 (api_File.mk ([76,79,78,71]:Str) (0:Int) (0:Int) w)).isSome=true)∧(((((y3==y5)&&(y4==y6))&&(((exchange_Valid (api_File.mk ([76,79,78,71]:Str) (0:Int) (0:Int) w)).getD default)==((ref03_Valid (api_File.mk ([76,79,78,71]:Str) (0:Int) (0:Int) w)).getD default)))&&((y4 != (0:Int))||((y8==(0:Int))&&((law03_same y7 (api_File.mk ([76,79,78,71]:Str) (0:Int) (0:Int) w)).getD default))))=true→(law03_awake).isSome=true)) <|
  some (((((y3==y5)&&(y4==y6))&&(((exchange_Valid (api_File.mk ([76,79,78,71]:Str) (0:Int) (0:Int) w)).getD default)==((ref03_Valid (api_File.mk ([76,79,78,71]:Str) (0:Int) (0:Int) w)).getD default)))&&((y4 != (0:Int))||((y8==(0:Int))&&((law03_same y7 (api_File.mk ([76,79,78,71]:Str) (0:Int) (0:Int) w)).getD default))))&&((law03_awake).getD default))
noncomputable def law03_ExchangeLong_l2 (y:Int) (row:List Str):(Int × (List (List Str)))→Option ((Int × (List (List Str))) ⊕ (List (List Str))) :=
  fun (i,w1) =>
    bif (decide (i<y)) then
      req ((w1.length+([row]).length)*24≤140737488355328) <|
      some (.inl ((IntKind.i64.wrap (i+(1:Int))),(w1 ++ [row])))
    else
      some (.inr w1)
noncomputable def law03_ExchangeLong_j3 (y:Int) (row:List Str):Option Bool :=
  (iter (law03_ExchangeLong_l2 y row) ((0:Int),([]:List (List Str)))).bind fun w2 =>
  law03_ExchangeLong_j1 w2
noncomputable def law03_ExchangeLong_l4 (y1:Int) (field:Str):(Int × (List Str))→Option ((Int × (List Str)) ⊕ (List Str)) :=
  fun (i1,row1) =>
    bif (decide (i1<y1)) then
      req ((row1.length+([field]).length)*16≤140737488355328) <|
      some (.inl ((IntKind.i64.wrap (i1+(1:Int))),(row1 ++ [field])))
    else
      some (.inr row1)
noncomputable def law03_ExchangeLong_j5 (y:Int) (y1:Int) (field:Str):Option Bool :=
  (iter (law03_ExchangeLong_l4 y1 field) ((0:Int),([]:List Str))).bind fun row2 =>
  law03_ExchangeLong_j3 y row2
noncomputable def law03_ExchangeLong_l6 (y2:Int):(Str × Int)→Option ((Str × Int) ⊕ Str) :=
  fun (field1,i2) =>
    bif (decide (i2<y2)) then
      req (field1.length+([120]:Str).length≤140737488355328) <|
      some (.inl ((field1 ++ ([120]:Str)),(IntKind.i64.wrap (i2+(1:Int)))))
    else
      some (.inr field1)
noncomputable def law03_ExchangeLong (rows:Int) (fields:Int) (bytes:Int):Option Bool :=
  (make_Cut rows (43:Int)).bind fun y =>
  (make_Cut fields (10:Int)).bind fun y1 =>
  (make_Cut bytes (42:Int)).bind fun y2 =>
  (iter (law03_ExchangeLong_l6 y2) (([]:Str),(0:Int))).bind fun field2 =>
  law03_ExchangeLong_j5 y y1 field2
/-- awardingbody awardingbodyref03.Cut -/
noncomputable def ref03_Cut_j1 (s:Str) (from_:Int) (out:List Str):Option (List Str) :=
  req ((0≤from_∧from_≤(s.length:Int))∧(out.length+([(List.drop from_.toNat s)]).length)*16≤140737488355328) <|
  some (out ++ [(List.drop from_.toNat s)])
noncomputable def ref03_Cut_j2 (i:Int) (from_3:Int) (out3:List Str):Option ((Int × Int × (List Str)) ⊕ (Int × (List Str))) :=
  some (.inl (from_3,(IntKind.i64.wrap (i+(1:Int))),out3))
noncomputable def ref03_Cut_l3 (s:Str) (b:Int):(Int × Int × (List Str))→Option ((Int × Int × (List Str)) ⊕ (Int × (List Str))) :=
  fun (from_1,i,out1) =>
    bif (decide (i<(s.length:Int))) then
      req ((0≤i∧i<(s.length:Int))) <|
      bif ((sx s i)==b) then
        req ((0≤from_1∧0≤i∧i≤(s.length:Int)∧from_1≤i)∧(out1.length+([(List.drop from_1.toNat (List.take i.toNat s))]).length)*16≤140737488355328) <|
        ref03_Cut_j2 i (IntKind.i64.wrap (i+(1:Int))) (out1 ++ [(List.drop from_1.toNat (List.take i.toNat s))])
      else
        ref03_Cut_j2 i from_1 out1
    else
      some (.inr (from_1,out1))
noncomputable def ref03_Cut (s:Str) (b:Int):Option (List Str) :=
  (iter (ref03_Cut_l3 s b) ((0:Int),(0:Int),([]:List Str))).bind fun (from_2,out2) =>
  ref03_Cut_j1 s from_2 out2
/-- awardingbody awardingbodyref03.number -/
noncomputable def ref03_number_j1 (n:Int):Option (Int × Bool) :=
  some (n,true)
noncomputable def ref03_number_l2 (s:Str):(Int × Int)→Option ((Int × Int) ⊕ (Int ⊕ (Int × Bool))) :=
  fun (n1,i) =>
    bif (decide (i<(s.length:Int))) then
      req ((0≤i∧i<(s.length:Int))∧((!(decide ((sx s i)<(48:Int))))=true→0≤i∧i<(s.length:Int))) <|
      bif ((decide ((sx s i)<(48:Int)))||(decide ((57:Int)<(sx s i)))) then
        some (.inr (.inr ((0:Int),false)))
      else
        req ((0≤i∧i<(s.length:Int))) <|
        bindV (IntKind.i64.wrap ((IntKind.i64.wrap ((10:Int)*n1))+(IntKind.i64.wrap (IntKind.u8.wrap ((sx s i)-(48:Int)))))) fun n3 =>
        some (.inl (n3,(IntKind.i64.wrap (i+(1:Int)))))
    else
      some (.inr (.inl n1))
noncomputable def ref03_number (s:Str):Option (Int × Bool) :=
  req ((((!((decide ((s.length:Int)<(1:Int)))||(decide ((4:Int)<(s.length:Int)))))&&(decide ((1:Int)<(s.length:Int))))=true→0≤(0:Int)∧(0:Int)<(s.length:Int))) <|
  bif (((decide ((s.length:Int)<(1:Int)))||(decide ((4:Int)<(s.length:Int))))||((decide ((1:Int)<(s.length:Int)))&&((sx s (0:Int))==(48:Int)))) then
    some ((0:Int),false)
  else
    (iter (ref03_number_l2 s) ((0:Int),(0:Int))).bind fun x_ =>
    match x_ with
    | .inl n2 => ref03_number_j1 n2
    | .inr t_ => some t_
/-- awardingbody awardingbodyref03.header -/
noncomputable def ref03_header (s:Str):Option (api_File × Bool) :=
  (ref03_Cut s (124:Int)).bind fun y =>
  req (((!((y.length:Int) != (4:Int)))=true→0≤(0:Int)∧(0:Int)<(y.length:Int))) <|
  bif (((y.length:Int) != (4:Int))||(!((ix y (0:Int))==([70,73,76,69]:Str)))) then
    some ((api_File.mk ([]:Str) (0:Int) (0:Int) ([]:List (List Str))),false)
  else
    req ((0≤(2:Int)∧(2:Int)<(y.length:Int))) <|
    (ref03_number (ix y (2:Int))).bind fun (y1,y2) =>
    req ((0≤(3:Int)∧(3:Int)<(y.length:Int))) <|
    (ref03_number (ix y (3:Int))).bind fun (y3,y4) =>
    req ((0≤(1:Int)∧(1:Int)<(y.length:Int))) <|
    req (((y2&&y4)=true→(ref03_Valid (api_File.mk (ix y (1:Int)) y1 y3 ([]:List (List Str)))).isSome=true)) <|
    some ((api_File.mk (ix y (1:Int)) y1 y3 ([]:List (List Str))),((y2&&y4)&&((ref03_Valid (api_File.mk (ix y (1:Int)) y1 y3 ([]:List (List Str)))).getD default)))
/-- awardingbody awardingbodyref03.unescape -/
noncomputable def ref03_unescape_j1 (out:Str):Option (Str × Bool) :=
  (ref03_Field out).bind fun y =>
  some (out,y)
noncomputable def ref03_unescape_j2 (out3:Str) (i1:Int):Option ((Str × Int) ⊕ (Str ⊕ (Str × Bool))) :=
  some (.inl (out3,(IntKind.i64.wrap (i1+(1:Int)))))
noncomputable def ref03_unescape_l3 (s:Str):(Str × Int)→Option ((Str × Int) ⊕ (Str ⊕ (Str × Bool))) :=
  fun (out1,i) =>
    bif (decide (i<(s.length:Int))) then
      req ((0≤i∧i<(s.length:Int))) <|
      bif ((sx s i) != (92:Int)) then
        req ((0≤i∧0≤(IntKind.i64.wrap (i+(1:Int)))∧(IntKind.i64.wrap (i+(1:Int)))≤(s.length:Int)∧i≤(IntKind.i64.wrap (i+(1:Int))))∧out1.length+(List.drop i.toNat (List.take (IntKind.i64.wrap (i+(1:Int))).toNat s)).length≤140737488355328) <|
        bindV (out1 ++ (List.drop i.toNat (List.take (IntKind.i64.wrap (i+(1:Int))).toNat s))) fun out4 =>
        ref03_unescape_j2 out4 i
      else
        bif ((IntKind.i64.wrap (i+(1:Int)))==(s.length:Int)) then
          some (.inr (.inr (([]:Str),false)))
        else
          req ((0≤(IntKind.i64.wrap (i+(1:Int)))∧(IntKind.i64.wrap (i+(1:Int)))<(s.length:Int))) <|
          bif ((sx s (IntKind.i64.wrap (i+(1:Int))))==(92:Int)) then
            req (out1.length+([92]:Str).length≤140737488355328) <|
            ref03_unescape_j2 (out1 ++ ([92]:Str)) (IntKind.i64.wrap (i+(1:Int)))
          else
            bif ((sx s (IntKind.i64.wrap (i+(1:Int))))==(112:Int)) then
              req (out1.length+([124]:Str).length≤140737488355328) <|
              ref03_unescape_j2 (out1 ++ ([124]:Str)) (IntKind.i64.wrap (i+(1:Int)))
            else
              bif ((sx s (IntKind.i64.wrap (i+(1:Int))))==(110:Int)) then
                req (out1.length+([10]:Str).length≤140737488355328) <|
                ref03_unescape_j2 (out1 ++ ([10]:Str)) (IntKind.i64.wrap (i+(1:Int)))
              else
                some (.inr (.inr (([]:Str),false)))
    else
      some (.inr (.inl out1))
noncomputable def ref03_unescape (s:Str):Option (Str × Bool) :=
  (iter (ref03_unescape_l3 s) (([]:Str),(0:Int))).bind fun x_ =>
  match x_ with
  | .inl out2 => ref03_unescape_j1 out2
  | .inr t_ => some t_
/-- awardingbody awardingbodyref03.row -/
noncomputable def ref03_row_j1 (out:List Str):Option ((List Str) × Bool) :=
  some (out,true)
noncomputable def ref03_row_l2 (y:List Str):(Int × (List Str))→Option ((Int × (List Str)) ⊕ ((List Str) ⊕ ((List Str) × Bool))) :=
  fun (i,out1) =>
    bif (decide (i<(y.length:Int))) then
      req ((0≤i∧i<(y.length:Int))) <|
      (ref03_unescape (ix y i)).bind fun (y1,y2) =>
      bif (!y2) then
        some (.inr (.inr (([]:List Str),false)))
      else
        req ((out1.length+([y1]).length)*16≤140737488355328) <|
        some (.inl ((IntKind.i64.wrap (i+(1:Int))),(out1 ++ [y1])))
    else
      some (.inr (.inl out1))
noncomputable def ref03_row (s:Str):Option ((List Str) × Bool) :=
  (ref03_Cut s (124:Int)).bind fun y =>
  req ((0≤(0:Int)∧(0:Int)<(y.length:Int))) <|
  bif (((!((ix y (0:Int))==([82,79,87]:Str)))||(decide ((y.length:Int)<(2:Int))))||(decide ((9:Int)<(y.length:Int)))) then
    some (([]:List Str),false)
  else
    (iter (ref03_row_l2 y) ((1:Int),([]:List Str))).bind fun x_ =>
    match x_ with
    | .inl out2 => ref03_row_j1 out2
    | .inr t_ => some t_
/-- awardingbody awardingbodyref03.Parse -/
noncomputable def ref03_Parse_j1 (s:Str) (y:List Str) (y1:api_File) (y4:Int) (y6:Int) (w:List (List Str)):Option (api_File × Int) :=
  bif ((y4 != (IntKind.i64.wrap ((y.length:Int)-(2:Int))))||(decide ((40:Int)<(IntKind.i64.wrap ((y.length:Int)-(2:Int)))))) then
    some ((api_File.mk ([]:Str) (0:Int) (0:Int) ([]:List (List Str))),(22:Int))
  else
    req ((0≤(IntKind.i64.wrap ((y.length:Int)-(1:Int)))∧(IntKind.i64.wrap ((y.length:Int)-(1:Int)))<(y.length:Int))∧(0≤(IntKind.i64.wrap ((IntKind.i64.wrap ((s.length:Int)-(1:Int)))-((ix y (IntKind.i64.wrap ((y.length:Int)-(1:Int)))).length:Int)))∧(IntKind.i64.wrap ((IntKind.i64.wrap ((s.length:Int)-(1:Int)))-((ix y (IntKind.i64.wrap ((y.length:Int)-(1:Int)))).length:Int)))≤(s.length:Int))) <|
    (ref03_Check (List.take (IntKind.i64.wrap ((IntKind.i64.wrap ((s.length:Int)-(1:Int)))-((ix y (IntKind.i64.wrap ((y.length:Int)-(1:Int)))).length:Int))).toNat s)).bind fun y8 =>
    bif (y6 != y8) then
      some ((api_File.mk ([]:Str) (0:Int) (0:Int) ([]:List (List Str))),(23:Int))
    else
      some ((api_File.mk y1.Kind y1.Source y1.Number w),(0:Int))
noncomputable def ref03_Parse_l2 (y:List Str):(Int × (List (List Str)))→Option ((Int × (List (List Str))) ⊕ ((List (List Str)) ⊕ (api_File × Int))) :=
  fun (i,w1) =>
    bif (decide (i<(IntKind.i64.wrap ((y.length:Int)-(1:Int))))) then
      req ((0≤i∧i<(y.length:Int))) <|
      (ref03_row (ix y i)).bind fun (y9,y10) =>
      bif (!y10) then
        some (.inr (.inr ((api_File.mk ([]:Str) (0:Int) (0:Int) ([]:List (List Str))),(7:Int))))
      else
        req ((w1.length+([y9]).length)*24≤140737488355328) <|
        some (.inl ((IntKind.i64.wrap (i+(1:Int))),(w1 ++ [y9])))
    else
      some (.inr (.inl w1))
noncomputable def ref03_Parse (s:Str):Option (api_File × Int) :=
  bif (decide ((8192:Int)<(s.length:Int))) then
    some ((api_File.mk ([]:Str) (0:Int) (0:Int) ([]:List (List Str))),(3:Int))
  else
    req (((!((s.length:Int)==(0:Int)))=true→0≤(IntKind.i64.wrap ((s.length:Int)-(1:Int)))∧(IntKind.i64.wrap ((s.length:Int)-(1:Int)))<(s.length:Int))) <|
    bif (((s.length:Int)==(0:Int))||((sx s (IntKind.i64.wrap ((s.length:Int)-(1:Int)))) != (10:Int))) then
      some ((api_File.mk ([]:Str) (0:Int) (0:Int) ([]:List (List Str))),(7:Int))
    else
      req ((0≤(IntKind.i64.wrap ((s.length:Int)-(1:Int)))∧(IntKind.i64.wrap ((s.length:Int)-(1:Int)))≤(s.length:Int))) <|
      (ref03_Cut (List.take (IntKind.i64.wrap ((s.length:Int)-(1:Int))).toNat s) (10:Int)).bind fun y =>
      bif (decide ((y.length:Int)<(2:Int))) then
        some ((api_File.mk ([]:Str) (0:Int) (0:Int) ([]:List (List Str))),(7:Int))
      else
        req ((0≤(0:Int)∧(0:Int)<(y.length:Int))) <|
        (ref03_header (ix y (0:Int))).bind fun (y1,y2) =>
        bif (!y2) then
          some ((api_File.mk ([]:Str) (0:Int) (0:Int) ([]:List (List Str))),(20:Int))
        else
          req ((0≤(IntKind.i64.wrap ((y.length:Int)-(1:Int)))∧(IntKind.i64.wrap ((y.length:Int)-(1:Int)))<(y.length:Int))) <|
          (ref03_Cut (ix y (IntKind.i64.wrap ((y.length:Int)-(1:Int)))) (124:Int)).bind fun y3 =>
          req (((!((y3.length:Int) != (3:Int)))=true→0≤(0:Int)∧(0:Int)<(y3.length:Int))) <|
          bif (((y3.length:Int) != (3:Int))||(!((ix y3 (0:Int))==([69,78,68]:Str)))) then
            some ((api_File.mk ([]:Str) (0:Int) (0:Int) ([]:List (List Str))),(21:Int))
          else
            req ((0≤(1:Int)∧(1:Int)<(y3.length:Int))) <|
            (ref03_number (ix y3 (1:Int))).bind fun (y4,y5) =>
            req ((0≤(2:Int)∧(2:Int)<(y3.length:Int))) <|
            (ref03_number (ix y3 (2:Int))).bind fun (y6,y7) =>
            bif ((!y5)||(!y7)) then
              some ((api_File.mk ([]:Str) (0:Int) (0:Int) ([]:List (List Str))),(21:Int))
            else
              (iter (ref03_Parse_l2 y) ((1:Int),([]:List (List Str)))).bind fun x_ =>
              match x_ with
              | .inl w2 => ref03_Parse_j1 s y y1 y4 y6 w2
              | .inr t_ => some t_
/-- awardingbody awardingbodylaw03.ExchangeParses -/
noncomputable def law03_ExchangeParses (s:Str):Option Bool :=
  bif (decide ((300:Int)<(s.length:Int))) then
    some true
  else
    (exchange_Parse s).bind fun (y,y1) =>
    (ref03_Parse s).bind fun (y2,y3) =>
    (law03_same y y2).bind fun y4 =>
    req (((y4&&(y1==y3))=true→(law03_awake).isSome=true)) <|
    some ((y4&&(y1==y3))&&((law03_awake).getD default))
/-- awardingbody awardingbodylaw03.mended -/
noncomputable def law03_mended_j1 (s:Str) (at_:Int):Option Str :=
  req ((0≤at_∧at_≤(s.length:Int))) <|
  (ref03_Cut (List.drop at_.toNat s) (124:Int)).bind fun y =>
  bif ((y.length:Int) != (3:Int)) then
    some s
  else
    req ((0≤at_∧at_≤(s.length:Int))∧(0≤(0:Int)∧(0:Int)<(y.length:Int))∧(List.take at_.toNat s).length+(ix y (0:Int)).length≤140737488355328∧((List.take at_.toNat s) ++ (ix y (0:Int))).length+([124]:Str).length≤140737488355328∧(0≤(1:Int)∧(1:Int)<(y.length:Int))∧(((List.take at_.toNat s) ++ (ix y (0:Int))) ++ ([124]:Str)).length+(ix y (1:Int)).length≤140737488355328∧((((List.take at_.toNat s) ++ (ix y (0:Int))) ++ ([124]:Str)) ++ (ix y (1:Int))).length+([124]:Str).length≤140737488355328) <|
    (ref03_Check (List.take at_.toNat s)).bind fun y1 =>
    (ref03_Decimal y1).bind fun y2 =>
    req ((((((List.take at_.toNat s) ++ (ix y (0:Int))) ++ ([124]:Str)) ++ (ix y (1:Int))) ++ ([124]:Str)).length+y2.length≤140737488355328∧((((((List.take at_.toNat s) ++ (ix y (0:Int))) ++ ([124]:Str)) ++ (ix y (1:Int))) ++ ([124]:Str)) ++ y2).length+([10]:Str).length≤140737488355328) <|
    bindV (((((((List.take at_.toNat s) ++ (ix y (0:Int))) ++ ([124]:Str)) ++ (ix y (1:Int))) ++ ([124]:Str)) ++ y2) ++ ([10]:Str)) fun v =>
    some v
noncomputable def law03_mended_l2 (s:Str):Int→Option (Int ⊕ Int) :=
  fun at_1 =>
    req (((decide ((0:Int)<at_1))=true→0≤(IntKind.i64.wrap (at_1-(1:Int)))∧(IntKind.i64.wrap (at_1-(1:Int)))<(s.length:Int))) <|
    bif ((decide ((0:Int)<at_1))&&((sx s (IntKind.i64.wrap (at_1-(1:Int)))) != (10:Int))) then
      some (.inl (IntKind.i64.wrap (at_1-(1:Int))))
    else
      some (.inr at_1)
noncomputable def law03_mended (s:Str):Option Str :=
  (iter (law03_mended_l2 s) (IntKind.i64.wrap ((s.length:Int)-(1:Int)))).bind fun at_2 =>
  law03_mended_j1 s at_2
/-- awardingbody awardingbodylaw03.ExchangeReads -/
noncomputable def law03_ExchangeReads_j1 (s1:Str):Option Bool :=
  (exchange_Parse s1).bind fun (y5,y6) =>
  (ref03_Parse s1).bind fun (y7,y8) =>
  (law03_same y5 y7).bind fun y9 =>
  req (((y9&&(y6==y8))=true→(law03_awake).isSome=true)) <|
  some ((y9&&(y6==y8))&&((law03_awake).getD default))
noncomputable def law03_ExchangeReads_j2 (s:Str) (w:List Int) (w1:Int):Option Bool :=
  (make_Tape_Next (make_Tape.mk w w1) (2:Int)).bind fun (y10,y11) =>
  bif (y10==(1:Int)) then
    (law03_mended s).bind fun y12 =>
    law03_ExchangeReads_j1 y12
  else
    law03_ExchangeReads_j1 s
noncomputable def law03_ExchangeReads_j3 (i:Int) (s4:Str) (w6:List Int) (w7:Int):Option ((Str × Int × (List Int) × Int) ⊕ (Str × (List Int) × Int)) :=
  some (.inl (s4,(IntKind.i64.wrap (i-(1:Int))),w6,w7))
noncomputable def law03_ExchangeReads_l4 :(Str × Int × (List Int) × Int)→Option ((Str × Int × (List Int) × Int) ⊕ (Str × (List Int) × Int)) :=
  fun (s2,i,w2,w3) =>
    bif (decide ((0:Int)<i)) then
      (make_Tape_Next (make_Tape.mk w2 w3) (s2.length:Int)).bind fun (y15,y16) =>
      (make_Tape_Next y16 (12:Int)).bind fun (y17,y18) =>
      (make_Tape_Next y18 (3:Int)).bind fun (y19,y20) =>
      bif (y19==(0:Int)) then
        req ((0≤y15∧y15≤(s2.length:Int))∧(0≤y17∧0≤(IntKind.i64.wrap (y17+(1:Int)))∧(IntKind.i64.wrap (y17+(1:Int)))≤(([124,92,10,48,65,82,112,69,78,57,32,0]:Str).length:Int)∧y17≤(IntKind.i64.wrap (y17+(1:Int))))∧(List.take y15.toNat s2).length+(List.drop y17.toNat (List.take (IntKind.i64.wrap (y17+(1:Int))).toNat ([124,92,10,48,65,82,112,69,78,57,32,0]:Str))).length≤140737488355328∧(0≤(IntKind.i64.wrap (y15+(1:Int)))∧(IntKind.i64.wrap (y15+(1:Int)))≤(s2.length:Int))∧((List.take y15.toNat s2) ++ (List.drop y17.toNat (List.take (IntKind.i64.wrap (y17+(1:Int))).toNat ([124,92,10,48,65,82,112,69,78,57,32,0]:Str)))).length+(List.drop (IntKind.i64.wrap (y15+(1:Int))).toNat s2).length≤140737488355328) <|
        bindV (((List.take y15.toNat s2) ++ (List.drop y17.toNat (List.take (IntKind.i64.wrap (y17+(1:Int))).toNat ([124,92,10,48,65,82,112,69,78,57,32,0]:Str)))) ++ (List.drop (IntKind.i64.wrap (y15+(1:Int))).toNat s2)) fun s5 =>
        law03_ExchangeReads_j3 i s5 y20.L y20.At
      else
        bif (y19==(1:Int)) then
          req ((0≤y15∧y15≤(s2.length:Int))∧(0≤y17∧0≤(IntKind.i64.wrap (y17+(1:Int)))∧(IntKind.i64.wrap (y17+(1:Int)))≤(([124,92,10,48,65,82,112,69,78,57,32,0]:Str).length:Int)∧y17≤(IntKind.i64.wrap (y17+(1:Int))))∧(List.take y15.toNat s2).length+(List.drop y17.toNat (List.take (IntKind.i64.wrap (y17+(1:Int))).toNat ([124,92,10,48,65,82,112,69,78,57,32,0]:Str))).length≤140737488355328∧((List.take y15.toNat s2) ++ (List.drop y17.toNat (List.take (IntKind.i64.wrap (y17+(1:Int))).toNat ([124,92,10,48,65,82,112,69,78,57,32,0]:Str)))).length+(List.drop y15.toNat s2).length≤140737488355328) <|
          bindV (((List.take y15.toNat s2) ++ (List.drop y17.toNat (List.take (IntKind.i64.wrap (y17+(1:Int))).toNat ([124,92,10,48,65,82,112,69,78,57,32,0]:Str)))) ++ (List.drop y15.toNat s2)) fun s6 =>
          law03_ExchangeReads_j3 i s6 y20.L y20.At
        else
          req ((0≤y15∧y15≤(s2.length:Int))∧(0≤(IntKind.i64.wrap (y15+(1:Int)))∧(IntKind.i64.wrap (y15+(1:Int)))≤(s2.length:Int))∧(List.take y15.toNat s2).length+(List.drop (IntKind.i64.wrap (y15+(1:Int))).toNat s2).length≤140737488355328) <|
          bindV ((List.take y15.toNat s2) ++ (List.drop (IntKind.i64.wrap (y15+(1:Int))).toNat s2)) fun s7 =>
          law03_ExchangeReads_j3 i s7 y20.L y20.At
    else
      some (.inr (s2,w2,w3))
noncomputable def law03_ExchangeReads (t:List Int):Option Bool :=
  (make_New t).bind fun y =>
  (make_Tape_File y (0:Int)).bind fun (y1,y2) =>
  (ref03_Format y1).bind fun (y3,y4) =>
  (make_Tape_Range y2 (0:Int) (2:Int)).bind fun (y13,y14) =>
  (iter (law03_ExchangeReads_l4) (y3,y13,y14.L,y14.At)).bind fun (s3,w4,w5) =>
  law03_ExchangeReads_j2 s3 w4 w5
/-- awardingbody awardingbodylaw03.ExchangeChecks -/
noncomputable def law03_ExchangeChecks_j1 (s1:Str):Option Bool :=
  (exchange_Check s1).bind fun y =>
  (ref03_Check s1).bind fun y1 =>
  req (((y==y1)=true→(law03_awake).isSome=true)) <|
  some ((y==y1)&&((law03_awake).getD default))
noncomputable def law03_ExchangeChecks_l2 :(Str × Int)→Option ((Str × Int) ⊕ Str) :=
  fun (s2,i) =>
    bif (decide ((0:Int)<i)) then
      req (s2.length+([122]:Str).length≤140737488355328) <|
      some (.inl ((s2 ++ ([122]:Str)),(IntKind.i64.wrap (i-(1:Int)))))
    else
      some (.inr s2)
noncomputable def law03_ExchangeChecks (s:Str) (n:Int):Option Bool :=
  bif (decide ((2000:Int)<(s.length:Int))) then
    some true
  else
    (make_Cut n (300:Int)).bind fun y2 =>
    (iter (law03_ExchangeChecks_l2) (s,y2)).bind fun s3 =>
    law03_ExchangeChecks_j1 s3
/-- awardingbody awardingbodylaw03.ExchangeBack -/
noncomputable def law03_ExchangeBack (t:List Int) (u:Str):Option Bool :=
  (make_New t).bind fun y =>
  (make_Tape_File y (0:Int)).bind fun (y1,y2) =>
  (exchange_Format y1).bind fun (y3,y4) =>
  (exchange_Parse y3).bind fun (y5,y6) =>
  req (((!((y4 != (0:Int))||(y6 != (0:Int))))=true→(law03_same y1 y5).isSome=true)) <|
  bif (((y4 != (0:Int))||(y6 != (0:Int)))||(!((law03_same y1 y5).getD default))) then
    some false
  else
    bif (decide ((300:Int)<(u.length:Int))) then
      (law03_awake).bind fun y7 =>
      some y7
    else
      (exchange_Parse u).bind fun (y8,y9) =>
      bif (y9 != (0:Int)) then
        (law03_awake).bind fun y10 =>
        some y10
      else
        (exchange_Format y8).bind fun (y11,y12) =>
        req ((((y12==(0:Int))&&(y11==u))=true→(law03_awake).isSome=true)) <|
        some (((y12==(0:Int))&&(y11==u))&&((law03_awake).getD default))
/-- awardingbody awardingbodylaw03.ExchangeDetects -/
noncomputable def law03_ExchangeDetects (t:List Int) (at_:Int) (by_:Int):Option Bool :=
  (make_New t).bind fun y =>
  (make_Tape_File y (0:Int)).bind fun (y1,y2) =>
  (exchange_Format y1).bind fun (y3,y4) =>
  bif ((y4 != (0:Int))||((y3.length:Int)==(0:Int))) then
    some false
  else
    (make_Cut at_ (y3.length:Int)).bind fun y5 =>
    req ((0≤y5∧y5<(y3.length:Int))) <|
    bif ((sx y3 y5)==by_) then
      (law03_awake).bind fun y6 =>
      some y6
    else
      req ((0≤y5∧y5≤(y3.length:Int))∧(List.take y5.toNat y3).length+(strOf ([by_])).length≤140737488355328∧(0≤(IntKind.i64.wrap (y5+(1:Int)))∧(IntKind.i64.wrap (y5+(1:Int)))≤(y3.length:Int))∧((List.take y5.toNat y3) ++ (strOf ([by_]))).length+(List.drop (IntKind.i64.wrap (y5+(1:Int))).toNat y3).length≤140737488355328) <|
      (exchange_Parse (((List.take y5.toNat y3) ++ (strOf ([by_]))) ++ (List.drop (IntKind.i64.wrap (y5+(1:Int))).toNat y3))).bind fun (y7,y8) =>
      req (((y8 != (0:Int))=true→(law03_awake).isSome=true)) <|
      some ((y8 != (0:Int))&&((law03_awake).getD default))
/-- awardingbody awardingbodylaw03.ExchangeSwaps -/
noncomputable def law03_ExchangeSwaps (t:List Int) (at_:Int):Option Bool :=
  (make_New t).bind fun y =>
  (make_Tape_File y (0:Int)).bind fun (y1,y2) =>
  (exchange_Format y1).bind fun (y3,y4) =>
  bif ((y4 != (0:Int))||(decide ((y3.length:Int)<(2:Int)))) then
    some false
  else
    (make_Cut at_ (IntKind.i64.wrap ((y3.length:Int)-(1:Int)))).bind fun y5 =>
    req ((0≤y5∧y5<(y3.length:Int))∧(0≤(IntKind.i64.wrap (y5+(1:Int)))∧(IntKind.i64.wrap (y5+(1:Int)))<(y3.length:Int))) <|
    bif ((sx y3 y5)==(sx y3 (IntKind.i64.wrap (y5+(1:Int))))) then
      (law03_awake).bind fun y6 =>
      some y6
    else
      req ((0≤y5∧y5≤(y3.length:Int))∧(0≤(IntKind.i64.wrap (y5+(1:Int)))∧0≤(IntKind.i64.wrap (y5+(2:Int)))∧(IntKind.i64.wrap (y5+(2:Int)))≤(y3.length:Int)∧(IntKind.i64.wrap (y5+(1:Int)))≤(IntKind.i64.wrap (y5+(2:Int))))∧(List.take y5.toNat y3).length+(List.drop (IntKind.i64.wrap (y5+(1:Int))).toNat (List.take (IntKind.i64.wrap (y5+(2:Int))).toNat y3)).length≤140737488355328∧(0≤y5∧0≤(IntKind.i64.wrap (y5+(1:Int)))∧(IntKind.i64.wrap (y5+(1:Int)))≤(y3.length:Int)∧y5≤(IntKind.i64.wrap (y5+(1:Int))))∧((List.take y5.toNat y3) ++ (List.drop (IntKind.i64.wrap (y5+(1:Int))).toNat (List.take (IntKind.i64.wrap (y5+(2:Int))).toNat y3))).length+(List.drop y5.toNat (List.take (IntKind.i64.wrap (y5+(1:Int))).toNat y3)).length≤140737488355328∧(0≤(IntKind.i64.wrap (y5+(2:Int)))∧(IntKind.i64.wrap (y5+(2:Int)))≤(y3.length:Int))∧(((List.take y5.toNat y3) ++ (List.drop (IntKind.i64.wrap (y5+(1:Int))).toNat (List.take (IntKind.i64.wrap (y5+(2:Int))).toNat y3))) ++ (List.drop y5.toNat (List.take (IntKind.i64.wrap (y5+(1:Int))).toNat y3))).length+(List.drop (IntKind.i64.wrap (y5+(2:Int))).toNat y3).length≤140737488355328) <|
      (exchange_Parse ((((List.take y5.toNat y3) ++ (List.drop (IntKind.i64.wrap (y5+(1:Int))).toNat (List.take (IntKind.i64.wrap (y5+(2:Int))).toNat y3))) ++ (List.drop y5.toNat (List.take (IntKind.i64.wrap (y5+(1:Int))).toNat y3))) ++ (List.drop (IntKind.i64.wrap (y5+(2:Int))).toNat y3))).bind fun (y7,y8) =>
      req (((y8 != (0:Int))=true→(law03_awake).isSome=true)) <|
      some ((y8 != (0:Int))&&((law03_awake).getD default))
/-- awardingbody awardingbodylaw03.files -/
noncomputable def law03_files_j1 (s1:List Int) (s2:Int) (out:List api_File):Option ((List api_File) × make_Tape) :=
  some (out,(make_Tape.mk s1 s2))
noncomputable def law03_files_l2 :(Int × (List Int) × Int × (List api_File))→Option ((Int × (List Int) × Int × (List api_File)) ⊕ ((List Int) × Int × (List api_File))) :=
  fun (i,s3,s4,out1) =>
    bif (decide ((0:Int)<i)) then
      (make_Tape_File (make_Tape.mk s3 s4) (8:Int)).bind fun (y2,y3) =>
      req ((out1.length+([y2]).length)*56≤140737488355328) <|
      some (.inl ((IntKind.i64.wrap (i-(1:Int))),y3.L,y3.At,(out1 ++ [y2])))
    else
      some (.inr (s3,s4,out1))
noncomputable def law03_files (s:make_Tape):Option ((List api_File) × make_Tape) :=
  (make_Tape_Range s (0:Int) (8:Int)).bind fun (y,y1) =>
  (iter (law03_files_l2) (y,y1.L,y1.At,([]:List api_File))).bind fun (s5,s6,out2) =>
  law03_files_j1 s5 s6 out2
/-- awardingbody awardingbodylaw03.ints -/
noncomputable def law03_ints_j1 :Option Bool :=
  some true
noncomputable def law03_ints_l2 (a:List Int) (b:List Int):Int→Option (Int ⊕ (Unit ⊕ Bool)) :=
  fun i =>
    bif (decide (i<(a.length:Int))) then
      req ((0≤i∧i<(a.length:Int))∧(0≤i∧i<(b.length:Int))) <|
      bif ((ix a i) != (ix b i)) then
        some (.inr (.inr false))
      else
        some (.inl (IntKind.i64.wrap (i+(1:Int))))
    else
      some (.inr (.inl ()))
noncomputable def law03_ints (a:List Int) (b:List Int):Option Bool :=
  bif ((a.length:Int) != (b.length:Int)) then
    some false
  else
    (iter (law03_ints_l2 a b) (0:Int)).bind fun x_ =>
    match x_ with
    | .inl () => law03_ints_j1
    | .inr t_ => some t_
/-- awardingbody exchange.Gaps -/
noncomputable def exchange_Gaps_j1 (gaps:List Int):Option (List Int) :=
  some gaps
noncomputable def exchange_Gaps_j2 (n:Int) (gaps3:List Int):Option ((Int × (List Int)) ⊕ (List Int)) :=
  some (.inl ((IntKind.i64.wrap (n+(1:Int))),gaps3))
noncomputable def exchange_Gaps_l3 (greatest:Int) (w:List Bool):(Int × (List Int))→Option ((Int × (List Int)) ⊕ (List Int)) :=
  fun (n,gaps1) =>
    bif (decide (n≤greatest)) then
      req ((0≤n∧n<(w.length:Int))) <|
      bif (!(ix w n)) then
        req ((gaps1.length+([n]).length)*8≤140737488355328) <|
        exchange_Gaps_j2 n (gaps1 ++ [n])
      else
        exchange_Gaps_j2 n gaps1
    else
      some (.inr gaps1)
noncomputable def exchange_Gaps_j4 (greatest:Int) (w:List Bool):Option (List Int) :=
  (iter (exchange_Gaps_l3 greatest w) ((0:Int),([]:List Int))).bind fun gaps2 =>
  exchange_Gaps_j1 gaps2
noncomputable def exchange_Gaps_j5 (v:Int) (greatest3:Int) (w3:List Bool):Option ((Int × Int × (List Bool)) ⊕ (Int × (List Bool))) :=
  some (.inl (greatest3,(IntKind.i64.wrap (v+(1:Int))),w3))
noncomputable def exchange_Gaps_l6 (l:List api_File) (source:Int):(Int × Int × (List Bool))→Option ((Int × Int × (List Bool)) ⊕ (Int × (List Bool))) :=
  fun (greatest1,v,w1) =>
    bif (decide (v<(l.length:Int))) then
      req ((0≤v∧v<(l.length:Int))) <|
      req ((((ix l v).Source==source)=true→(exchange_Valid (ix l v)).isSome=true)) <|
      bif (((ix l v).Source==source)&&((exchange_Valid (ix l v)).getD default)) then
        req ((0≤(ix l v).Number∧(ix l v).Number<(w1.length:Int))) <|
        exchange_Gaps_j5 v (imax greatest1 ((ix l v).Number)) (setI w1 ((ix l v).Number) true)
      else
        exchange_Gaps_j5 v greatest1 w1
    else
      some (.inr (greatest1,w1))
noncomputable def exchange_Gaps (l:List api_File) (source:Int):Option (List Int) :=
  req ((0≤(10000:Int)∧(10000:Int)*1≤140737488355328)) <|
  (iter (exchange_Gaps_l6 l source) ((-1:Int),(0:Int),(rep (10000:Int) false))).bind fun (greatest2,w2) =>
  exchange_Gaps_j4 greatest2 w2
/-- awardingbody awardingbodyref03.Gaps -/
noncomputable def ref03_Gaps_j1 (out:List Int):Option (List Int) :=
  some out
noncomputable def ref03_Gaps_j2 (i:Int) (out3:List Int):Option ((Int × (List Int)) ⊕ (List Int)) :=
  some (.inl ((IntKind.i64.wrap (i+(1:Int))),out3))
noncomputable def ref03_Gaps_l3 (w:List Bool):(Int × (List Int))→Option ((Int × (List Int)) ⊕ (List Int)) :=
  fun (i,out1) =>
    bif (decide (i<(w.length:Int))) then
      req ((0≤i∧i<(w.length:Int))) <|
      bif (!(ix w i)) then
        req ((out1.length+([i]).length)*8≤140737488355328) <|
        ref03_Gaps_j2 i (out1 ++ [i])
      else
        ref03_Gaps_j2 i out1
    else
      some (.inr out1)
noncomputable def ref03_Gaps_j4 (w:List Bool):Option (List Int) :=
  (iter (ref03_Gaps_l3 w) ((0:Int),([]:List Int))).bind fun out2 =>
  ref03_Gaps_j1 out2
noncomputable def ref03_Gaps_j5 (i1:Int) (w3:List Bool):Option ((Int × (List Bool)) ⊕ (List Bool)) :=
  some (.inl ((IntKind.i64.wrap (i1+(1:Int))),w3))
noncomputable def ref03_Gaps_l6 (l:List api_File) (source:Int):(Int × (List Bool))→Option ((Int × (List Bool)) ⊕ (List Bool)) :=
  fun (i1,w1) =>
    bif (decide (i1<(l.length:Int))) then
      req ((0≤i1∧i1<(l.length:Int))) <|
      (ref03_Valid (ix l i1)).bind fun y =>
      req ((y=true→0≤i1∧i1<(l.length:Int))) <|
      bif (y&&((ix l i1).Source==source)) then
        req ((0≤i1∧i1<(l.length:Int))∧(0≤(ix l i1).Number∧(ix l i1).Number<(w1.length:Int))) <|
        ref03_Gaps_j5 i1 (setI w1 ((ix l i1).Number) true)
      else
        ref03_Gaps_j5 i1 w1
    else
      some (.inr w1)
noncomputable def ref03_Gaps_j7 (l:List api_File) (source:Int) (greatest:Int):Option (List Int) :=
  req ((0≤(IntKind.i64.wrap (greatest+(1:Int)))∧(IntKind.i64.wrap (greatest+(1:Int)))*1≤140737488355328)) <|
  (iter (ref03_Gaps_l6 l source) ((0:Int),(rep (IntKind.i64.wrap (greatest+(1:Int))) false))).bind fun w2 =>
  ref03_Gaps_j4 w2
noncomputable def ref03_Gaps_j8 (i2:Int) (greatest3:Int):Option ((Int × Int) ⊕ Int) :=
  some (.inl (greatest3,(IntKind.i64.wrap (i2+(1:Int)))))
noncomputable def ref03_Gaps_l9 (l:List api_File) (source:Int):(Int × Int)→Option ((Int × Int) ⊕ Int) :=
  fun (greatest1,i2) =>
    bif (decide (i2<(l.length:Int))) then
      req ((0≤i2∧i2<(l.length:Int))) <|
      (ref03_Valid (ix l i2)).bind fun y1 =>
      req ((y1=true→0≤i2∧i2<(l.length:Int))) <|
      bif (y1&&((ix l i2).Source==source)) then
        req ((0≤i2∧i2<(l.length:Int))) <|
        ref03_Gaps_j8 i2 (imax greatest1 ((ix l i2).Number))
      else
        ref03_Gaps_j8 i2 greatest1
    else
      some (.inr greatest1)
noncomputable def ref03_Gaps (l:List api_File) (source:Int):Option (List Int) :=
  (iter (ref03_Gaps_l9 l source) ((-1:Int),(0:Int))).bind fun greatest2 =>
  ref03_Gaps_j7 l source greatest2
/-- awardingbody awardingbodylaw03.ExchangeGaps -/
noncomputable def law03_ExchangeGaps (t:List Int) (source:Int):Option Bool :=
  (make_New t).bind fun y =>
  (law03_files y).bind fun (y1,y2) =>
  (make_Tape_Range y2 (0:Int) (3:Int)).bind fun (y3,y4) =>
  (exchange_Gaps y1 source).bind fun y5 =>
  (ref03_Gaps y1 source).bind fun y6 =>
  (law03_ints y5 y6).bind fun y7 =>
  req ((y7=true→(exchange_Gaps y1 y3).isSome=true)∧(y7=true→(ref03_Gaps y1 y3).isSome=true)∧(y7=true→(law03_ints ((exchange_Gaps y1 y3).getD default) ((ref03_Gaps y1 y3).getD default)).isSome=true)∧((y7&&((law03_ints ((exchange_Gaps y1 y3).getD default) ((ref03_Gaps y1 y3).getD default)).getD default))=true→(law03_awake).isSome=true)) <|
  some ((y7&&((law03_ints ((exchange_Gaps y1 y3).getD default) ((ref03_Gaps y1 y3).getD default)).getD default))&&((law03_awake).getD default))
end Go.LS
