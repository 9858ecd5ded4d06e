/-
  Plain functions that the program's functions compute. No condition: definitions, printed by dec.py.
-/
import Derived.Test.YtdlmgokicfoidaaDoorGD0
namespace Go.LS
set_option linter.all false
set_option linter.unusedSimpArgs false
set_option linter.unusedVariables false
set_option maxRecDepth 20000

/-- awardingbody awardingbodymake.New -/
noncomputable def make_New_j1 (l1:List Int):Option make_Tape :=
  some (make_Tape.mk l1 (0:Int))
noncomputable def make_New (l:List Int):Option make_Tape :=
  bif (decide ((600:Int)<(l.length:Int))) then
    req ((0≤(600:Int)∧(600:Int)≤(l.length:Int))) <|
    make_New_j1 (List.take (600:Int).toNat l)
  else
    make_New_j1 l
/-- awardingbody exchange.validHead -/
noncomputable def exchange_validHead_j1 (source:Int) (number:Int):Option Bool :=
  some ((((decide ((0:Int)≤source))&&(decide (source≤(99:Int))))&&(decide ((0:Int)≤number)))&&(decide (number≤(9999:Int))))
noncomputable def exchange_validHead_l2 (kind:Str):Int→Option (Int ⊕ (Unit ⊕ Bool)) :=
  fun i =>
    bif (decide (i<(kind.length:Int))) then
      req ((0≤i∧i<(kind.length:Int))∧((!(decide ((sx kind i)<(65:Int))))=true→0≤i∧i<(kind.length:Int))) <|
      bif ((decide ((sx kind i)<(65:Int)))||(decide ((90:Int)<(sx kind i)))) then
        some (.inr (.inr false))
      else
        some (.inl (IntKind.i64.wrap (i+(1:Int))))
    else
      some (.inr (.inl ()))
noncomputable def exchange_validHead (kind:Str) (source:Int) (number:Int):Option Bool :=
  bif ((decide ((kind.length:Int)<(1:Int)))||(decide ((8:Int)<(kind.length:Int)))) then
    some false
  else
    (iter (exchange_validHead_l2 kind) (0:Int)).bind fun x_ =>
    match x_ with
    | .inl () => exchange_validHead_j1 source number
    | .inr t_ => some t_
/-- awardingbody exchange.validField -/
noncomputable def exchange_validField_j1 :Option Bool :=
  some true
noncomputable def exchange_validField_l2 (field:Str):Int→Option (Int ⊕ (Unit ⊕ Bool)) :=
  fun i =>
    bif (decide (i<(field.length:Int))) then
      req ((0≤i∧i<(field.length:Int))) <|
      bif (((sx field i) != (10:Int))&&((decide ((sx field i)<(32:Int)))||(decide ((126:Int)<(sx field i))))) then
        some (.inr (.inr false))
      else
        some (.inl (IntKind.i64.wrap (i+(1:Int))))
    else
      some (.inr (.inl ()))
noncomputable def exchange_validField (field:Str):Option Bool :=
  bif (decide ((40:Int)<(field.length:Int))) then
    some false
  else
    (iter (exchange_validField_l2 field) (0:Int)).bind fun x_ =>
    match x_ with
    | .inl () => exchange_validField_j1
    | .inr t_ => some t_
/-- awardingbody exchange.Valid -/
noncomputable def exchange_Valid_j1 :Option Bool :=
  some true
noncomputable def exchange_Valid_j2 (v:Int):Option (Int ⊕ (Unit ⊕ Bool)) :=
  some (.inl (IntKind.i64.wrap (v+(1:Int))))
noncomputable def exchange_Valid_l3 (f:api_File) (v:Int):Int→Option (Int ⊕ (Unit ⊕ (Int ⊕ (Unit ⊕ Bool)))) :=
  fun v1 =>
    bif (decide (v1<((ix f.Rows v).length:Int))) then
      req ((0≤v1∧v1<((ix f.Rows v).length:Int))) <|
      (exchange_validField (ix (ix f.Rows v) v1)).bind fun y1 =>
      bif (!y1) then
        some (.inr (.inr (.inr (.inr false))))
      else
        some (.inl (IntKind.i64.wrap (v1+(1:Int))))
    else
      some (.inr (.inl ()))
noncomputable def exchange_Valid_l4 (f:api_File):Int→Option (Int ⊕ (Unit ⊕ Bool)) :=
  fun v =>
    bif (decide (v<(f.Rows.length:Int))) then
      req ((0≤v∧v<(f.Rows.length:Int))) <|
      bif ((decide (((ix f.Rows v).length:Int)<(1:Int)))||(decide ((8:Int)<((ix f.Rows v).length:Int)))) then
        some (.inr (.inr false))
      else
        (iter (exchange_Valid_l3 f v) (0:Int)).bind fun x_ =>
        match x_ with
        | .inl () => exchange_Valid_j2 v
        | .inr t_ => some t_
    else
      some (.inr (.inl ()))
noncomputable def exchange_Valid (f:api_File):Option Bool :=
  (exchange_validHead f.Kind f.Source f.Number).bind fun y =>
  bif ((!y)||(decide ((40:Int)<(f.Rows.length:Int)))) then
    some false
  else
    (iter (exchange_Valid_l4 f) (0:Int)).bind fun x_ =>
    match x_ with
    | .inl () => exchange_Valid_j1
    | .inr t_ => some t_
/-- awardingbody exchange.Check -/
noncomputable def exchange_Check_j1 (sum:Int):Option Int :=
  some sum
noncomputable def exchange_Check_l2 (s:Str):(Int × Int)→Option ((Int × Int) ⊕ Int) :=
  fun (sum1,i) =>
    bif (decide (i<(s.length:Int))) then
      req ((0≤i∧i<(s.length:Int))) <|
      bindV (Int.tmod (IntKind.i64.wrap (sum1+(IntKind.i64.wrap ((IntKind.i64.wrap ((Int.tmod i (251:Int))+(1:Int)))*(IntKind.i64.wrap (sx s i)))))) (9973:Int)) fun sum3 =>
      some (.inl (sum3,(IntKind.i64.wrap (i+(1:Int)))))
    else
      some (.inr sum1)
noncomputable def exchange_Check (s:Str):Option Int :=
  (iter (exchange_Check_l2 s) ((0:Int),(0:Int))).bind fun sum2 =>
  exchange_Check_j1 sum2
/-- awardingbody exchange.Format -/
noncomputable def exchange_Format (f:api_File):Option (Str × Int) :=
  req (f.Kind.length≤1000∧(-9223372036854775808≤f.Source∧f.Source≤9223372036854775807)∧(-9223372036854775808≤f.Number∧f.Number≤9223372036854775807)∧f.Rows.length≤1000∧(∀ r ∈ f.Rows,r.length≤1000)∧(∀ r ∈ f.Rows,∀ x ∈ r,x.length≤1000)) <|
  (exchange_Valid f).bind fun y =>
  (exchange_Check (Go.Proofs.bodyT f.Kind f.Source f.Number f.Rows)).bind fun y1 =>
  req (-9223372036854775808≤y1∧y1≤9223372036854775807) <|
  some (if y=false then ([],1) else if 8192<(Go.Proofs.fullT f.Kind f.Source f.Number f.Rows y1).length then ([],3) else (Go.Proofs.fullT f.Kind f.Source f.Number f.Rows y1,0))
/-- awardingbody exchange.numberOf -/
noncomputable def exchange_numberOf_j1 (n:Int):Option (Int × Bool) :=
  some (n,true)
noncomputable def exchange_numberOf_l2 (text:Str):(Int × Int)→Option ((Int × Int) ⊕ (Int ⊕ (Int × Bool))) :=
  fun (n1,i) =>
    bif (decide (i<(text.length:Int))) then
      req ((0≤i∧i<(text.length:Int))∧((!(decide ((sx text i)<(48:Int))))=true→0≤i∧i<(text.length:Int))) <|
      bif ((decide ((sx text i)<(48:Int)))||(decide ((57:Int)<(sx text i)))) then
        some (.inr (.inr ((0:Int),false)))
      else
        req ((0≤i∧i<(text.length:Int))) <|
        bindV (IntKind.i64.wrap ((IntKind.i64.wrap (n1*(10:Int)))+(IntKind.i64.wrap (IntKind.u8.wrap ((sx text i)-(48:Int)))))) fun n3 =>
        some (.inl (n3,(IntKind.i64.wrap (i+(1:Int)))))
    else
      some (.inr (.inl n1))
noncomputable def exchange_numberOf (text:Str):Option (Int × Bool) :=
  req ((((!((decide ((text.length:Int)<(1:Int)))||(decide ((4:Int)<(text.length:Int)))))&&(decide ((1:Int)<(text.length:Int))))=true→0≤(0:Int)∧(0:Int)<(text.length:Int))) <|
  bif (((decide ((text.length:Int)<(1:Int)))||(decide ((4:Int)<(text.length:Int))))||((decide ((1:Int)<(text.length:Int)))&&((sx text (0:Int))==(48:Int)))) then
    some ((0:Int),false)
  else
    (iter (exchange_numberOf_l2 text) ((0:Int),(0:Int))).bind fun x_ =>
    match x_ with
    | .inl n2 => exchange_numberOf_j1 n2
    | .inr t_ => some t_
/-- awardingbody exchange.header -/
noncomputable def exchange_header (line:Str):Option (api_File × Bool) :=
  (strings_Split line ([124]:Str)).bind fun y =>
  req (((!((y.length:Int) != (4:Int)))=true→0≤(0:Int)∧(0:Int)<(y.length:Int))) <|
  bif (((y.length:Int) != (4:Int))||(!((ix y (0:Int))==([70,73,76,69]:Str)))) then
    some ((api_File.mk ([]:Str) (0:Int) (0:Int) ([]:List (List Str))),false)
  else
    req ((0≤(2:Int)∧(2:Int)<(y.length:Int))) <|
    (exchange_numberOf (ix y (2:Int))).bind fun (y1,y2) =>
    bif (!y2) then
      some ((api_File.mk ([]:Str) (0:Int) (0:Int) ([]:List (List Str))),false)
    else
      req ((0≤(3:Int)∧(3:Int)<(y.length:Int))) <|
      (exchange_numberOf (ix y (3:Int))).bind fun (y3,y4) =>
      req (((!(!y4))=true→0≤(1:Int)∧(1:Int)<(y.length:Int))∧((!(!y4))=true→(exchange_validHead (ix y (1:Int)) y1 y3).isSome=true)) <|
      bif ((!y4)||(!((exchange_validHead (ix y (1:Int)) y1 y3).getD default))) then
        some ((api_File.mk ([]:Str) (0:Int) (0:Int) ([]:List (List Str))),false)
      else
        req ((0≤(1:Int)∧(1:Int)<(y.length:Int))) <|
        some ((api_File.mk (ix y (1:Int)) y1 y3 ([]:List (List Str))),true)
/-- awardingbody exchange.trailer -/
noncomputable def exchange_trailer (line:Str):Option (Int × Int × Bool) :=
  (strings_Split line ([124]:Str)).bind fun y =>
  req (((!((y.length:Int) != (3:Int)))=true→0≤(0:Int)∧(0:Int)<(y.length:Int))) <|
  bif (((y.length:Int) != (3:Int))||(!((ix y (0:Int))==([69,78,68]:Str)))) then
    some ((0:Int),(0:Int),false)
  else
    req ((0≤(1:Int)∧(1:Int)<(y.length:Int))) <|
    (exchange_numberOf (ix y (1:Int))).bind fun (y1,y2) =>
    bif (!y2) then
      some ((0:Int),(0:Int),false)
    else
      req ((0≤(2:Int)∧(2:Int)<(y.length:Int))) <|
      (exchange_numberOf (ix y (2:Int))).bind fun (y3,y4) =>
      some (y1,y3,y4)
/-- awardingbody exchange.fieldsOf -/
noncomputable def exchange_fieldsOf_j1 (row:List Str):Option ((List Str) × Bool) :=
  some (row,true)
noncomputable def exchange_fieldsOf_l2 (y:List Str):(Int × (List Str))→Option ((Int × (List Str)) ⊕ ((List Str) ⊕ ((List Str) × Bool))) :=
  fun (v,row1) =>
    bif (decide (v<((List.drop (1:Int).toNat y).length:Int))) then
      req ((0≤v∧v<((List.drop (1:Int).toNat y).length:Int))) <|
      (exchange_unescape (ix (List.drop (1:Int).toNat y) v)).bind fun (y1,y2) =>
      req (((!(!y2))=true→(exchange_validField y1).isSome=true)) <|
      bif ((!y2)||(!((exchange_validField y1).getD default))) then
        some (.inr (.inr (([]:List Str),false)))
      else
        req ((row1.length+([y1]).length)*16≤140737488355328) <|
        some (.inl ((IntKind.i64.wrap (v+(1:Int))),(row1 ++ [y1])))
    else
      some (.inr (.inl row1))
noncomputable def exchange_fieldsOf (line:Str):Option ((List Str) × Bool) :=
  (strings_Split line ([124]:Str)).bind fun y =>
  req ((0≤(0:Int)∧(0:Int)<(y.length:Int))) <|
  bif (((!((ix y (0:Int))==([82,79,87]:Str)))||(decide ((y.length:Int)<(2:Int))))||(decide ((8:Int)<(IntKind.i64.wrap ((y.length:Int)-(1:Int)))))) then
    some (([]:List Str),false)
  else
    req ((0≤(1:Int)∧(1:Int)≤(y.length:Int))) <|
    (iter (exchange_fieldsOf_l2 y) ((0:Int),([]:List Str))).bind fun x_ =>
    match x_ with
    | .inl row2 => exchange_fieldsOf_j1 row2
    | .inr t_ => some t_
/-- awardingbody exchange.Parse -/
noncomputable def exchange_Parse_j1 (s:Str) (all:List Str) (y:api_File) (y2:Int) (y3:Int) (w:List (List Str)):Option (api_File × Int) :=
  bif ((y2 != (w.length:Int))||(decide ((40:Int)<(w.length:Int)))) then
    some ((api_File.mk ([]:Str) (0:Int) (0:Int) ([]:List (List Str))),(22:Int))
  else
    req ((0≤(IntKind.i64.wrap ((IntKind.i64.wrap ((s.length:Int)-((ix all (IntKind.i64.wrap ((all.length:Int)-(1:Int)))).length:Int)))-(1:Int)))∧(IntKind.i64.wrap ((IntKind.i64.wrap ((s.length:Int)-((ix all (IntKind.i64.wrap ((all.length:Int)-(1:Int)))).length:Int)))-(1:Int)))≤(s.length:Int))) <|
    (exchange_Check (List.take (IntKind.i64.wrap ((IntKind.i64.wrap ((s.length:Int)-((ix all (IntKind.i64.wrap ((all.length:Int)-(1:Int)))).length:Int)))-(1:Int))).toNat s)).bind fun y5 =>
    bif (y3 != y5) then
      some ((api_File.mk ([]:Str) (0:Int) (0:Int) ([]:List (List Str))),(23:Int))
    else
      some ((api_File.mk y.Kind y.Source y.Number w),(0:Int))
noncomputable def exchange_Parse_l2 (v:List Str):(Int × (List (List Str)))→Option ((Int × (List (List Str))) ⊕ ((List (List Str)) ⊕ (api_File × Int))) :=
  fun (v1,w1) =>
    bif (decide (v1<(v.length:Int))) then
      req ((0≤v1∧v1<(v.length:Int))) <|
      (exchange_fieldsOf (ix v v1)).bind fun (y6,y7) =>
      bif (!y7) then
        some (.inr (.inr ((api_File.mk ([]:Str) (0:Int) (0:Int) ([]:List (List Str))),(7:Int))))
      else
        req ((w1.length+([y6]).length)*24≤140737488355328) <|
        some (.inl ((IntKind.i64.wrap (v1+(1:Int))),(w1 ++ [y6])))
    else
      some (.inr (.inl w1))
noncomputable def exchange_Parse (s:Str):Option (api_File × Int) :=
  bif (decide ((8192:Int)<(s.length:Int))) then
    some ((api_File.mk ([]:Str) (0:Int) (0:Int) ([]:List (List Str))),(3:Int))
  else
    req (((!((s.length:Int)==(0:Int)))=true→0≤(IntKind.i64.wrap ((s.length:Int)-(1:Int)))∧(IntKind.i64.wrap ((s.length:Int)-(1:Int)))<(s.length:Int))) <|
    bif (((s.length:Int)==(0:Int))||((sx s (IntKind.i64.wrap ((s.length:Int)-(1:Int)))) != (10:Int))) then
      some ((api_File.mk ([]:Str) (0:Int) (0:Int) ([]:List (List Str))),(7:Int))
    else
      req (s.length≤100000) <|
      bindV (Go.Proofs.linesL s) fun all =>
      bif (decide ((all.length:Int)<(2:Int))) then
        some ((api_File.mk ([]:Str) (0:Int) (0:Int) ([]:List (List Str))),(7:Int))
      else
        req ((0≤(0:Int)∧(0:Int)<(all.length:Int))) <|
        (exchange_header (ix all (0:Int))).bind fun (y,y1) =>
        bif (!y1) then
          some ((api_File.mk ([]:Str) (0:Int) (0:Int) ([]:List (List Str))),(20:Int))
        else
          req ((0≤(IntKind.i64.wrap ((all.length:Int)-(1:Int)))∧(IntKind.i64.wrap ((all.length:Int)-(1:Int)))<(all.length:Int))) <|
          (exchange_trailer (ix all (IntKind.i64.wrap ((all.length:Int)-(1:Int))))).bind fun (y2,y3,y4) =>
          bif (!y4) then
            some ((api_File.mk ([]:Str) (0:Int) (0:Int) ([]:List (List Str))),(21:Int))
          else
            req ((0≤(1:Int)∧0≤(IntKind.i64.wrap ((all.length:Int)-(1:Int)))∧(IntKind.i64.wrap ((all.length:Int)-(1:Int)))≤(all.length:Int)∧(1:Int)≤(IntKind.i64.wrap ((all.length:Int)-(1:Int))))) <|
            bindV (List.drop (1:Int).toNat (List.take (IntKind.i64.wrap ((all.length:Int)-(1:Int))).toNat all)) fun v =>
            (iter (exchange_Parse_l2 v) ((0:Int),([]:List (List Str)))).bind fun x_ =>
            match x_ with
            | .inl w2 => exchange_Parse_j1 s all y y2 y3 w2
            | .inr t_ => some t_
/-- awardingbody awardingbodylaw03.same -/
noncomputable def law03_same_j1 :Option Bool :=
  some true
noncomputable def law03_same_j2 (i:Int):Option (Int ⊕ (Unit ⊕ Bool)) :=
  some (.inl (IntKind.i64.wrap (i+(1:Int))))
noncomputable def law03_same_l3 (a:api_File) (b:api_File) (i:Int):Int→Option (Int ⊕ (Unit ⊕ (Int ⊕ (Unit ⊕ Bool)))) :=
  fun k =>
    req ((0≤i∧i<(a.Rows.length:Int))) <|
    bif (decide (k<((ix a.Rows i).length:Int))) then
      req ((0≤i∧i<(a.Rows.length:Int))∧(0≤k∧k<((ix a.Rows i).length:Int))∧(0≤i∧i<(b.Rows.length:Int))∧(0≤k∧k<((ix b.Rows i).length:Int))) <|
      bif (!((ix (ix a.Rows i) k)==(ix (ix b.Rows i) k))) then
        some (.inr (.inr (.inr (.inr false))))
      else
        some (.inl (IntKind.i64.wrap (k+(1:Int))))
    else
      some (.inr (.inl ()))
noncomputable def law03_same_l4 (a:api_File) (b:api_File):Int→Option (Int ⊕ (Unit ⊕ Bool)) :=
  fun i =>
    bif (decide (i<(a.Rows.length:Int))) then
      req ((0≤i∧i<(a.Rows.length:Int))∧(0≤i∧i<(b.Rows.length:Int))) <|
      bif (((ix a.Rows i).length:Int) != ((ix b.Rows i).length:Int)) then
        some (.inr (.inr false))
      else
        (iter (law03_same_l3 a b i) (0:Int)).bind fun x_ =>
        match x_ with
        | .inl () => law03_same_j2 i
        | .inr t_ => some t_
    else
      some (.inr (.inl ()))
noncomputable def law03_same (a:api_File) (b:api_File):Option Bool :=
  bif ((((!(a.Kind==b.Kind))||(a.Source != b.Source))||(a.Number != b.Number))||((a.Rows.length:Int) != (b.Rows.length:Int))) then
    some false
  else
    (iter (law03_same_l4 a b) (0:Int)).bind fun x_ =>
    match x_ with
    | .inl () => law03_same_j1
    | .inr t_ => some t_
/-- awardingbody awardingbodylaw03.awake -/
noncomputable def law03_awake :Option Bool :=
  (exchange_Format (api_File.mk ([69,78,84,82,89]:Str) (7:Int) (3:Int) ([[([49,50]:Str),([97,124,98]:Str)]]))).bind fun (y,y1) =>
  (exchange_Parse y).bind fun (y2,y3) =>
  req ((((y1==(0:Int))&&(y3==(0:Int)))=true→(law03_same (api_File.mk ([69,78,84,82,89]:Str) (7:Int) (3:Int) ([[([49,50]:Str),([97,124,98]:Str)]])) y2).isSome=true)∧(((((y1==(0:Int))&&(y3==(0:Int)))&&((law03_same (api_File.mk ([69,78,84,82,89]:Str) (7:Int) (3:Int) ([[([49,50]:Str),([97,124,98]:Str)]])) y2).getD default))&&(decide ((30:Int)<(y.length:Int))))=true→0≤(30:Int)∧(30:Int)≤(y.length:Int))) <|
  some (((((y1==(0:Int))&&(y3==(0:Int)))&&((law03_same (api_File.mk ([69,78,84,82,89]:Str) (7:Int) (3:Int) ([[([49,50]:Str),([97,124,98]:Str)]])) y2).getD default))&&(decide ((30:Int)<(y.length:Int))))&&((List.take (30:Int).toNat y)==([70,73,76,69,124,69,78,84,82,89,124,55,124,51,10,82,79,87,124,49,50,124,97,92,112,98,10,69,78,68]:Str)))
/-- awardingbody awardingbodymake.Cut -/
noncomputable def make_Cut_j1 (x1:Int):Option Int :=
  some x1
noncomputable def make_Cut (x:Int) (n:Int):Option Int :=
  bif (decide (n<(1:Int))) then
    some (0:Int)
  else
    req (n ≠ 0) <|
    bif (decide ((Int.tmod x n)<(0:Int))) then
      make_Cut_j1 (IntKind.i64.wrap ((Int.tmod x n)+n))
    else
      make_Cut_j1 (Int.tmod x n)
/-- (ptr awardingbody awardingbodymake.Tape).Raw -/
noncomputable def make_Tape_Raw (t:make_Tape):Option (Int × make_Tape) :=
  bif (decide ((t.L.length:Int)≤t.At)) then
    some ((0:Int),t)
  else
    req ((0≤(IntKind.i64.wrap ((IntKind.i64.wrap (t.At+(1:Int)))-(1:Int)))∧(IntKind.i64.wrap ((IntKind.i64.wrap (t.At+(1:Int)))-(1:Int)))<(t.L.length:Int))) <|
    bindV (ix t.L (IntKind.i64.wrap ((IntKind.i64.wrap (t.At+(1:Int)))-(1:Int)))) fun v =>
    some (v,(make_Tape.mk t.L (IntKind.i64.wrap (t.At+(1:Int)))))
/-- (ptr awardingbody awardingbodymake.Tape).Next -/
noncomputable def make_Tape_Next (t:make_Tape) (n:Int):Option (Int × make_Tape) :=
  (make_Tape_Raw t).bind fun (y,y1) =>
  (make_Cut y n).bind fun y2 =>
  some (y2,y1)
/-- (ptr awardingbody awardingbodymake.Tape).Range -/
noncomputable def make_Tape_Range (t:make_Tape) (low:Int) (high:Int):Option (Int × make_Tape) :=
  (make_Tape_Next t (IntKind.i64.wrap ((IntKind.i64.wrap (high-low))+(1:Int)))).bind fun (y,y1) =>
  some ((IntKind.i64.wrap (low+y)),y1)
/-- (ptr awardingbody awardingbodymake.Tape).Text -/
noncomputable def make_Tape_Text_j1 (s:Str) (t1:List Int) (t2:Int):Option (Str × make_Tape) :=
  some (s,(make_Tape.mk t1 t2))
noncomputable def make_Tape_Text_l2 :(Str × Int × (List Int) × Int)→Option ((Str × Int × (List Int) × Int) ⊕ (Str × (List Int) × Int)) :=
  fun (s1,i,t3,t4) =>
    bif (decide ((0:Int)<i)) then
      (make_Tape_Next (make_Tape.mk t3 t4) (12:Int)).bind fun (y2,y3) =>
      req ((0≤y2∧0≤(IntKind.i64.wrap (y2+(1:Int)))∧(IntKind.i64.wrap (y2+(1:Int)))≤(([97,98,124,92,10,48,90,112,110,69,126,32]:Str).length:Int)∧y2≤(IntKind.i64.wrap (y2+(1:Int))))∧s1.length+(List.drop y2.toNat (List.take (IntKind.i64.wrap (y2+(1:Int))).toNat ([97,98,124,92,10,48,90,112,110,69,126,32]:Str))).length≤140737488355328) <|
      bindV (s1 ++ (List.drop y2.toNat (List.take (IntKind.i64.wrap (y2+(1:Int))).toNat ([97,98,124,92,10,48,90,112,110,69,126,32]:Str)))) fun s3 =>
      some (.inl (s3,(IntKind.i64.wrap (i-(1:Int))),y3.L,y3.At))
    else
      some (.inr (s1,t3,t4))
noncomputable def make_Tape_Text (t:make_Tape) (most:Int):Option (Str × make_Tape) :=
  (make_Tape_Range t (0:Int) most).bind fun (y,y1) =>
  (iter (make_Tape_Text_l2) (([]:Str),y,y1.L,y1.At)).bind fun (s2,t5,t6) =>
  make_Tape_Text_j1 s2 t5 t6
/-- (ptr awardingbody awardingbodymake.Tape).One -/
noncomputable def make_Tape_One (t:make_Tape) (n:Int):Option (Bool × make_Tape) :=
  (make_Tape_Next t n).bind fun (y,y1) =>
  some ((y==(IntKind.i64.wrap (n-(1:Int)))),y1)
/-- (ptr awardingbody awardingbodymake.Tape).Pick -/
noncomputable def make_Tape_Pick (t:make_Tape) (l:List Int):Option (Int × make_Tape) :=
  (make_Tape_Next t (l.length:Int)).bind fun (y,y1) =>
  req ((0≤y∧y<(l.length:Int))) <|
  some ((ix l y),y1)
/-- (ptr awardingbody awardingbodymake.Tape).Wild -/
noncomputable def make_Tape_Wild (t:make_Tape):Option (Int × make_Tape) :=
  (make_Tape_Pick t ([(-1:Int),(0:Int),(1:Int),(2:Int),(31:Int),(32:Int),(99:Int),(100:Int),(200:Int),(201:Int),(9999:Int),(10000:Int),(1000000:Int),(1000001:Int),(1152921504606846976:Int),(1152921504606846977:Int),(-1152921504606846976:Int),(9223372036854775807:Int),(-9223372036854775808:Int)])).bind fun (y,y1) =>
  some (y,y1)
/-- (ptr awardingbody awardingbodymake.Tape).File -/
noncomputable def make_Tape_File_j1 (t3:List Int) (t4:Int) (f1:Str) (f2:Int) (f3:Int) (w1:List (List Str)):Option (api_File × make_Tape) :=
  some ((api_File.mk f1 f2 f3 w1),(make_Tape.mk t3 t4))
noncomputable def make_Tape_File_j2 (n:Int) (y2:Int) (y4:Int) (f:Str) (t1:List Int) (t2:Int) (w:List (List Str)):Option (api_File × make_Tape) :=
  bif (decide ((0:Int)<n)) then
    (make_Tape_One (make_Tape.mk t1 t2) n).bind fun (y6,y7) =>
    bif y6 then
      (make_Tape_Next y7 (5:Int)).bind fun (y8,y9) =>
      bif (y8==(0:Int)) then
        (make_Tape_Next y9 (4:Int)).bind fun (y10,y11) =>
        req ((0≤y10∧y10<(([([]:Str),([101,110,116,114,121]:Str),([84,79,79,76,79,78,71,65,75,73,78,68]:Str),([65,124,66]:Str)]).length:Int))) <|
        bindV (ix ([([]:Str),([101,110,116,114,121]:Str),([84,79,79,76,79,78,71,65,75,73,78,68]:Str),([65,124,66]:Str)]) y10) fun f4 =>
        make_Tape_File_j1 y11.L y11.At f4 y2 y4 w
      else
        bif (y8==(1:Int)) then
          (make_Tape_Wild y9).bind fun (y12,y13) =>
          make_Tape_File_j1 y13.L y13.At f y12 y4 w
        else
          bif (y8==(2:Int)) then
            (make_Tape_Wild y9).bind fun (y14,y15) =>
            make_Tape_File_j1 y15.L y15.At f y2 y14 w
          else
            bif (y8==(3:Int)) then
              req ((w.length+([([]:List Str)]).length)*24≤140737488355328) <|
              make_Tape_File_j1 y9.L y9.At f y2 y4 (w ++ [([]:List Str)])
            else
              req ((w.length+([[([0,255]:Str)]]).length)*24≤140737488355328) <|
              make_Tape_File_j1 y9.L y9.At f y2 y4 (w ++ [[([0,255]:Str)]])
    else
      make_Tape_File_j1 y7.L y7.At f y2 y4 w
  else
    make_Tape_File_j1 t1 t2 f y2 y4 w
noncomputable def make_Tape_File_j3 (i:Int) (t9:List Int) (t10:Int) (w4:List (List Str)):Option ((Int × (List Int) × Int × (List (List Str))) ⊕ ((List Int) × Int × (List (List Str)))) :=
  some (.inl ((IntKind.i64.wrap (i-(1:Int))),t9,t10,w4))
noncomputable def make_Tape_File_j4 (i:Int) (w2:List (List Str)) (t11:List Int) (t12:Int) (row:List Str):Option ((Int × (List Int) × Int × (List (List Str))) ⊕ ((List Int) × Int × (List (List Str)))) :=
  req ((w2.length+([row]).length)*24≤140737488355328) <|
  make_Tape_File_j3 i t11 t12 (w2 ++ [row])
noncomputable def make_Tape_File_l5 :(Int × (List Int) × Int × (List Str))→Option ((Int × (List Int) × Int × (List Str)) ⊕ ((List Int) × Int × (List Str))) :=
  fun (k,t13,t14,row1) =>
    bif (decide ((0:Int)<k)) then
      (make_Tape_Text (make_Tape.mk t13 t14) (6:Int)).bind fun (y20,y21) =>
      req ((row1.length+([y20]).length)*16≤140737488355328) <|
      some (.inl ((IntKind.i64.wrap (k-(1:Int))),y21.L,y21.At,(row1 ++ [y20])))
    else
      some (.inr (t13,t14,row1))
noncomputable def make_Tape_File_l6 :(Int × (List Int) × Int × (List (List Str)))→Option ((Int × (List Int) × Int × (List (List Str))) ⊕ ((List Int) × Int × (List (List Str)))) :=
  fun (i,t5,t6,w2) =>
    bif (decide ((0:Int)<i)) then
      (make_Tape_Range (make_Tape.mk t5 t6) (1:Int) (4:Int)).bind fun (y18,y19) =>
      (iter (make_Tape_File_l5) (y18,y19.L,y19.At,([]:List Str))).bind fun (t15,t16,row2) =>
      make_Tape_File_j4 i w2 t15 t16 row2
    else
      some (.inr (t5,t6,w2))
noncomputable def make_Tape_File (t:make_Tape) (n:Int):Option (api_File × make_Tape) :=
  (make_Tape_Next t (4:Int)).bind fun (y,y1) =>
  req ((0≤y∧y<(([([69,78,84,82,89]:Str),([82,69,71,73,83,84,69,82]:Str),([65]:Str),([77,65,82,75,83]:Str)]).length:Int))) <|
  (make_Tape_Range y1 (0:Int) (3:Int)).bind fun (y2,y3) =>
  (make_Tape_Range y3 (0:Int) (9:Int)).bind fun (y4,y5) =>
  bindV (ix ([([69,78,84,82,89]:Str),([82,69,71,73,83,84,69,82]:Str),([65]:Str),([77,65,82,75,83]:Str)]) y) fun f =>
  (make_Tape_Next y5 (5:Int)).bind fun (y16,y17) =>
  (iter (make_Tape_File_l6) (y16,y17.L,y17.At,([]:List (List Str)))).bind fun (t7,t8,w3) =>
  make_Tape_File_j2 n y2 y4 f t7 t8 w3
/-- awardingbody awardingbodylaw03.files -/
noncomputable def law03_files_j1 (s1:List Int) (s2:Int) (out:List api_File):Option ((List api_File) × make_Tape) :=
  some (out,(make_Tape.mk s1 s2))
noncomputable def law03_files_l2 :(Int × (List Int) × Int × (List api_File))→Option ((Int × (List Int) × Int × (List api_File)) ⊕ ((List Int) × Int × (List api_File))) :=
  fun (i,s3,s4,out1) =>
    bif (decide ((0:Int)<i)) then
      (make_Tape_File (make_Tape.mk s3 s4) (8:Int)).bind fun (y2,y3) =>
      req ((out1.length+([y2]).length)*56≤140737488355328) <|
      some (.inl ((IntKind.i64.wrap (i-(1:Int))),y3.L,y3.At,(out1 ++ [y2])))
    else
      some (.inr (s3,s4,out1))
noncomputable def law03_files (s:make_Tape):Option ((List api_File) × make_Tape) :=
  (make_Tape_Range s (0:Int) (8:Int)).bind fun (y,y1) =>
  (iter (law03_files_l2) (y,y1.L,y1.At,([]:List api_File))).bind fun (s5,s6,out2) =>
  law03_files_j1 s5 s6 out2
/-- awardingbody awardingbodylaw03.ints -/
noncomputable def law03_ints_j1 :Option Bool :=
  some true
noncomputable def law03_ints_l2 (a:List Int) (b:List Int):Int→Option (Int ⊕ (Unit ⊕ Bool)) :=
  fun i =>
    bif (decide (i<(a.length:Int))) then
      req ((0≤i∧i<(a.length:Int))∧(0≤i∧i<(b.length:Int))) <|
      bif ((ix a i) != (ix b i)) then
        some (.inr (.inr false))
      else
        some (.inl (IntKind.i64.wrap (i+(1:Int))))
    else
      some (.inr (.inl ()))
noncomputable def law03_ints (a:List Int) (b:List Int):Option Bool :=
  bif ((a.length:Int) != (b.length:Int)) then
    some false
  else
    (iter (law03_ints_l2 a b) (0:Int)).bind fun x_ =>
    match x_ with
    | .inl () => law03_ints_j1
    | .inr t_ => some t_
/-- awardingbody exchange.Gaps -/
noncomputable def exchange_Gaps_j1 (l:List api_File) (gaps:List Int):Option ((List Int) × (List api_File)) :=
  some (gaps,l)
noncomputable def exchange_Gaps_j2 (n:Int) (gaps3:List Int):Option ((Int × (List Int)) ⊕ (List Int)) :=
  some (.inl ((IntKind.i64.wrap (n+(1:Int))),gaps3))
noncomputable def exchange_Gaps_l3 (greatest:Int) (w:List Bool):(Int × (List Int))→Option ((Int × (List Int)) ⊕ (List Int)) :=
  fun (n,gaps1) =>
    bif (decide (n≤greatest)) then
      req ((0≤n∧n<(w.length:Int))) <|
      bif (!(ix w n)) then
        req ((gaps1.length+([n]).length)*8≤140737488355328) <|
        exchange_Gaps_j2 n (gaps1 ++ [n])
      else
        exchange_Gaps_j2 n gaps1
    else
      some (.inr gaps1)
noncomputable def exchange_Gaps_j4 (l:List api_File) (greatest:Int) (w:List Bool):Option ((List Int) × (List api_File)) :=
  (iter (exchange_Gaps_l3 greatest w) ((0:Int),([]:List Int))).bind fun gaps2 =>
  exchange_Gaps_j1 l gaps2
noncomputable def exchange_Gaps_j5 (v:Int) (greatest3:Int) (w3:List Bool):Option ((Int × Int × (List Bool)) ⊕ (Int × (List Bool))) :=
  some (.inl (greatest3,(IntKind.i64.wrap (v+(1:Int))),w3))
noncomputable def exchange_Gaps_l6 (l:List api_File) (source:Int):(Int × Int × (List Bool))→Option ((Int × Int × (List Bool)) ⊕ (Int × (List Bool))) :=
  fun (greatest1,v,w1) =>
    bif (decide (v<(l.length:Int))) then
      req ((0≤v∧v<(l.length:Int))) <|
      req ((((ix l v).Source==source)=true→(exchange_Valid (ix l v)).isSome=true)) <|
      bif (((ix l v).Source==source)&&((exchange_Valid (ix l v)).getD default)) then
        req ((0≤(ix l v).Number∧(ix l v).Number<(w1.length:Int))) <|
        exchange_Gaps_j5 v (imax greatest1 ((ix l v).Number)) (setI w1 ((ix l v).Number) true)
      else
        exchange_Gaps_j5 v greatest1 w1
    else
      some (.inr (greatest1,w1))
noncomputable def exchange_Gaps (l:List api_File) (source:Int):Option ((List Int) × (List api_File)) :=
  req ((0≤(10000:Int)∧(10000:Int)*1≤140737488355328)) <|
  (iter (exchange_Gaps_l6 l source) ((-1:Int),(0:Int),(rep (10000:Int) false))).bind fun (greatest2,w2) =>
  exchange_Gaps_j4 l greatest2 w2
/-- (ptr awardingbody awardingbodymake.Tape).Order -/
noncomputable def make_Tape_Order_j1 (out:List Int) (t1:List Int) (t2:Int):Option ((List Int) × make_Tape) :=
  some (out,(make_Tape.mk t1 t2))
noncomputable def make_Tape_Order_l2 (n:Int):((List Int) × Int × (List Int) × Int)→Option (((List Int) × Int × (List Int) × Int) ⊕ ((List Int) × (List Int) × Int)) :=
  fun (out1,i,t3,t4) =>
    bif (decide (i<n)) then
      (make_Tape_Next (make_Tape.mk t3 t4) (IntKind.i64.wrap (i+(1:Int)))).bind fun (y,y1) =>
      req ((0≤y∧y≤(out1.length:Int))∧(([]:List Int).length+(List.take y.toNat out1).length)*8≤140737488355328) <|
      req (((([]:List Int) ++ (List.take y.toNat out1)).length+([i]).length)*8≤140737488355328) <|
      req ((0≤y∧y≤(out1.length:Int))∧(((([]:List Int) ++ (List.take y.toNat out1)) ++ [i]).length+(List.drop y.toNat out1).length)*8≤140737488355328) <|
      bindV (((([]:List Int) ++ (List.take y.toNat out1)) ++ [i]) ++ (List.drop y.toNat out1)) fun next =>
      some (.inl (next,(IntKind.i64.wrap (i+(1:Int))),y1.L,y1.At))
    else
      some (.inr (out1,t3,t4))
noncomputable def make_Tape_Order (t:make_Tape) (n:Int):Option ((List Int) × make_Tape) :=
  (iter (make_Tape_Order_l2 n) (([]:List Int),(0:Int),t.L,t.At)).bind fun (out2,t5,t6) =>
  make_Tape_Order_j1 out2 t5 t6
/-- (ptr awardingbody awardingbodymake.Tape).Mixed -/
noncomputable def make_Tape_Mixed_j1 (out:List Int) (t1:List Int) (t2:Int):Option ((List Int) × make_Tape) :=
  some (out,(make_Tape.mk t1 t2))
noncomputable def make_Tape_Mixed_l2 (n:Int):((List Int) × Int × (List Int) × Int)→Option (((List Int) × Int × (List Int) × Int) ⊕ ((List Int) × (List Int) × Int)) :=
  fun (out1,i,t3,t4) =>
    bif ((decide ((0:Int)<i))&&(decide ((0:Int)<n))) then
      (make_Tape_Next (make_Tape.mk t3 t4) (IntKind.i64.wrap ((out1.length:Int)+(1:Int)))).bind fun (y4,y5) =>
      (make_Tape_Next y5 n).bind fun (y6,y7) =>
      req ((0≤y4∧y4≤(out1.length:Int))∧(([]:List Int).length+(List.take y4.toNat out1).length)*8≤140737488355328) <|
      req (((([]:List Int) ++ (List.take y4.toNat out1)).length+([y6]).length)*8≤140737488355328) <|
      req ((0≤y4∧y4≤(out1.length:Int))∧(((([]:List Int) ++ (List.take y4.toNat out1)) ++ [y6]).length+(List.drop y4.toNat out1).length)*8≤140737488355328) <|
      bindV (((([]:List Int) ++ (List.take y4.toNat out1)) ++ [y6]) ++ (List.drop y4.toNat out1)) fun next =>
      some (.inl (next,(IntKind.i64.wrap (i-(1:Int))),y7.L,y7.At))
    else
      some (.inr (out1,t3,t4))
noncomputable def make_Tape_Mixed (t:make_Tape) (n:Int):Option ((List Int) × make_Tape) :=
  (make_Tape_Order t n).bind fun (y,y1) =>
  (make_Tape_Next y1 (4:Int)).bind fun (y2,y3) =>
  (iter (make_Tape_Mixed_l2 n) (y,y2,y3.L,y3.At)).bind fun (out2,t5,t6) =>
  make_Tape_Mixed_j1 out2 t5 t6
/-- awardingbody awardingbodylaw03.ExchangeGapsClose -/
noncomputable def law03_ExchangeGapsClose_j1 (m1:List api_File):Option Bool :=
  (exchange_Gaps m1 (1:Int)).bind fun (y10,y11) =>
  req (y11.length=m1.length∧(((y10.length:Int)==(0:Int))=true→(law03_awake).isSome=true)) <|
  some (((y10.length:Int)==(0:Int))&&((law03_awake).getD default))
noncomputable def law03_ExchangeGapsClose_l2 (y5:List Int):(Int × (List api_File))→Option ((Int × (List api_File)) ⊕ (List api_File)) :=
  fun (i,m2) =>
    bif (decide (i<(y5.length:Int))) then
      req ((0≤i∧i<(y5.length:Int))∧(m2.length+([(api_File.mk ([65]:Str) (1:Int) (ix y5 i) ([]:List (List Str)))]).length)*56≤140737488355328) <|
      bindV (m2 ++ [(api_File.mk ([65]:Str) (1:Int) (ix y5 i) ([]:List (List Str)))]) fun m4 =>
      some (.inl ((IntKind.i64.wrap (i+(1:Int))),m4))
    else
      some (.inr m2)
noncomputable def law03_ExchangeGapsClose_j3 (y1:List api_File) (m:List api_File):Option Bool :=
  (exchange_Gaps y1 (1:Int)).bind fun (y5,y6) =>
  req (y6.length=y1.length) <|
  (exchange_Gaps m (1:Int)).bind fun (y7,y8) =>
  req (y8.length=m.length) <|
  (law03_ints y5 y7).bind fun y9 =>
  bif (!y9) then
    some false
  else
    (iter (law03_ExchangeGapsClose_l2 y5) ((0:Int),y8)).bind fun m3 =>
    law03_ExchangeGapsClose_j1 m3
noncomputable def law03_ExchangeGapsClose_l4 (y1:List api_File) (y3:List Int):(Int × (List api_File))→Option ((Int × (List api_File)) ⊕ (List api_File)) :=
  fun (i1,m5) =>
    bif (decide (i1<(y3.length:Int))) then
      req ((0≤i1∧i1<(y3.length:Int))∧(0≤(ix y3 i1)∧(ix y3 i1)<(y1.length:Int))∧(m5.length+([(ix y1 (ix y3 i1))]).length)*56≤140737488355328) <|
      some (.inl ((IntKind.i64.wrap (i1+(1:Int))),(m5 ++ [(ix y1 (ix y3 i1))])))
    else
      some (.inr m5)
noncomputable def law03_ExchangeGapsClose (t:List Int):Option Bool :=
  (make_New t).bind fun y =>
  (law03_files y).bind fun (y1,y2) =>
  (make_Tape_Mixed y2 (y1.length:Int)).bind fun (y3,y4) =>
  (iter (law03_ExchangeGapsClose_l4 y1 y3) ((0:Int),([]:List api_File))).bind fun m6 =>
  law03_ExchangeGapsClose_j3 y1 m6
end Go.LS
